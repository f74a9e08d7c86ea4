/-
  FnUsedFromStepUptoSaid: the law FnUsedFromStep returns true at every argument of bulk at most 1048576, and the argument reads behind the call as it read before.
-/
import Derived.Test.YthllacimcjakdaaGreatUfsD
import Derived.Test.YthllacimcjakdaaGreatRows
import Derived.WalkKit
import Derived.ProofKit
import Derived.OpenShut
import Derived.JoinedCond
import Derived.ReadAgain
set_option linter.all false
set_option linter.unusedVariables false
set_option linter.unusedSimpArgs false
set_option linter.unusedSectionVars false
set_option maxRecDepth 10000
set_option maxHeartbeats 4000000
namespace Go.Abs
open Go.Proofs
theorem LA (v:Int) (q:Nat) (g:Hd) (xs:LI) (hl:xs.length<=1000000000:=by exact ob):Zi 106 [.i v,.p q 0] [.obj q [.h g],rV g xs] (fun r h=>∃(w:Hd),h=[.obj q [.h w],rV w (xs++[v])]):=by
 exact ZB 7 Tryz.func106 (az (Z5 2 [0] (iL (Z7 [v]) 1 1 fun v1=>ZA 0 [(5,Z6 [v])] (QI 2 g xs [v] none fun v2=>Zy 2 q [.h v2] (ie (r2 [0,0] [] ⟨v2,rfl⟩ (lr _)))))))
theorem Z44 (s:Z3) (q:Nat) (g:Hd) (xs:LI) (ih:∀(b2:Z4) (k2:Nat) (q:Nat) (g:Hd) (xs2:LI),(b2.sz<s.sz)->(k2<=b2.steps.length)->(xs2.length+b2.sz<=1000000000)->Zi 105 [ZC b2,.i k2,.val (.func (.func 106) #[] #[.pointer (some ⟨q,0,none⟩)])] [.obj q [.h g],rV g xs2] (fun r h=>∃(w:Hd),h=[.obj q [.h w],rV w (xs2++(Wd (b2.steps.drop k2)++[b2.result]))])) (hz:xs.length+s.sz<=1000000000):Zi 146 [Yj s,.val (.func (.func 106) #[] #[.pointer (some ⟨q,0,none⟩)])] [.obj q [.h g],rV g xs] (fun r h=>∃(w:Hd),h=[.obj q [.h w],rV w (xs++vS s)]):=by
 have hkz:=U9 s
 have haz:=T5 s
 have hse:=s.sz_eq
 refine ZB 33 Tryz.func146 (ar (iA (X9 s) fun b1=>ie (aq (ar (Z5 2 [0] (Zr [] (RH s.op) (ie (ac (YA s.op) Iff.rfl (fun Za=>?_) (fun Za=>?_)))))))))
 ·exact Z9 (r2 [1,1] [] ⟨g,rfl⟩ (lr _) (eq:=(rc (rv (xs:=xs) (by rw [G3,Zw (by assumption),Tn]) rz))))
 refine ak (aq (ar (Z5 2 [0] (iw (Y2 s.args) (Z0 1 (ie (ab 0 (ZX (fun fz gz m F h=>∃(j:Nat) (ys:LI) (u:Hd),(j<=s.args.length)/\(ys.length=xs.length+j)/\(ys++s.args.drop j=xs++s.args)/\F=sF [1,2,12,13] fz [(14,.i j)]/\h=[Ze gz 0,.obj q [.h u],rV u ys]/\m=s.args.length-j) _ _ _ ⟨0,xs,g,ob,ob,rfl,rfl,rfl,rfl⟩ (ZP 3 (Y7 fl)) ?_))))))))
 rintro m F h ⟨j,ys,u,Ya,Zm,Zo,rfl,rfl,rfl⟩
 refine ar (Z0 1 (ie (aq (ZH ((j:Int)<(s.args.length:Int)) (fun Zg=>?_) (fun Zg=>?_)))))
 ·refine ak (aq (ab 1 (ar ?_)))
  obtain ⟨x1,Z2⟩:=Zp s.args j om
  refine Zn (Zh none (j:Int) 1 (ZU Z2)) (Z0 2 (ie (az (Z0 2 (ic [1,1] (LA x1 q u ys) ?_)))))
  rintro _ _ ⟨w1,rfl⟩
  exact ie (az (ZE j (Z0 1 (ie (ZG ⟨j+1,(ys++[x1]),w1,ob,(by simp;omega),(by rw [Ye Z2] at Zo;rw [<-Zo];simp),rfl,rfl,rfl⟩ (wk [2,0,0] (ZJ j fl)))))))
 have hA:ys=xs++s.args:=by rw [Xk om,Tn] at Zo;exact Zo
 refine ax 0 (ar (Z5 2 [0] (iw (Vi s.kids) (Z0 1 (ie (ab 2 (ZX (fun fz gz m F h=>∃(i:Nat) (zs:LI) (u2:Hd),(i<=s.kids.length)/\(zs.length+YH (s.kids.drop i)<=xs.length+s.args.length+YH s.kids)/\(zs++UZ (s.kids.drop i)=ys++UZ s.kids)/\F=sF [1,23,24] fz [(25,.i i)]/\h=[.obj q [.h u2],rV u2 zs]/\m=s.kids.length-i) _ _ _ ⟨0,ys,u,ob,(by rw [Jj];omega),rfl,rfl,rfl,rfl⟩ (wk [1,1] (Y7 fl)) ?_)))))))
 rintro m F h ⟨i,zs,u2,U4,Wy,Xe,rfl,rfl,rfl⟩
 refine ar (Z0 1 (ie (aq (ZH ((i:Int)<(s.kids.length:Int)) (fun ZK=>?_) (fun ZK=>?_)))))
 ·refine ak (aq (ab 3 (ar ?_)))
  obtain ⟨x2,Zt⟩:=Zp s.kids i om
  have hks:=VX Zt
  have hbd:=Nq Zt
  refine Zn (Zh none (i:Int) 2 (Vt Zt)) (Z0 1 (iA [nl,.i 0] fun b2=>Zy 0 b2 (YG x2) (ie (az (Z5 2 [0] (ic [1,1] (ih x2 0 q u2 zs ob (T2 _) ob) ?_))))))
  rintro _ _ ⟨w2,rfl⟩
  exact ie (az (ZE i (Z0 1 (ie (ZG ⟨i+1,(zs++(Wd (x2.steps.drop 0)++[x2.result])),w2,ob,(by have h1:=Mt x2;rw [Ms] at h1;simp only [Yb,Jj] at h1 ⊢;omega),(by have h1:=Z3v Zt Xe;rw [Ms] at h1;exact h1),rfl,rfl,rfl⟩ (wk [0,0] (ZJ i fl)))))))
 exact ax 2 (r2 [0,0] [] ⟨u2,rfl⟩ (lr _) (eq:=(rc (rv (xs:=zs) (by rw [G3,Zs (by assumption),<-Ua,<-hA];exact Z3u om Xe) rz))))
theorem Z46 (b:Z4) (k0:Nat) (q:Nat) (g:Hd) (xs:LI) (ih:∀(s2:Z3) (q:Nat) (g:Hd) (xs2:LI),(s2.sz<b.sz)->(xs2.length+s2.sz<=1000000000)->Zi 146 [Yj s2,.val (.func (.func 106) #[] #[.pointer (some ⟨q,0,none⟩)])] [.obj q [.h g],rV g xs2] (fun r h=>∃(w:Hd),h=[.obj q [.h w],rV w (xs2++vS s2)])) (hk:k0<=b.steps.length) (hz:xs.length+b.sz<=1000000000):Zi 105 [ZC b,.i k0,.val (.func (.func 106) #[] #[.pointer (some ⟨q,0,none⟩)])] [.obj q [.h g],rV g xs] (fun r h=>∃(w:Hd),h=[.obj q [.h w],rV w (xs++(Wd (b.steps.drop k0)++[b.result]))]):=by
 have hbz:=WQ b
 have hbe:=b.sz_eq
 have hsd:=AM b.steps k0
 have hdl:(b.steps.drop k0).length=b.steps.length-k0:=KE
 refine ZB 25 Tryz.func105 (ar (iA (YG b) fun b1=>?_))
 refine ie (aq (ar (Z5 3 [0] (Zn (Kz (es:=Zk b.steps) (hv:=none) (l:=(k0:Int)) (m:=(((Zk b.steps).length:Nat):Int)) (sz:=5) (es':=Zk (b.steps.drop k0)) kr om (by simp<;>omega) (by simp<;>omega) (YQ _) (by first|(simp only [U1,Va,TX,TW];done)|(simp only [U1,Va,TX,TW];rfl)|(simp [TX,TW];done))) (io (.i (((b.steps.drop k0).length:Nat):Int)) (.i (((Zk (b.steps.drop k0)).length:Nat):Int)) (li (by rw [W2])) (Z0 1 (ie (ab 0 (ZX (fun fz gz m F h=>∃(k:Nat) (ys:LI) (u:Hd),(k<=(b.steps.drop k0).length)/\(ys.length+Y5 ((b.steps.drop k0).drop k)<=xs.length+Y5 (b.steps.drop k0))/\(ys++Wd ((b.steps.drop k0).drop k)=xs++Wd (b.steps.drop k0))/\F=sF [2,3,11,12] fz [(13,.i k)]/\h=[Ze gz 0,.obj q [.h u],rV u ys]/\m=(b.steps.drop k0).length-k) _ _ _ ⟨0,xs,g,ob,(YI _),rfl,rfl,rfl,rfl⟩ (ZP 3 (Y7 fl)) ?_)))))))))
 rintro m F h ⟨k,ys,u,Ya,Zm,Zo,rfl,rfl,rfl⟩
 refine ar (Z0 1 (ie (aq (ZH ((k:Int)<(((b.steps.drop k0).length:Nat):Int)) (fun Za=>?_) (fun Za=>?_)))))
 ·refine ak (aq (ab 1 (ar ?_)))
  obtain ⟨x1,Z2⟩:=Zp (b.steps.drop k0) k om
  have hss:=TG (b:=b) (by have h:=Z2;rw [DE] at h;exact h)
  have hsd1:=FK Z2
  have hvl:=Mv x1
  refine Zn (Zh none (k:Int) 5 (XB Z2)) (Z0 1 (iA [.i 0,.i 0,.i 0,nl,nl] fun b2=>Zy 0 b2 (X9 x1) (ie (az (Z5 2 [0] (ic [2,2] (ih x1 q u ys ob ob) ?_))))))
  rintro _ _ ⟨w1,rfl⟩
  exact ie (az (ZE k (Z0 1 (ie (ZG ⟨k+1,(ys++vS x1),w1,ob,(by rw [Yb];omega),(Z3x (xs:=xs) Z2 Zo),rfl,rfl,rfl⟩ (wk [3,0,0] (ZJ k fl)))))))
 refine ax 0 (az (Z5 3 [0] (ic [1,1] (LA b.result q u ys) ?_)))
 rintro _ _ ⟨w2,rfl⟩
 exact ie (r2 [0,0] [] ⟨w2,rfl⟩ (lr _) (eq:=(rc (rv (xs:=(ys++[b.result])) (by have h:=Z3w om Zo;rw [<-Ua,<-h]) rz))))
theorem Z47 (k:Nat):(∀(s:Z3) (q:Nat) (g:Hd) (xs:LI),(s.sz<=k)->(xs.length+s.sz<=1000000000)->Zi 146 [Yj s,.val (.func (.func 106) #[] #[.pointer (some ⟨q,0,none⟩)])] [.obj q [.h g],rV g xs] (fun r h=>∃(w:Hd),h=[.obj q [.h w],rV w (xs++vS s)]))/\(∀(b:Z4) (k0:Nat) (q:Nat) (g:Hd) (xs:LI),(b.sz<=k)->(k0<=b.steps.length)->(xs.length+b.sz<=1000000000)->Zi 105 [ZC b,.i k0,.val (.func (.func 106) #[] #[.pointer (some ⟨q,0,none⟩)])] [.obj q [.h g],rV g xs] (fun r h=>∃(w:Hd),h=[.obj q [.h w],rV w (xs++(Wd (b.steps.drop k0)++[b.result]))])):=by
 induction k with
 | zero=>exact ⟨fun s q g xs h=>by have:=s.sz_pos;omega,fun b k0 q g xs h=>by have:=b.sz_pos;omega⟩
 | succ k ih=>exact ⟨fun s q g xs h hz=>Z44 s q g xs (fun b2 k2 q g xs2 h2 hk h3=>ih.2 b2 k2 q g xs2 om hk h3) hz,fun b k0 q g xs h hk hz=>Z46 b k0 q g xs (fun s2 q g xs2 h2 h3=>ih.1 s2 q g xs2 om h3) hk hz⟩
theorem Z45 (b:Z4) (k0:Nat) (q:Nat) (g:Hd) (xs:LI) (hk:k0<=b.steps.length:=by exact ob) (hz:xs.length+b.sz<=1000000000:=by exact ob):Zi 105 [ZC b,.i k0,.val (.func (.func 106) #[] #[.pointer (some ⟨q,0,none⟩)])] [.obj q [.h g],rV g xs] (fun r h=>∃(w:Hd),h=[.obj q [.h w],rV w (xs++(Wd (b.steps.drop k0)++[b.result]))]):=(Z47 b.sz).2 b k0 q g xs (YI _) hk hz
theorem RI (b:Z4) (k0:Nat) (hk:k0<=b.steps.length:=by exact ob) (hz:b.sz<=100000000:=by exact ob):Zi 73 [ZC b,.i k0] [] (fun r h=>∃(w:Hd),r=.h w/\h=[rV w (AJ b k0)]):=by
 have hvl:=Dx (b.steps.drop k0)
 have hsd:=AM b.steps k0
 have hbe:=b.sz_eq
 have hll:([]++(Wd (b.steps.drop k0)++[b.result])).length<=100000000:=by simp;omega
 have hne:[]++(Wd (b.steps.drop k0)++[b.result])≠[]:=by simp
 refine ZB 14 Tryz.func73 (ar (iA (YG b) fun b1=>Z0 1 (ie (ar (iA [nl] fun b2=>Xg (Mh 0 b2 [nl] [.h hN] (.cons (Zf.hd (v:=hN)) .nil)) (Xg (JY) (ie (ar (Z5 3 [2] (ic [1,0] (Z45 b k0 b2 hN [] (hz:=(by simp;omega))) ?_))))))))))
 rintro _ _ ⟨w1,rfl⟩
 refine ie (ar (Z5 1 [0] (ic [1] (Z1n w1 ([]++(Wd (b.steps.drop k0)++[b.result])) om hne) ?_)))
 rintro _ _ rfl
 refine ie (ar (Z5 1 [1] (ic [0] (NN w1 (Je ([]++(Wd (b.steps.drop k0)++[b.result]))) (by simp only [Je,List.length_mergeSort];omega) (Z1m hne)) ?_)))
 rintro _ _ ⟨u1,rfl,rfl⟩
 exact Z0 1 (ie (Z9 (r1 [0] ⟨u1,rfl,rfl⟩ (eq:=(rv (xs:=(Lib.compact (Je ([]++(Wd (b.steps.drop k0)++[b.result]))))) rfl rz)))))
theorem RJ (b:Z4) (k:Int) (hk:0<=k/\k<=b.steps.length:=by exact ob) (hz:b.sz<=100000000:=by exact ob):Zi 73 [ZC b,.i k] [] (fun r h=>∃(w:Hd),r=.h w/\h=[rV w (AJ b k.toNat)]):=by obtain ⟨k0,rfl⟩:∃k0:Nat,k=(k0:Int):=⟨k.toNat,by omega⟩;exact RI b k0 om hz
theorem Z1v (b:Z4) (q:Int) (k:Int) (hk:0<=k/\k<=b.steps.length:=by exact ob) (hz:b.sz<=1000000000:=by exact ob):Zi 83 [ZC b,.i q,.i k,Z6 []] [] (Ym (Z6 (uF q b k.toNat))):=by obtain ⟨k0,rfl⟩:∃k0:Nat,k=(k0:Int):=⟨k.toNat,by omega⟩;exact FE b q k0 [] om (by simpa using hz)
theorem Nj (v:Int) (n:Int) (q:Nat) :Zi 110 [.i v,.p q 0] [.obj q [.i n]] (fun r h=>r=.b ((decide (v>=0))&&(decide (v<n)))/\h=[.obj q [.i n]]):=by
 refine ZB 11 Tryz.func110 (ar (Z0 1 (ie (ar (Wf 7 [] [(10,.b ((decide (v>=0))&&(decide (v<n))))] (fun gz=>gz) ?_ (fun hj1=>?_))))))
 ·exact Z0 1 (ie (Z9 (r1 [0] ⟨rfl,rfl⟩)))
 refine Z0 3 (ib (b:=(decide (v>=0))) 6 (fun Zb=>?_) (fun Zb=>?_))
 ·have ZQ:v>=0:=(dq).1 Zb
  exact Z5 4 [0] (YU (wk [0] (ZI (decide (v<n)) Zb fl)) hj1)
 have Y6:¬(v>=0):=YC dq Zb
 exact Z0 4 (YU (wk [0] (ZI false Zb fl)) hj1)
theorem Nk (xs:LI) (n:Int) (q:Nat) (hl_xs:xs.length<=4294967296:=by exact ob):Zi 109 [Z6 xs,.val (.func (.func 110) #[] #[.pointer (some ⟨q,0,none⟩)])] [.obj q [.i n]] (fun r h=>∃(v:Value),r=ZO (Ud xs n) v/\h=[.tail v 1,.obj q [.i n]]):=by
 refine ZB 23 Tryz.func109 (ar (Z0 1 (ie (ar (Z0 1 (ie (aq (ar (Z0 1 (iw (Y2 xs) (Z0 1 (ie (ab 0 (MS 1 (ZX (fun fz gz m F h=>∃(k:Nat) (acc:LI) (u:Value),(k<=xs.length)/\(acc.length<=k)/\(acc++Ud (xs.drop k) n=Ud xs n)/\F=sF [1,8,9] fz [(5,ZO acc u),(10,.i k)]/\h=[Ze gz 1,.tail u 1]/\m=xs.length-k) _ _ _ ⟨0,[],(.slice none 0 0),ob,ob,ob,rfl,rfl,rfl⟩ (wk [1,0] (fc (x:=nl) (Zf.slh _ (by first|rfl|(subst_vars;rfl))) (Y7 fl))) ?_)))))))))))))))
 rintro m F h ⟨k,acc,u,Ya,Zm,Zo,rfl,rfl,rfl⟩
 refine ar (Z0 1 (ie (aq (ZH ((k:Int)<(xs.length:Int)) (fun Za=>?_) (fun Za=>?_)))))
 ·refine ak (aq (ab 1 (ar ?_)))
  obtain ⟨x1,Z2⟩:=Zp xs k om
  refine Zn (Zh none (k:Int) 1 (ZU Z2)) (Z0 2 (ie (ar (Z0 2 (Zr [0] (Nj x1 n q) (ie (KV (fun fz gz F h=>∃(w:Value),F=sF [1,8,9,10] fz [(5,ZO (if 0<=x1/\x1<n then acc++[x1] else acc) w)]/\h=[Ze gz 0,.tail w 1]) (fun _ _=>rfl) ?_ ?_)))))))
  ·refine ac ((decide (x1>=0))&&(decide (x1<n))) (p:=0<=x1/\x1<n) (X6 dq dq) (fun Zg=>?_) (fun Zg=>?_)
   ·exact az (Z0 2 (iL (Z7 [x1]) 1 1 fun v1=>ZA 0 [(19,Z6 [x1])] (ip 2 (Z7 (acc++[x1])) (Z7 acc) (Z7 [x1]) u none 1 (Yl _) (Yl _) (XF _) (by simp<;>omega) (by simp [XD,Z7]) fun v2=>Z0 1 (ie (ZF ⟨v2,rfl,rfl⟩ (wk [2,0] (fc (x:=ZO (acc++[x1]) v2) (Zf.slh _ (Yh Z7 (by first|rfl|(rw [Zw Zg])|(rw [Zs Zg])|(simp [Zg];done)|(rw [Xi];simp [Zg];done)|omega))) fl)))))))
   exact ak (ZF ⟨u,rfl,rfl⟩ (wk [0,0] (fc (x:=ZO acc u) (Zf.slh _ (Yh Z7 (by first|rfl|(rw [Zw Zg])|(rw [Zs Zg])|(simp [Zg];done)|(rw [Xi];simp [Zg];done)|omega))) fl)))
  rintro F h ⟨w,rfl,rfl⟩
  exact az (ZE k (Z0 1 (ie (ZG ⟨k+1,(if 0<=x1/\x1<n then acc++[x1] else acc),w,ob,(by split<;>(try simp)<;>omega),(Nm Z2 Zo),rfl,rfl,rfl⟩ (wk [0,0] (fr (ZJ k fl)))))))
 exact ax 0 (ar (Z0 2 (ie (Z9 (r2 [1,0] [ZO acc u] ⟨u,rfl,rfl⟩ (Zf.slh _ (Yh Z7 (Nl om Zo))))))))
theorem Z1k (xs:LI) (n:Int) (hl_xs:xs.length<=4294967296:=by exact ob):Zi 74 [Z6 xs,.i n] [] (fun r h=>∃(v:Value),r=ZO (Ud xs n) v/\h=[.tail v 1]):=by
 refine ZB 8 Tryz.func74 (ar (iA [.i n] fun b1=>Z0 1 (ie (ar (Z0 2 (ic [0] (Nk xs n b1) ?_))))))
 rintro _ _ ⟨v1,rfl,rfl⟩
 exact Z0 1 (ie (Z9 (r1 [0] ⟨v1,rfl,rfl⟩)))
theorem RD (b:Z4) (n:Int) (k:Int) (hb:b.sz<=20000000:=by exact ob):Zi 43 [ZC b,.i n,.i k] [] (Ym (Z6 (YX b n k))):=by
 have hsl:=Z1j b k.toNat
 refine ZB 26 Tryz.func43 (ar (iA (YG b) fun b1=>Z0 1 (ie (aq (ar (Z5 1 [0] (Zr [] (HV b) (Wf 7 [1,2,3] [(13,.b ((decide ((Xz b)<0))||(decide (k<0))))] (fun gz=>gz) ?_ (fun hj1=>?_)))))))))
 ·refine Xs [1,2,3] [(20,.b (((decide ((Xz b)<0))||(decide (k<0)))||(decide (k>(b.steps.length:Int)))))] (fun gz=>gz) ?_ ?_
  ·refine Z0 1 (ib (b:=((decide ((Xz b)<0))||(decide (k<0)))) 14 (fun Zb=>?_) (fun Zb=>?_))
   ·have ZQ:((Xz b)<0)∨(k<0):=((YS dq dq)).1 Zb
    exact Z0 6 (ie (wk [0] (ZI true Zb fl)))
   have Y6:¬(((Xz b)<0)∨(k<0)):=YC (YS dq dq) Zb
   exact Z5 3 [0] (iw (W2 b.steps) (Z0 2 (ie (wk [0] (ZI (decide (k>(b.steps.length:Int))) Zb fl)))))
  refine ac (((decide ((Xz b)<0))||(decide (k<0)))||(decide (k>(b.steps.length:Int)))) (p:=(((Xz b)<0)∨(k<0))∨(k>(b.steps.length:Int))) (YS (YS dq dq) dq) (fun Za=>?_) (fun Za=>?_)
  ·exact ar (Z0 1 (ie (Z9 (ZY (nl) (Zf.sl _ (by rw [YX,Zw om];rfl))))))
  refine ak (ar (Z5 2 [0] (ic [] (RJ b k (hk:=om)) ?_)))
  rintro _ _ ⟨w1,rfl,rfl⟩
  refine Z0 1 (Rk [0] [rV w1 (AJ b k.toNat)] (Z1k (AJ b k.toNat) n) NE (gL (v:=w1) 0 (gS gN)) (TA Qi) ?_)
  rintro _ _ ⟨v1,rfl,rfl⟩
  exact Z0 1 (ie (Z9 (ZY (ZO (Ud (AJ b k.toNat) n) v1) (Zf.sl _ (Yh Z7 (by rw [YX,Zs om];exact Z1l n b k.toNat))))))
 refine Z0 2 (ib (b:=(decide ((Xz b)<0))) 10 (fun ZM=>?_) (fun ZM=>?_))
 ·have YB:(Xz b)<0:=(dq).1 ZM
  exact Z0 3 (YU (wk [0] (ZI true ZM fl)) hj1)
 have YJ:¬((Xz b)<0):=YC dq ZM
 exact Z0 3 (YU (wk [0] (ZI (decide (k<0)) ZM fl)) hj1)
theorem FD (b:Z4) (n:Int) (k:Int) (hb:b.sz<=20000000:=by exact ob):Zi 44 [ZC b,.i n,.i k] [] (Ym (Z6 (YX b n k))):=by
 refine ZB 23 Tryz.func44 (ar (iA (YG b) fun b1=>Z0 1 (ie (aq (ar (Z5 1 [0] (Zr [] (LY b) (Xs [1,2,3] [(17,.b ((decide ((Xz b)<0))||(!(decide (0<=k/\k<=(b.steps.length:Int))))))] (fun gz=>gz) ?_ ?_))))))))
 ·refine Z0 2 (ib (b:=(decide ((Xz b)<0))) 10 (fun Zb=>?_) (fun Zb=>?_))
  ·have ZQ:(Xz b)<0:=(dq).1 Zb
   exact Z0 7 (ie (wk [0] (ZI true Zb fl)))
  have Y6:¬((Xz b)<0):=YC dq Zb
  exact Z5 3 [0] (iw (W2 b.steps) (Zr [] (VA k 0 (b.steps.length:Int)) (Z0 2 (ie (wk [0] (ZI (!(decide (0<=k/\k<=(b.steps.length:Int)))) Zb fl))))))
 refine ac ((decide ((Xz b)<0))||(!(decide (0<=k/\k<=(b.steps.length:Int))))) (p:=((Xz b)<0)∨(¬(0<=k/\k<=(b.steps.length:Int)))) (YS dq (YR dq)) (fun Za=>?_) (fun Za=>?_)
 ·exact ar (Z0 1 (ie (Z9 (ZY (nl) (Zf.sl _ (by rw [YX,Zw om];rfl))))))
 exact ak (ar (Z5 3 [0] (iL (Z7 []) 0 1 fun v1=>ZA 0 [(21,Z6 [])] (Zr [] (Z1v b n k (hk:=om)) (Z0 1 (ie (Z9 (ZY (Z6 (uF n b k.toNat)) (Zf.sl _ (Yh Z7 (by rw [YX,Zs om])))))))))))
theorem F5 (xs:LI) (ys:LI) (hxl:xs.length<=1000000000:=by exact ob) (hyl:ys.length<=1000000000:=by exact ob):Zi 27 [Z6 xs,Z6 ys] [] (Ym (.b (decide (xs=ys)))):=by
 refine ZB 26 Tryz.func27 (ar (Z0 1 (ie (aq (ar (Z0 1 (iw (Y2 xs) (Z0 1 (iw (Y2 ys) (Z0 1 (ie (ac ((xs.length:Int) != (ys.length:Int)) X7 (fun Za=>?_) (fun Za=>?_)))))))))))))
 ·exact ar (Z0 1 (ie (Z9 (ZY (.b false) (lb (decide_eq_false (fun z=>Za (by rw [z]))).symm)))))
 refine ak (aq (ar (Z0 1 (ie (ab 0 (ZX (fun fz gz m F h=>∃(k:Nat),(k<=xs.length)/\(∀i,i<k->xs[i]? = ys[i]?)/\F=sF [0,1] fz [(5,.i k)]/\h=gz/\m=xs.length-k) _ _ _ ⟨0,ob,(fun i h=>absurd h om),rfl,rfl,rfl⟩ (wk [] (Y7 fl)) ?_))))))
 rintro m F h ⟨k,Ya,Zm,rfl,rfl,rfl⟩
 refine aq (ar (Z0 2 (iw (Y2 xs) (Z0 1 (ie (ZH ((k:Int)<(xs.length:Int)) (fun Zg=>?_) (fun Zg=>?_)))))))
 ·refine ak (aq (ab 1 (aD 9 (Zj 7 9 [0,1] ?_))))
  obtain ⟨x1,Z2⟩:=Zp xs k om
  refine dx 2 (Zh none (k:Int) 1 (ZU Z2)) (Zj 3 6 [3,4,5] ?_)
  obtain ⟨x2,Zt⟩:=Zp ys k om
  refine dx 6 (Zh none (k:Int) 1 (ZU Zt)) (Zj 0 2 [7,8] (de (ac (x1 != x2) X7 (fun ZK=>?_) (fun ZK=>?_))))
  ·exact ar (Z0 1 (ie (Z9 (ZY (.b false) (lb (decide_eq_false (fun z=>ZK (by rw [z,Zt] at Z2;cases Z2;rfl))).symm)))))
  exact ak (az (Z0 1 (ZE k (Z0 1 (ie (ZG ⟨k+1,ob,(fun i h=>(Nat.lt_succ_iff_lt_or_eq.1 h).elim (Zm i) (fun z=>by rw [z,Z2,Zt,AS.1 ZK])),rfl,rfl,rfl⟩ (wk [] (ZJ k fl))))))))
 exact ax 0 (ar (Z0 1 (ie (Z9 (ZY (.b true) (lb (decide_eq_true (OG om (fun i hi=>Zm i om))).symm))))))
theorem If (xs:LI) (n:Int) (hl:xs.length<=1000000000:=by exact ob):Zi 37 [Z6 xs,.i n] [] (Ym (.b (decide (n∈xs)))):=by
 refine ZB 18 Tryz.func37 (ar (Z0 1 (ie (aq (ar (Z0 1 (ie (ab 0 (ZX (fun fz gz m F h=>∃(k:Nat),(k<=xs.length)/\(n∉xs.take k)/\F=sF [0,1] fz [(5,.i k)]/\h=gz/\m=xs.length-k) _ _ _ ⟨0,ob,(by simp),rfl,rfl,rfl⟩ (wk [] (Y7 fl)) ?_)))))))))
 rintro m F h ⟨k,Ya,Zm,rfl,rfl,rfl⟩
 refine aq (ar (Z0 2 (iw (Y2 xs) (Z0 1 (ie (ZH ((k:Int)<(xs.length:Int)) (fun Za=>?_) (fun Za=>?_)))))))
 ·refine ak (aq (ab 1 (ar (Z0 2 ?_))))
  obtain ⟨x1,Z2⟩:=Zp xs k om
  refine Zn (Zh none (k:Int) 1 (ZU Z2)) (Z0 3 (ie (ac (x1==n) Zz (fun Zg=>?_) (fun Zg=>?_))))
  ·exact ar (Z0 1 (ie (Z9 (ZY (.b true) (lb (by rw [eq_comm,dq];have:=Zg;subst this;exact ZT Z2))))))
  exact ak (az (Z0 1 (ZE k (Z0 1 (ie (ZG ⟨k+1,ob,(SJ Z2 Zm Zg),rfl,rfl,rfl⟩ (wk [] (ZJ k fl))))))))
 exact ax 0 (ar (Z0 1 (ie (Z9 (ZY (.b false) (lb (by rw [eq_comm,decide_eq_false_iff_not];rwa [Vp om] at Zm)))))))
theorem Sc (s:Z3) :Zi 23 [Yj s] [] (Ym (.b (YA s.op))):=by
 refine ZB 11 Tryz.func23 (ar (iA (X9 s) fun b1=>Z0 1 (ie (ar (Wf 8 [] [(10,.b ((decide (s.op>=14))&&(decide (s.op<=17))))] (fun gz=>gz) ?_ (fun hj1=>?_))))))
 ·exact Z0 1 (ie (Z9 (ZY (.b ((decide (s.op>=14))&&(decide (s.op<=17)))) (lb (by rw [YA,Bool.decide_and])))))
 refine Z5 4 [0] (ib (b:=(decide (s.op>=14))) 6 (fun Zb=>?_) (fun Zb=>?_))
 ·have ZQ:s.op>=14:=(dq).1 Zb
  exact Z5 4 [0] (YU (wk [0] (ZI (decide (s.op<=17)) Zb fl)) hj1)
 have Y6:¬(s.op>=14):=YC dq Zb
 exact Z0 4 (YU (wk [0] (ZI false Zb fl)) hj1)
theorem P3 (rd:Nat) (bs:LI) (p:Nat) (Zq:∀z∈bs,0<=z/\z<=255) (hp:p+73706410<=1000000000:=by exact ob):Zi 71 [.p rd 0] [Y4 rd bs p] (fun r h=>∃(b:Z4) (p2:Nat),r=ZC b/\h=[Y4 rd bs p2]/\b.sz<=7330634/\b.rng/\p<=p2/\p2<=p+73706410):=by
 refine ZB 57 Tryz.func71 (ar (iA [nl,.i 0] fun b1=>ie (ar (Z0 1 (ic [1] (P5 rd bs p (Zq:=ob)) ?_)))))
 rintro _ _ ⟨n21,p21,rfl,rfl,ZQ⟩
 have haf:=ZQ
 refine iA [nl,nl] fun b2=>Zy 0 b2 (YE n21) (ie (aD 12 (ZD 7 12 [0,1,2,3,4] [0,0] (dw 5 (U5 n21.routines) (WD 6 10 ?_ ?_)))))
 ·refine dc 6 [1] [0] [b2] (UA rd bs p21 n21.routines.length (Zq:=ob) (hmx:=(by first|(have:=haf.1.len;omega)|omega))) ?_
  rintro _ _ ⟨Yf,rfl,rfl,Y6⟩
  obtain ⟨x1,Z2⟩:=Zp n21.routines Yf om
  have hz1:=haf.1.rt _ (ZT Z2)
  have hzl:=CR (x1).body
  have hze:=(x1).body.sz_eq
  refine dx 7 (Zh none (Yf:Int) 5 (Wn Z2)) (Zj 2 4 [8,9] (Z8 10 (dA 10 [1] [b2] [nl,.i 0] fun b3=>Z8 11 (Yo 11 0 [] [] b3 (YG x1.body) (de (ar (Z5 3 [0] (iw (W2 x1.body.steps) (ia (((x1.body.steps.length+1:Nat):Int)) (((x1.body.steps.length:Int))+(1)) (ic [1] (UA rd bs (p21+1) (x1.body.steps.length+1) (Zq:=ob) (hmx:=(by first|(have:=haf.1.len;omega)|omega))) ?_))))))))))
  rintro _ _ ⟨Yr,rfl,rfl,YB⟩
  refine Z0 1 (ie (aq (ar (Z5 3 [1] (iw (W2 x1.body.steps) (Z0 2 (ib (b:=(decide ((Yr:Int)<(x1.body.steps.length:Int)))) 29 (fun Zb=>?_) (fun Zb=>?_))))))))
  ·have YJ:(Yr:Int)<(x1.body.steps.length:Int):=(dq).1 Zb
   refine Z5 3 [1] ?_
   obtain ⟨x2,Zt⟩:=Zp x1.body.steps Yr om
   refine Zn (Zh none (Yr:Int) 5 (XB Zt)) (Z0 2 (iw (Vi x2.kids) (Z0 2 (ie (ZH ((x2.kids.length:Int)>0) (fun Za=>?_) (fun Za=>?_))))))
   ·refine aD 18 (ZD 15 18 [0,1,2] [1] (dx 3 (Zh none (Yr:Int) 5 (XB Zt)) (ZD 8 14 [4,5,6,7,8,9] [1] (dx 10 (Zh none (Yr:Int) 5 (XB Zt)) (Zj 5 7 [11,12] (dw 13 (Vi x2.kids) (Z8 14 (dc 14 [0] [0] [b3] (UA rd bs ((p21+1)+1) x2.kids.length (Zq:=ob) (hmx:=(by first|(have:=haf.1.len;omega)|omega))) ?_))))))))
    rintro _ _ ⟨Bu,rfl,rfl,YW⟩
    obtain ⟨x3,YT⟩:=Zp x2.kids Bu om
    have hkg:=Ib hz1.2.2 (by assumption) YT
    exact dx 15 (Zh none (Bu:Int) 2 (Vt YT)) (Zj 1 2 [16] (Z8 17 (Yo 17 3 [] [] b1 (YG x3) (de (Z9 (r3 [1] [ZC x3] [0] [(b1,b1)] ⟨x3,((p21+1)+1)+1,rfl,rfl,(by first|exact ⟨by omega,hkg.2,by omega,by omega⟩|exact ⟨by omega,hz1.2.2.2,by omega,by omega⟩)⟩ (lr _)))))))
   exact ak (ar (Z5 1 [1] (Zy 3 b1 (YG x1.body) (ie (Z9 (r3 [1] [ZC x1.body] [0] [(b1,b1)] ⟨x1.body,(p21+1)+1,rfl,rfl,(by first|exact ⟨by omega,hkg.2,by omega,by omega⟩|exact ⟨by omega,hz1.2.2.2,by omega,by omega⟩)⟩ (lr _)))))))
  have XI:¬((Yr:Int)<(x1.body.steps.length:Int)):=YC dq Zb
  exact Z0 9 (ie (Wk (ak (ar (Z5 1 [1] (Zy 3 b1 (YG x1.body) (ie (Z9 (r3 [1] [ZC x1.body] [0] [(b1,b1)] ⟨x1.body,(p21+1)+1,rfl,rfl,(by first|exact ⟨by omega,hkg.2,by omega,by omega⟩|exact ⟨by omega,hz1.2.2.2,by omega,by omega⟩)⟩ (lr _))))))))))
 refine dA 10 [0,0] [b2,b2] [nl,.i 0] fun b4=>Z8 6 (dc 6 [2] [1] [b2] (UA rd bs p21 n21.routines.length (Zq:=ob) (hmx:=(by first|(have:=haf.1.len;omega)|omega))) ?_)
 rintro _ _ ⟨VY,rfl,rfl,Wc⟩
 obtain ⟨x4,Tc⟩:=Zp n21.routines VY om
 have hz1:=haf.1.rt _ (ZT Tc)
 have hzl:=CR (x4).body
 have hze:=(x4).body.sz_eq
 refine dx 7 (Zh none (VY:Int) 5 (Wn Tc)) (Zj 1 3 [8,9] (Z8 11 (Yo 11 1 [] [] b4 (YG x4.body) (de (ar (Z5 3 [0] (iw (W2 x4.body.steps) (ia (((x4.body.steps.length+1:Nat):Int)) (((x4.body.steps.length:Int))+(1)) (ic [1] (UA rd bs (p21+1) (x4.body.steps.length+1) (Zq:=ob) (hmx:=(by first|(have:=haf.1.len;omega)|omega))) ?_)))))))))
 rintro _ _ ⟨JN,rfl,rfl,WF⟩
 refine Z0 1 (ie (aq (ar (Z5 3 [1] (iw (W2 x4.body.steps) (Z0 2 (ib (b:=(decide ((JN:Int)<(x4.body.steps.length:Int)))) 29 (fun ZM=>?_) (fun ZM=>?_))))))))
 ·have WY:(JN:Int)<(x4.body.steps.length:Int):=(dq).1 ZM
  refine Z5 3 [1] ?_
  obtain ⟨x5,UE⟩:=Zp x4.body.steps JN om
  refine Zn (Zh none (JN:Int) 5 (XB UE)) (Z0 2 (iw (Vi x5.kids) (Z0 2 (ie (ZH ((x5.kids.length:Int)>0) (fun Zg=>?_) (fun Zg=>?_))))))
  ·refine aD 18 (ZD 15 18 [0,1,2] [1] (dx 3 (Zh none (JN:Int) 5 (XB UE)) (ZD 8 14 [4,5,6,7,8,9] [1] (dx 10 (Zh none (JN:Int) 5 (XB UE)) (Zj 5 7 [11,12] (dw 13 (Vi x5.kids) (Z8 14 (dc 14 [0] [0] [b4] (UA rd bs ((p21+1)+1) x5.kids.length (Zq:=ob) (hmx:=(by first|(have:=haf.1.len;omega)|omega))) ?_))))))))
   rintro _ _ ⟨Ie,rfl,rfl,Uk⟩
   obtain ⟨x6,QH⟩:=Zp x5.kids Ie om
   have hkg:=Ib hz1.2.2 (by assumption) QH
   exact dx 15 (Zh none (Ie:Int) 2 (Vt QH)) (Zj 1 2 [16] (Z8 17 (Yo 17 3 [] [] b1 (YG x6) (de (Z9 (r3 [1] [ZC x6] [0] [(b1,b1)] ⟨x6,((p21+1)+1)+1,rfl,rfl,(by first|exact ⟨by omega,hkg.2,by omega,by omega⟩|exact ⟨by omega,hz1.2.2.2,by omega,by omega⟩)⟩ (lr _)))))))
  exact ak (ar (Z5 1 [1] (Zy 3 b1 (YG x4.body) (ie (Z9 (r3 [1] [ZC x4.body] [0] [(b1,b1)] ⟨x4.body,(p21+1)+1,rfl,rfl,(by first|exact ⟨by omega,hkg.2,by omega,by omega⟩|exact ⟨by omega,hz1.2.2.2,by omega,by omega⟩)⟩ (lr _)))))))
 have UD:¬((JN:Int)<(x4.body.steps.length:Int)):=YC dq ZM
 exact Z0 9 (ie (Wk (ak (ar (Z5 1 [1] (Zy 3 b1 (YG x4.body) (ie (Z9 (r3 [1] [ZC x4.body] [0] [(b1,b1)] ⟨x4.body,(p21+1)+1,rfl,rfl,(by first|exact ⟨by omega,hkg.2,by omega,by omega⟩|exact ⟨by omega,hz1.2.2.2,by omega,by omega⟩)⟩ (lr _))))))))))
theorem P2 (code:LI) (hcl:code.length<=1048576:=by exact ob) (hcb:∀z∈code,0<=z/\z<=255):Zi 42 [WZ code] [] (fun r h=>∃(b:Z4) (z:Int) (y:Int),r=.tup [ZC b,.i z,.i y]/\h=[]/\b.sz<=7330634/\b.rng/\(-1<=z/\z<=9)/\-1<=y/\y<=b.steps.length+1):=by
 refine ZB 33 Tryz.func42 (ar (iA [nl,.i 0] fun b1=>Z0 2 (ie (ar (Z0 1 (ic [] (PO code (hc:=hcb)) ?_))))))
 rintro _ _ ⟨rd1,bs1,rfl,rfl,ZQ⟩
 have hnr:=ZQ
 refine Z0 1 (ie (ar (Z0 1 (ic [0] (P3 rd1 bs1 0 (Zq:=hnr)) ?_))))
 rintro _ _ ⟨b2,p21,rfl,rfl,Y6⟩
 have hab:=Y6
 have hbl:=CR b2
 refine iA [nl,.i 0] fun b3=>Zy 0 b3 (YG b2) (ie (ar (Z0 1 (iL (Z7 [2,3,4,5,9,0]) 6 1 fun v1=>ZA 0 [(13,Z6 [2,3,4,5,9,0])] (ic [2] (WB rd1 bs1 p21 [2,3,4,5,9,0] (Zq:=hnr)) ?_)))))
 rintro _ _ ⟨z1,rfl,rfl,YB⟩
 refine Z0 1 (ie (aD 21 (ZD 15 21 [0,1,2,3,4,5] [2,2] (dw 6 (W2 b2.steps) (da 7 (((b2.steps.length+1:Nat):Int)) (((b2.steps.length:Int))+(1)) (ZD 11 13 [9,10] [2] (dw 11 (W2 b2.steps) (ZD 8 10 [12,13] [2] (dw 14 (W2 b2.steps) (da 15 (((b2.steps.length+1:Nat):Int)) (((b2.steps.length:Int))+(1)) (Z8 8 (dc 8 [0] [0,0,0] [b3,b3,b3] (Xt rd1 bs1 (p21+1) ((b2.steps.length+1:Nat):Int) (Zq:=hnr)) ?_))))))))))))
 rintro _ _ ⟨k1,rfl,rfl,YJ⟩
 refine Z8 16 (dL 16 [1] [b3] (Z7 [k1,0,1,(b2.steps.length:Int),((b2.steps.length+1:Nat):Int),-1]) 6 1 fun v2=>Y8 4 4 [] [(31,Z6 [k1,0,1,(b2.steps.length:Int),((b2.steps.length+1:Nat):Int),-1])] (Z8 17 (dc 17 [1] [0] [b3] (WB rd1 bs1 ((p21+1)+1) [k1,0,1,(b2.steps.length:Int),((b2.steps.length+1:Nat):Int),-1] (Zq:=hnr)) ?_)))
 rintro _ _ ⟨z2,rfl,rfl,YW⟩
 exact Z8 18 (Yo 18 4 [] [] b1 (YG b2) (Zj 0 2 [19,20] (de (Z9 (r3 [] [ZC b2,.i z1,.i z2] [0] [(b1,b1)] ⟨b2,z1,z2,rfl,rfl,(by have h1:=YB;have h2:=YW;have h3:=YJ.lt om;simp only [Yk,List.not_mem_nil,or_false] at h1 h2;exact ⟨hab.1,hab.2.1,⟨by omega,by omega⟩,by omega,by omega⟩)⟩ (lr _))))))
theorem Sb (code:LI) (hcb:∀z∈code,0<=z/\z<=255):Zi 10 [WZ code] [] (Ym (.b true)):=by
 refine ZB 107 Tryz.func10 (ar (Z0 1 (ie (aq (ar (Z0 1 (iw (TV code) (Z0 1 (ie (ZH ((code.length:Int)>1048576) (fun Za=>?_) (fun Za=>?_)))))))))))
 ·exact ar (Z0 1 (ie (Z9 (Md))))
 have hcl:code.length<=1048576:=by omega
 refine ak (ar (Z0 1 (ic [] (P2 code (hcl:=hcl) (hcb:=hcb)) ?_)))
 rintro _ _ ⟨b1,z1,y1,rfl,rfl,ZQ⟩
 obtain ⟨hbz,hbr,hz0,hy0,hy9⟩:=ZQ
 have hbl:=CR b1
 have hl1:=Mk b1 z1 y1
 have hl2:=Mk b1 z1 (y1-1)
 refine Z0 4 (iA [nl,.i 0] fun b2=>Zy 0 b2 (YG b1) (Z0 2 (ie (ar (Z5 3 [0] (Zr [] (RD b1 z1 y1) (Z0 1 (ie (aq (ar (Z5 4 [0] (Zr [] (FD b1 z1 y1) (Zr [] (F5 (YX b1 z1 y1) (YX b1 z1 y1)) (Wf 12 [3,4,5,6] [(33,.b ((!(decide ((YX b1 z1 y1)=(YX b1 z1 y1))))||(decide ((Xz b1)<0))))] (fun gz=>gz) ?_ (fun hj1=>?_)))))))))))))))
 ·refine Wf 16 [3,4,5,6] [(37,.b (((!(decide ((YX b1 z1 y1)=(YX b1 z1 y1))))||(decide ((Xz b1)<0)))||(decide (y1<0))))] (fun gz=>gz) ?_ (fun hj2=>?_)
  ·refine Wf 23 [3,4,5,6] [(44,.b ((((!(decide ((YX b1 z1 y1)=(YX b1 z1 y1))))||(decide ((Xz b1)<0)))||(decide (y1<0)))||(decide (y1>=(b1.steps.length:Int)))))] (fun gz=>gz) ?_ (fun hj3=>?_)
   ·refine Z0 1 (ib (b:=((((!(decide ((YX b1 z1 y1)=(YX b1 z1 y1))))||(decide ((Xz b1)<0)))||(decide (y1<0)))||(decide (y1>=(b1.steps.length:Int))))) 45 (fun Zb=>?_) (fun Zb=>?_))
    ·have Y6:(((¬((YX b1 z1 y1)=(YX b1 z1 y1)))∨((Xz b1)<0))∨(y1<0))∨(y1>=(b1.steps.length:Int)):=((YS (YS (YS (YR dq) dq) dq) dq)).1 Zb
     exact Z0 7 (ie (WU (ar (Z5 4 [0] (Zr [] (FD b1 z1 y1) (Zr [] (F5 (YX b1 z1 y1) (YX b1 z1 y1)) (Z0 1 (ie (Z9 (ZY (.b (decide ((YX b1 z1 y1)=(YX b1 z1 y1)))) (lb (by first|(simp;done)|exact absurd (Dr om om Z2 Zg (ZT Zt) Yd.1) Yd.2|(rw [Bool.or_eq_true,Bool.or_eq_true,dq,dq,dq];exact (Decidable.em (0<=b1.result/\b1.result<z1)).elim (fun q=>.inr (Ds om om q)) (fun q=>.inl om))))))))))))))
    have YB:¬((((¬((YX b1 z1 y1)=(YX b1 z1 y1)))∨((Xz b1)<0))∨(y1<0))∨(y1>=(b1.steps.length:Int))):=YC (YS (YS (YS (YR dq) dq) dq) dq) Zb
    refine Z5 3 [0] ?_
    obtain ⟨x1,Z2⟩:=Zp b1.steps y1.toNat om
    have hss:=TG Z2
    have haz:=T5 x1
    refine Zn (Zh none y1 5 (XB Z2)) (Z0 1 (Zr [] (Sc x1) (Z0 1 (ie (ac (YA x1.op) Iff.rfl (fun Zg=>?_) (fun Zg=>?_))))))
    ·exact ar (Z5 4 [0] (Zr [] (FD b1 z1 y1) (Zr [] (F5 (YX b1 z1 y1) (YX b1 z1 y1)) (Z0 1 (ie (Z9 (ZY (.b (decide ((YX b1 z1 y1)=(YX b1 z1 y1)))) (lb (by first|(simp;done)|exact absurd (Dr om om Z2 Zg (ZT Zt) Yd.1) Yd.2|(rw [Bool.or_eq_true,Bool.or_eq_true,dq,dq,dq];exact (Decidable.em (0<=b1.result/\b1.result<z1)).elim (fun q=>.inr (Ds om om q)) (fun q=>.inl om)))))))))))
    refine ak (aq (ar (Z0 1 (ie (ab 0 (ZX (fun fz gz m F h=>∃(j:Nat),(j<=x1.args.length)/\F=sF [3,4,5,6] fz [(7,.i j)]/\h=gz/\m=x1.args.length-j) _ _ _ ⟨0,ob,rfl,rfl,rfl⟩ (wk [0] (Y7 fl)) ?_))))))
    rintro m F h ⟨j,Ya,rfl,rfl,rfl⟩
    refine aq (ar (Z5 4 [0] (Zn (Zh none y1 5 (XB Z2)) (Z0 2 (iw (Y2 x1.args) (Z0 1 (ie (ZH ((j:Int)<(x1.args.length:Int)) (fun ZK=>?_) (fun ZK=>?_)))))))))
    ·refine ak (aq (ab 1 (ar (Z5 3 [0] (Zn (Zh none y1 5 (XB Z2)) (Z0 3 ?_))))))
     obtain ⟨x2,Zt⟩:=Zp x1.args j om
     refine Zn (Zh none (j:Int) 1 (ZU Zt)) (Z0 2 (ie (ar (Wf 7 [3,4,5,6,7,8] [(85,.b ((decide (x2>=0))&&(decide (x2<z1))))] (fun gz=>gz) ?_ (fun hj4=>?_)))))
     ·refine Xs [3,4,5,6,7] [(91,.b (((decide (x2>=0))&&(decide (x2<z1)))&&(!(decide (x2∈(YX b1 z1 y1))))))] (fun gz=>gz) ?_ ?_
      ·refine Z0 1 (ib (b:=((decide (x2>=0))&&(decide (x2<z1)))) 86 (fun ZM=>?_) (fun ZM=>?_))
       ·have YJ:(x2>=0)/\(x2<z1):=((X6 dq dq)).1 ZM
        exact Z0 2 (Zr [] (If (YX b1 z1 y1) x2) (Z0 2 (ie (wk [0] (fc (x:=.b (!(decide (x2∈(YX b1 z1 y1))))) (lb (by rw [ZM];rfl)) fl)))))
       have YW:¬((x2>=0)/\(x2<z1)):=YC (X6 dq dq) ZM
       exact Z0 5 (ie (wk [0] (fc (x:=.b false) (lb (by rw [ZM];rfl)) fl)))
      refine ac (((decide (x2>=0))&&(decide (x2<z1)))&&(!(decide (x2∈(YX b1 z1 y1))))) (p:=((x2>=0)/\(x2<z1))/\(¬(x2∈(YX b1 z1 y1)))) (X6 (X6 dq dq) (YR dq)) (fun Yd=>?_) (fun Yd=>?_)
      ·exact ar (Z0 1 (ie (Z9 (ZY (.b false) (lb (by first|(simp;done)|exact absurd (Dr om om Z2 Zg (ZT Zt) Yd.1) Yd.2|(rw [Bool.or_eq_true,Bool.or_eq_true,dq,dq,dq];exact (Decidable.em (0<=b1.result/\b1.result<z1)).elim (fun q=>.inr (Ds om om q)) (fun q=>.inl om))))))))
      exact ak (az (Z0 1 (ZE j (Z0 1 (ie (ZG ⟨j+1,ob,rfl,rfl,rfl⟩ (wk [0] (ZJ j fl))))))))
     refine Z0 3 (ib (b:=(decide (x2>=0))) 81 (fun YK=>?_) (fun YK=>?_))
     ·have XI:x2>=0:=(dq).1 YK
      exact Z0 4 (YU (wk [0] (fc (x:=.b (decide (x2<z1))) (lb (by rw [YK];rfl)) fl)) hj4)
     have Wc:¬(x2>=0):=YC dq YK
     exact Z0 4 (YU (wk [0] (fc (x:=.b false) (lb (by rw [YK];rfl)) fl)) hj4)
    refine ax 0 (ar (Wf 9 [3,6] [(100,.b ((decide (b1.result<0))||(decide (b1.result>=z1))))] (fun gz=>gz) ?_ (fun hj5=>?_)))
    ·refine Wf 15 [] [(106,.b (((decide (b1.result<0))||(decide (b1.result>=z1)))||(decide (b1.result∈(YX b1 z1 y1)))))] (fun gz=>gz) ?_ (fun hj6=>?_)
     ·exact Z0 1 (ie (Z9 (ZY (.b (((decide (b1.result<0))||(decide (b1.result>=z1)))||(decide (b1.result∈(YX b1 z1 y1))))) (lb (by first|(simp;done)|exact absurd (Dr om om Z2 Zg (ZT Zt) Yd.1) Yd.2|(rw [Bool.or_eq_true,Bool.or_eq_true,dq,dq,dq];exact (Decidable.em (0<=b1.result/\b1.result<z1)).elim (fun q=>.inr (Ds om om q)) (fun q=>.inl om)))))))
     refine Z0 1 (ib (b:=((decide (b1.result<0))||(decide (b1.result>=z1)))) 101 (fun XG=>?_) (fun XG=>?_))
     ·have WF:(b1.result<0)∨(b1.result>=z1):=((YS dq dq)).1 XG
      exact Z0 5 (YU (wk [0] (fc (x:=.b true) (lb (by rw [XG];rfl)) fl)) hj6)
     have WY:¬((b1.result<0)∨(b1.result>=z1)):=YC (YS dq dq) XG
     exact Z5 3 [0] (Zr [] (If (YX b1 z1 y1) b1.result) (Z0 1 (YU (wk [0] (fc (x:=.b (decide (b1.result∈(YX b1 z1 y1)))) (lb (by rw [XG];rfl)) fl)) hj6)))
    refine Z5 4 [0] (ib (b:=(decide (b1.result<0))) 95 (fun WX=>?_) (fun WX=>?_))
    ·have Uk:b1.result<0:=(dq).1 WX
     exact Z0 5 (YU (wk [0] (fc (x:=.b true) (lb (by rw [WX];rfl)) fl)) hj5)
    have UD:¬(b1.result<0):=YC dq WX
    exact Z5 5 [0] (YU (wk [0] (fc (x:=.b (decide (b1.result>=z1))) (lb (by rw [WX];rfl)) fl)) hj5)
   refine Z0 1 (ib (b:=(((!(decide ((YX b1 z1 y1)=(YX b1 z1 y1))))||(decide ((Xz b1)<0)))||(decide (y1<0)))) 38 (fun VW=>?_) (fun VW=>?_))
   ·have Ul:((¬((YX b1 z1 y1)=(YX b1 z1 y1)))∨((Xz b1)<0))∨(y1<0):=((YS (YS (YR dq) dq) dq)).1 VW
    exact Z0 6 (YU (wk [0] (fc (x:=.b true) (lb (by rw [VW];rfl)) fl)) hj3)
   have TZ:¬(((¬((YX b1 z1 y1)=(YX b1 z1 y1)))∨((Xz b1)<0))∨(y1<0)):=YC (YS (YS (YR dq) dq) dq) VW
   exact Z5 3 [0] (iw (W2 b1.steps) (Z0 2 (YU (wk [0] (fc (x:=.b (decide (y1>=(b1.steps.length:Int)))) (lb (by rw [VW];rfl)) fl)) hj3)))
  refine Z0 1 (ib (b:=((!(decide ((YX b1 z1 y1)=(YX b1 z1 y1))))||(decide ((Xz b1)<0)))) 34 (fun Tw=>?_) (fun Tw=>?_))
  ·have Ty:(¬((YX b1 z1 y1)=(YX b1 z1 y1)))∨((Xz b1)<0):=((YS (YR dq) dq)).1 Tw
   exact Z0 3 (YU (wk [0] (fc (x:=.b true) (lb (by rw [Tw];rfl)) fl)) hj2)
  have Kn:¬((¬((YX b1 z1 y1)=(YX b1 z1 y1)))∨((Xz b1)<0)):=YC (YS (YR dq) dq) Tw
  exact Z0 3 (YU (wk [0] (fc (x:=.b (decide (y1<0))) (lb (by rw [Tw];rfl)) fl)) hj2)
 refine Z0 2 (ib (b:=(!(decide ((YX b1 z1 y1)=(YX b1 z1 y1))))) 29 (fun UO=>?_) (fun UO=>?_))
 ·have Ko:¬((YX b1 z1 y1)=(YX b1 z1 y1)):=((YR dq)).1 UO
  exact Z0 4 (YU (wk [0] (fc (x:=.b true) (lb (by rw [UO];rfl)) fl)) hj1)
 have Bo:¬(¬((YX b1 z1 y1)=(YX b1 z1 y1))):=YC (YR dq) UO
 exact Z5 1 [0] (Zr [] (HV b1) (Z0 2 (YU (wk [0] (fc (x:=.b (decide ((Xz b1)<0))) (lb (by rw [UO];rfl)) fl)) hj1)))
end Go.Abs
section
namespace Go.Proofs.YthllacimcjakdaaGreat.fnUsedFromStep
open Go.ChangeShapes Go.WideShapes Go.ChangeAt Go.RowKit Go.Abs
theorem own:ownKnob Tryz.prog.godebug=none:=by kernel_rfl
theorem kids:Kids Tryz.prog (·<Tryz.prog.types.size):=kids_rows kr kr
theorem P1:∀t e,t<Tryz.prog.types.size->Tryz.prog.underlying t=some (.slice e)->0<Tryz.prog.cellsOf e:=slices_full_of Tryz.prog kr
theorem Lq {w w':World} {G G':ZV} {h':List Res} (hx:YF w G [] w' G' h'):∀b,b<w.heap.size->w'.heap[b]? = w.heap[b]?:=
 fun b hb=>(hx.same b hb).eq fun o ⟨r,hr,_⟩=>by cases hr
theorem NC {w w':World} {b o:Nat} (h:w'.heap[b]? = w.heap[b]?):w'.cell? ⟨b,o,none⟩=w.cell? ⟨b,o,none⟩:=by simp [World.cell?,h]
theorem Su {t:Nat} (h:Nat.blt t Tryz.prog.types.size=true):t<Tryz.prog.types.size:=Nat.le_of_ble_eq_true h
set_option maxRecDepth 100000 in
theorem NU (H:Type) (enc:TypeId × Value->H) (W:World) (base:Nat) (args:Array Value) (ds gs:List (DataW H)) (before:List MemPlace) (hval:∀(j:Nat) t v,Tryz.f10.params[j]? = some t->args[j]? = some v->Value.okWide Tryz.prog W .any base t v)
  (hW:DataW.Whole enc Tryz.prog Tryz.f10.params.toList Rows.fnUsedFromStepSpec.vars false W args.toList ds gs before) :
  Calls Tryz.prog 10 args W fun e W'=>∃v,e=.returned v/\Rows.fnUsedFromStepSpec.post enc Tryz.prog Tryz.f10 false true false false W args v W':=by
 have hW':=hW
 obtain ⟨p,q,hA0,hV,rfl,hfz,hnd⟩:=hW
 have hA:DataW.TrodAll enc Tryz.prog W 0 (fun _=>true) true Tryz.f10.params.toList args.toList ds p:=hA0
 rw [Tryz.params10] at hA
 obtain ⟨v0,vs0,d0,ds0,p0,q0,hargs,rfl,rfl,h0,r0⟩:=trodAll_cons hA
 obtain ⟨rfl,rfl,rfl⟩:=trodAll_nil r0
 obtain rfl:args=#[v0]:=by cases args;simp_all
 obtain ⟨rfl,rfl⟩:=trodVars_none hV
 obtain ⟨fuel,htr⟩:=h0
 obtain ⟨qa,ql,qc,rfl⟩:=okWide_slice Tryz.underlying22 (hval 0 22 v0 kr rfl)
 obtain ⟨v1,code,hv1,hrv,hcb⟩:=Z0d htr
 have hv1:[Value.slice qa ql qc]=[v1]:=hv1
 cases hv1
 have hh:Y9 W (GA W) []:=⟨(fun r hr=>by cases hr),List.Pairwise.nil,(fun r hr=>by cases hr),fun b o hg=>hg⟩
 refine (Sb code hcb W (GA W) [.slice qa ql qc] (.cons hrv .nil) hh).mono ?_
 rintro e W' ⟨v,r,h',G',rfl,⟨rfl,rfl⟩,hv,hh',hx⟩
 have hvb:=hv.val_inv
 subst hvb
 refine ⟨_,rfl,[d0],[],p0++[]++[],[],p0++[],[],hW',?_,?_,rfl,?_,(fun h=>by cases h)⟩
 ·exact trodAll_cons_mk (shut_bool Tryz.underlying4 _) trodAll_mk0
 ·have hold:∀b,b<W.heap.size->W'.heap[b]? = W.heap[b]?:=Lq hx
  have hlt:=hW'.lt
  have hcar:DataW.TrodAll enc Tryz.prog W' 0 (fun _=>true) true Tryz.f10.params.toList [.slice qa ql qc] [d0] (p0++[]):=by
   rw [Tryz.params10]
   refine ⟨p0,[],⟨fuel,DataW.trod_carry fuel 22 _ _ htr fun y hy=>?_⟩,rfl,rfl⟩
   have hyl:=hlt y (by simpa using hy)
   cases y with
   | cell b o=>exact NC (hold b hyl)
   | map b=>exact hold b hyl
  exact DataW.TrodAll.respare kids P1 (by rw [Tryz.params10];intro t ht;rw [List.mem_singleton.1 ht];exact Su kr) hcar (fun y hy=>by have:=hlt y (by simpa using hy);simpa using this)
 ·refine ⟨hx.os,hx.output,fun i hi=>?_⟩
  rw [Lq hx i hi]
  cases W.heap[i]? with
  | none=>rfl
  | some o=>cases o<;>first | rfl | exact ⟨rfl,rfl,rfl,fun _ _=>rfl⟩ | exact .inr ⟨rfl,rfl⟩
set_option maxRecDepth 100000 in
theorem St (os:Os) (started:os.Started) (H:Type) (enc:TypeId × Value->H) (F:Stop.Interp) :
  ReturnsInHanded {} Tryz.checked os 10 .any ((Rows.OpenSpec.upto Rows.fnUsedFromStepSpec).pre6 enc Tryz.prog Tryz.f10 Rows.fnUsedFromStepUptoRow.domain false) (((Rows.OpenSpec.upto Rows.fnUsedFromStepSpec).at F).post enc Tryz.prog Tryz.f10 false true false false):=by
 refine returnsInHanded_of_cond (C:=Tryz.checked) (s:=Rows.OpenSpec.upto Rows.fnUsedFromStepSpec) (k:=Rows.uptoSmall) rfl own started kr Tryz.func10
  (OpenSpec.witness (enc:=enc) (C:=Tryz.checked) (s:=Rows.OpenSpec.upto Rows.fnUsedFromStepSpec) (k:=Rows.uptoSmall) rfl false ⟨#[],#[.slice none 0 0],[]⟩ 8 kr kr kr
   (x:=([.nil],[],[])) kr rfl kr) ?_
 intro W base args ds gs before hval hW _ hk _
 exact NU H enc W base args ds gs before hval hW
theorem MY {a b:Bool} (ha:a=true) (hb:b=true):(a&&b)=true:=by rw [ha,hb];rfl
set_option maxHeartbeats 4000000 in
theorem NF:joinedFacts Tryz.pinned.checked.prog 10 Tryz.f10 (Rows.OpenSpec.upto Rows.fnUsedFromStepSpec).bare Rows.fnUsedFromStepUptoRow=true:=by
 unfold joinedFacts
 iterate 31 refine MY ?_ (by as_aux_lemma=>kernel_rfl)
 as_aux_lemma=>kernel_rfl
theorem Z09:Rows.fnUsedFromStepUptoRow.holds Tryz.pinned (Rows.OpenSpec.upto Rows.fnUsedFromStepSpec):=
 OpenClaim.holds_of_cond 10 Tryz.f10 rfl rfl rfl rfl rfl rfl rfl ⟨rfl,rfl,rfl,rfl,rfl⟩ rfl rfl rfl rfl rfl (by as_aux_lemma=>kernel_rfl) Tryz.func10 NF
  (of_decide_eq_true kr) (by unfold Func.isWrapper;first|(rw [if_pos (by decide +kernel)];kernel_rfl)|(rw [if_neg (by decide +kernel)];exact ⟨rfl,rfl⟩))
  (fun os started H enc _ F=>St os started H enc F)
theorem proved:Rows.FnUsedFromStepUptoSaid:=
 Z09
#print axioms proved
end Go.Proofs.YthllacimcjakdaaGreat.fnUsedFromStep
end
