/-
  A part of the proofs of several laws (see the last file): no condition.
-/
import Derived.Test.YtlcniflebhfdpaaGreatYcB
import Derived.RangeFuncNested
import Derived.RangeFuncBound
import Derived.RangeFuncCalls
import Derived.RangeFuncLeaves
import Derived.Shelf.Abstract
import Derived.Shelf.RegionOpen
import Derived.WalkKit
import Derived.OwnWalkIn
import Derived.TacticsInMore
import Derived.LoopNIn
import Derived.LoopIn
import Derived.Test.YtlcniflebhfdpaaGreatProg
import Derived.Shelf.RegionOpenPlain
import Derived.Lib.Walk
import Derived.Lib.SliceRun
import Derived.Lib.JoinLaws
import Derived.Lib.AppendZeros
import Derived.Lib.AppendZerosOnto
import Derived.Lib.Overlaps
import Derived.Laws.Externs
import Derived.Laws.IdiomCopy
import Derived.Laws.NewBlocks
import Derived.Shelf.SlGeneric
import Derived.Shelf.SlIterI.Nil
import Derived.Shelf.SortM.Plain
import Derived.Shelf.SortM.SortNone
import Derived.Ground.GgzProg
import Derived.Ground.SlgmProg
set_option linter.all false
set_option linter.unusedVariables false
set_option linter.unusedSimpArgs false
set_option linter.unusedSectionVars false
set_option maxRecDepth 10000
set_option maxHeartbeats 4000000
namespace Go.Abs
open Go.Proofs
theorem Co (xs:LI) (hl_xs:xs.length<=4294967296:=by exact ob):Za 100 [Ze xs] [] (fun r h=>∃(v:Value),r=ZV xs v/\h=[.tail v 1]):=by
 refine Zx 8 Tryz.func100 (Zf (Y8 1 (iN (Zi xs) (fun hz1=>?_) ?_)))
 ·have hz1:=GK hz1
  exact ie (W4 (Zf (TP 1 (ZG (r2 [0] [nl] ⟨(.slice none 0 0),rfl,rfl⟩ (Zk.slh _ (by first|rfl|(subst_vars;rfl))))))))
 exact ie (XC (ak (ar (iL (Zi []) 0 1 fun v1=>Z1 1 (ip 0 (Zi xs) (Zi []) (Zi xs) v1 none 1 (Wq _) (Wq _) (TY _) (by simp<;>omega) (by simp [Zi]) fun v2=>Z7 (r1 [0] ⟨v2,rfl,rfl⟩))))))
theorem Cp (xs:LI) (hl_xs:xs.length<=4294967296:=by exact ob):Za 100 [Ze xs] [] (fun r h=>∃(v:Hd),r=.h v/\h=[rV v xs]):=by
 refine Zx 8 Tryz.func100 (Zf (Y8 1 (iN (Zi xs) (fun hz1=>?_) ?_)))
 ·have hz1:=GK hz1
  exact ie (W4 (Zf (Wl Ki (ZG (r2 [0] [nl] ⟨hN,rfl,rfl⟩ (Zk.hd (v:=hN)) (eq:=(rv (xs:=[]) ob rz)))))))
 exact ie (XC (ak (ar (He [] 0 fun v1=>Z1 1 (K9 0 v1 [] xs none fun v2=>Z7 (r1 [0] ⟨v2,rfl,rfl⟩ (eq:=(rv (xs:=([]++xs)) ob rz))))))))
theorem Zb0 (xs:LI) (i:Int) (hl_xs:xs.length<=4294967296:=by exact ob):Za 247 [Ze xs,.i i] [] (ZP (.i (Et xs i))):=by
 refine Zx 19 Tryz.func247 (Zf (Y8 1 (iw (Yk xs) (Z0 (ab 0 (ZR (fun fz gz m F h=>∃(k:Nat),(k<=xs.length)/\(J2 i (xs.drop k) k=Et xs i)/\F=sF [0,1,7] fz [(8,.i k)]/\h=gz/\m=xs.length-k) _ _ _ ⟨0,ob,(by rfl),rfl,rfl,rfl⟩ (wk [] (ZT fl)) ?_))))))
 rintro m F h ⟨k,ZX,Z9,rfl,rfl,rfl⟩
 refine Zf (aq (Xf ((k:Int)<(xs.length:Int)) (fun Z5=>?_) (fun Z5=>?_)))
 ·refine ak (aq (ab 1 (Zf (ZM 3 ?_))))
  obtain ⟨x1,Z2⟩:=Zv xs k om
  refine Zg (Zq none (k:Int) 1 (Yc Z2)) (Yt (i==x1) Zr (fun Zd=>?_) (fun Zd=>?_))
  ·refine Zf ?_
   rw [ZH Z2] at Z9
   exact ZG (Zo (.i k) (li (by clear Z2;first|rfl|omega|grind [J2])))
  refine ak (az (ZK k (Z0 ?_)))
  have hdr:=ZH Z2
  exact ZJ ⟨k+1,ob,(by rw [hdr] at Z9;clear hdr Z2;grind [J2]),rfl,rfl,rfl⟩ (wk [] (ZL k fl))
 refine ax 0 (Zf ?_)
 try rw [YR (xs:=xs) (k:=k) om] at Z9
 exact ZG (Zo (.i (-1)) (li (by first|rfl|omega|grind [J2])))
theorem ID (xs:LI) (i:Int) (hl_xs:xs.length<=4294967296:=by exact ob):Za 212 [Ze xs,.i i] [] (ZP (.b (decide (i∈xs)))):=by
 exact Zx 9 Tryz.func212 (Zf (ZM 2 (ZC [] (Zb0 xs i) (Z7 (Zo (.b (decide ((Et xs i)>=0))) (lb (Z5y xs i)))))))
theorem B4 (xs:LI) (ys:LI) (hl_xs:xs.length<=4294967296:=by exact ob) (hl_ys:ys.length<=4294967296:=by exact ob):Za 30 [Ze xs,Ze ys] [] (ZP (.b (decide (xs=ys)))):=by
 refine Zx 26 Tryz.func30 (Zf (Y8 1 (iw (Yk xs) (Z1 1 (iw (Yk ys) (Yt ((xs.length:Int) != (ys.length:Int)) ZO (fun Z5=>?_) (fun Z5=>?_)))))))
 ·exact ar (Z7 (Zo (.b false) (lb (eq_comm.1 (decide_eq_false (fun q=>by rw [q] at Z5;exact Z5 rfl))))))
 refine ak (Y8 1 (iw (Yk xs) (Z0 (ab 0 (ZR (fun fz gz m F h=>∃(k:Nat),(k<=xs.length)/\(xs.take k=ys.take k)/\F=sF [0,1,12] fz [(13,.i k)]/\h=gz/\m=xs.length-k) _ _ _ ⟨0,ob,ob,rfl,rfl,rfl⟩ (wk [] (ZT fl)) ?_)))))
 rintro m F h ⟨k,ZX,Z9,rfl,rfl,rfl⟩
 refine Zf (aq (Xf ((k:Int)<(xs.length:Int)) (fun Zd=>?_) (fun Zd=>?_)))
 ·refine ak (aq (ab 1 (Zf (aD 9 (Zm 7 9 [0,1] ?_)))))
  obtain ⟨x1,Z2⟩:=Zv xs k om
  refine dx 2 (Zq none (k:Int) 1 (Yc Z2)) (Zm 3 6 [3,4,5] ?_)
  obtain ⟨x2,Zt⟩:=Zv ys k om
  refine dx 6 (Zq none (k:Int) 1 (Yc Zt)) (Zm 0 2 [7,8] (de (ac (x1 != x2) ZO (fun Zw=>?_) (fun Zw=>?_))))
  ·exact ar (Z7 (Zo (.b false) (lb (eq_comm.1 (decide_eq_false (fun q=>by subst q;rw [Z2] at Zt;cases Zt;exact Zw rfl))))))
  refine ak (az (ZK k (Z0 ?_)))
  have hdr:=ZH Z2
  exact ZJ ⟨k+1,ob,(by rw [WP Z2,WP Zt,Z9];have hxx:x1=x2:=om;rw [hxx]),rfl,rfl,rfl⟩ (wk [] (ZL k fl))
 exact ax 0 (ar (Z7 (Zo (.b true) (lb (eq_comm.1 (decide_eq_true (by rw [W2 om,W2 om] at Z9;exact Z9)))))))
theorem Zaz (m:Nat) (hm:m<=4294967296:=by exact ob):Za 325 [nl,.i m] [] (fun r h=>∃(v:Hd),r=.h v/\h=[rV v []]):=by
 refine Zx 27 Tryz.func325 (Wl Ki (AG (F':=[(0,.h hN),(1,.i m)]) (h':=[rV hN []]) (wk [0] (fc (x:=nl) (Zk.hd (v:=hN)) ( fc (x:=.i m) (lr _) (Nm _)))) (Zf (Yq (ZN ((m:Int)<0) (fun Z5=>?_) (fun Z5=>?_))))))
 ·exfalso;omega
 refine ak (Y8 2 (Zg (X8.le (Ro hN) (li (by rfl))) (Z1 1 (Zg (X8.le (KN 0 hN []) (li (by rfl))) (ia ((0-0)) ((0)-(0)) (ia ((m:Int)) (((m:Int))-((0-0))) (Z0 (ar (ZN ((m:Int)>0) (fun Zd=>?_) (fun Zd=>?_))))))))))
 ·exact az (Z1 2 (Zg (X8.le (Ro hN) (li (by rfl))) (Zg (Qr 0 hN [] 0) (Z1 1 (iZ m fun v1=>Z1 1 (Zg (X8.le (KN 1 hN []) (li (by rfl))) (Zg (Qr 0 v1 (List.replicate m 0) 0) (Z0 (Zf (Wl (B7 0 0 v1 (List.replicate m 0)) (ZG (r1 [0] ⟨(v1.cut 0),rfl,rfl⟩ (eq:=(rv (xs:=((List.replicate m 0).take 0)) ob rz))))))))))))))
 exact ak (ar (Z7 (r1 [0] ⟨hN,rfl,rfl⟩)))
theorem Zay (xss:List LI) (hl_xss:xss.length<=4294967296:=by exact ob) (hf:xss.flatten.length<=4294967296:=by exact ob):Za 287 [Ak xss] [] (fun r h=>∃(v:Value),r=ZV xss.flatten v/\h=[.tail v 1]):=by
 have hft:=Nl xss
 refine Zx 36 Tryz.func287 (Zf (Zf (Y8 1 (iw (E7 xss) (Z0 (ab 0 (ZR (fun fz gz m F h=>∃(k:Nat) (q:Nat),(k<=xss.length)/\(q=(xss.take k).flatten.length)/\F=sF [0,9,10] fz [(3,.i q),(11,.i k)]/\h=gz/\m=xss.length-k) _ _ _ ⟨0,0,ob,(by simp),rfl,rfl,rfl⟩ (wk [] (ZT (ZT fl))) ?_)))))))
 rintro m F h ⟨k,q,ZX,Z9,rfl,rfl,rfl⟩
 refine Zf (aq (Xf ((k:Int)<(xss.length:Int)) (fun Z5=>?_) (fun Z5=>?_)))
 ·refine ak (aq (ab 1 (ar ?_)))
  obtain ⟨x1,Z2⟩:=Zv xss k om
  refine Zg (Zq none (k:Int) 1 (AO Z2)) (Z0 (ZM 2 (iw (Yk x1) (ia (((q+x1.length:Nat):Int)) (((q:Int))+((x1.length:Int))) (hb:=(by have:=Nk Z2;omega)) (Z0 (ar (ZN (((q+x1.length:Nat):Int)<0) (fun Zd=>?_) (fun Zd=>?_))))))))
  ·exfalso;omega
  refine ak (az (ZK k (Z0 ?_)))
  have hdr:=ZH Z2
  exact ZJ ⟨k+1,q+x1.length,ob,(by rw [GV Z2,Yz,Z9]),rfl,rfl,rfl⟩ (wk [] (fc (x:=.i (q+x1.length:Nat)) li (ZL k fl)))
 refine ax 0 (ZM 1 (ic [] (Zaz q (hm:=(by have:=hft k;omega))) ?_))
 rintro _ _ ⟨v1,rfl,rfl⟩
 refine Z0 (Y8 1 (iw (E7 xss) (Z0 (ab 2 (ZR (fun fz gz m F h=>∃(j:Nat) (v:Hd),(j<=xss.length)/\F=sF [25,26] fz [(6,.h v),(27,.i j)]/\h=[rV v ((xss.take j).flatten)]/\m=xss.length-j) _ _ _ ⟨0,v1,ob,rfl,rfl,rfl⟩ (wk [0] (fr (ZT fl)) (e:=(rv (xs:=[]) ob rz))) ?_)))))
 rintro m F h ⟨j,v,T0,rfl,rfl,rfl⟩
 refine Zf (aq (Xf ((j:Int)<(xss.length:Int)) (fun Zw=>?_) (fun Zw=>?_)))
 ·refine ak (aq (ab 3 (ar ?_)))
  obtain ⟨x2,Zt⟩:=Zv xss j om
  refine Zg (Zq none (j:Int) 1 (AO Zt)) (Z0 (az (Z1 2 (K9 0 v ((xss.take j).flatten) x2 none (hbound:=(by have:=Nk Zt;omega)) fun v2=>Z0 (az (ZK j (Z0 ?_)))))))
  have hdr:=ZH Zt
  exact ZJ ⟨j+1,v2,ob,rfl,rfl,rfl⟩ (wk [0] (fr (ZL j fl)) (e:=(rv (xs:=((xss.take j).flatten++x2)) (GV Zt).symm rz)))
 exact ax 2 (Zf (Sf 2 0 (v:=v) (xs:=(xss.take j).flatten) (ZG (r2 [0] [ZV ((xss.take j).flatten) v.v] ⟨v.v,rfl,rfl⟩ (Zk.slh _ (Yp Zi (by rw [W2 om])))))))
theorem Er (ds:List Zs) (t:Int) (hl_ds:ds.length<=4294967296:=by exact ob):Za 132 [ZI ds,.i t] [] (fun r h=>r=.b (decide (0<=t/\t<=ds.length))/\h=[]):=by
 refine Zx 13 Tryz.func132 (Zf (ar (Xz 8 [] [(12,.b ((decide (t>=0))&&(decide (t<=(ds.length:Int)))))] (fun gz=>gz) ?_ (fun hj1=>?_))))
 ·exact Z7 (Zo (.b ((decide (t>=0))&&(decide (t<=(ds.length:Int))))) (lb (by rw [Wk];simp)))
 refine Z1 3 (ib (b:=(decide (t>=0))) 7 (fun Zb=>?_) (fun Zb=>?_))
 ·exact Z1 2 (iw (Vw ds) (Z1 2 (Yb (wk [] (Zp (decide (t<=(ds.length:Int))) Zb fl)) hj1)))
 exact Z1 5 (Yb (wk [] (Zp false Zb fl)) hj1)
theorem ND (ds:List Zs) (xs:LI) (hl_ds:ds.length<=4294967296:=by exact ob) (hl_xs:xs.length<=4294967296:=by exact ob):Za 131 [ZI ds,Ze xs] [] (ZP (.b (XP ds.length xs))):=by
 refine Zx 18 Tryz.func131 (Zf (Y8 1 (iw (Yk xs) (Z0 (ab 0 (ZR (fun fz gz m F h=>∃(k:Nat),(k<=xs.length)/\(XP ds.length (xs.drop k)=XP ds.length xs)/\F=sF [0,7,8] fz [(9,.i k)]/\h=gz/\m=xs.length-k) _ _ _ ⟨0,ob,ob,rfl,rfl,rfl⟩ (wk [] (ZT fl)) ?_))))))
 rintro m F h ⟨k,ZX,Z9,rfl,rfl,rfl⟩
 refine Zf (aq (Xf ((k:Int)<(xs.length:Int)) (fun Z5=>?_) (fun Z5=>?_)))
 ·refine ak (aq (ab 1 (ar ?_)))
  obtain ⟨x1,Z2⟩:=Zv xs k om
  refine Zg (Zq none (k:Int) 1 (Yc Z2)) (Z0 (ZM 2 (ZC [] (Er ds x1) (Yt (!(decide (0<=x1/\x1<=ds.length))) (p:=¬(0<=x1/\x1<=ds.length)) (Yi dq) (fun Zd=>?_) (fun Zd=>?_)))))
  ·refine Zf ?_
   rw [ZH Z2] at Z9
   exact ZG (Zo (.b false) (lb (by clear Z2;first|rfl|omega|grind [XP])))
  refine ak (az (ZK k (Z0 ?_)))
  have hdr:=ZH Z2
  exact ZJ ⟨k+1,ob,(by rw [hdr] at Z9;clear hdr Z2;grind [XP]),rfl,rfl,rfl⟩ (wk [] (ZL k fl))
 refine ax 0 (Zf ?_)
 try rw [YR (xs:=xs) (k:=k) om] at Z9
 exact ZG (Zo (.b true) (lb (by first|rfl|omega|grind [XP])))
theorem Z58 (ds:List Zs) (hd:Wy ds:=by exact ob):Za 134 [ZI ds] [] (ZP (.i (Yh ds:Nat))):=by
 have hdl:=hd.len
 refine Zx 19 Tryz.func134 (Zf (Zf (Y8 1 (iw (Vw ds) (Z0 (ab 0 (ZR (fun fz gz m F h=>∃(k:Nat),(k<=ds.length)/\F=sF [6,7] fz [(3,.i ((Yh (ds.take k):Nat):Int)),(8,.i k)]/\h=gz/\m=ds.length-k) _ _ _ ⟨0,ob,rfl,rfl,rfl⟩ (wk [] (ZT (ZT fl))) ?_)))))))
 rintro m F h ⟨k,ZX,rfl,rfl,rfl⟩
 refine Zf (aq (Xf ((k:Int)<(ds.length:Int)) (fun Z5=>?_) (fun Z5=>?_)))
 ·refine ak (aq (ab 1 (ar ?_)))
  obtain ⟨x1,Z2⟩:=Zv ds k om
  refine Zg (Zq none (k:Int) 3 (Vh Z2)) (Z1 1 (iA [.i 0,.i 0,nl] fun b1=>Y0 0 b1 (Uc x1) (ie (az (Y3 3 [0] (iw (Vg x1.cons) (ia (((Yh (ds.take k)+x1.cons.length:Nat):Int)) ((((Yh (ds.take k):Nat):Int))+((x1.cons.length:Int))) (hb:=(by have h1:=hd.cons_at Z2;have h2:=(hd.take k).sum;omega)) (Z0 (az (ZK k (Z0 ?_)))))))))))
  have hdr:=ZH Z2
  exact ZJ ⟨k+1,ob,rfl,rfl,rfl⟩ (wk [] (fc (x:=.i ((Yh (ds.take k)+x1.cons.length:Nat):Int)) (li (by rw [WP Z2,Cr];simp [Yh])) (ZL k fl)))
 exact ax 0 (ar (Z7 (Zo (.i ((Yh (ds.take k):Nat):Int)) (li (by rw [W2 om])))))
theorem NF (ds:List Zs) (c:Int) (hd:Wy ds:=by exact ob) (hc:-9223372036854775808<=c/\c<=9223372036854775807:=by exact ob):Za 192 [ZI ds,.i c] [] (ZP (.tup [.i (XJ ds c),.agg [Ze (Y2 ds c)]])):=by
 have hdl:=hd.len
 refine Zx 38 Tryz.func192 (ZM 1 (iA [nl] fun b1=>?_))
 refine ie (Y8 1 (iw (Vw ds) (Z0 (ab 0 (ZR (fun fz gz m F h=>∃(k:Nat) (cv:Int),(k<=ds.length)/\(JR c (Yh (ds.take k)) cv)/\(UM c (ds.drop k) k (Yh (ds.take k))=UM c ds 0 0)/\F=sF [5,8,9] fz [(1,.i cv),(10,.i k)]/\h=gz/\m=ds.length-k) _ _ _ ⟨0,c,ob,(.inl (by simp [Yh])),rfl,rfl,rfl,rfl⟩ (wk [0] (fr (ZT fl))) ?_)))))
 rintro m F h ⟨k,cv,ZX,Z9,Zz,rfl,rfl,rfl⟩
 refine Zf (aq (Xf ((k:Int)<(ds.length:Int)) (fun Z5=>?_) (fun Z5=>?_)))
 ·refine ak (aq (ab 1 (ZM 1 ?_)))
  obtain ⟨x1,Z2⟩:=Zv ds k om
  refine Zg (Zq none (k:Int) 3 (Vh Z2)) (Z1 1 (iA [.i 0,.i 0,nl] fun b2=>Z1 1 (Y0 0 b2 (Uc x1) (ie (Yq (W7 [1,5,6,7,8,9,10] [(23,.b ((decide (cv>=0))&&(decide (cv<(x1.cons.length:Int)))))] (fun gz=>gz) ?_ ?_))))))
  ·refine Z1 3 (ib (b:=(decide (cv>=0))) 17 (fun Zb=>?_) (fun Zb=>?_))
   ·exact Y3 3 [0] (iw (Vg x1.cons) (Z0 (wk [0,0] (Zp (decide (cv<(x1.cons.length:Int))) Zb fl))))
   exact Z0 (wk [0,0] (Zp false Zb fl))
  refine ac ((decide (cv>=0))&&(decide (cv<(x1.cons.length:Int)))) (p:=(cv>=0)/\(cv<(x1.cons.length:Int))) (Yy dq dq) (fun Zd=>?_) (fun Zd=>?_)
  ·refine aD 9 (Zm 8 9 [0] (da 1 (((k+1:Nat):Int)) (((k:Int))+(1)) (Y7 4 7 [2,3,4] [0] ?_)))
   obtain ⟨x2,Zt⟩:=Zv x1.cons cv.toNat om
   refine dx 5 (Zq none cv 1 (Ky Zt)) (Zm 1 3 [6,7] (ZF 8 (Uw 8 1 [] [] b1 (KH x2) (de ?_))))
   have hz:=(hd.take k).sum
   have h3:=hd.cons_at Z2
   have hH:=Zz.symm.trans (Z1e Z2 Z9 om h3 hc.1 Zd Zt)
   exact ZG (r3 [] [.i (k+1:Nat),KS x2] [0] [(b1,b1)] ⟨rfl,rfl⟩ (Zk.tup (.cons (li (by rw [XJ,hH];omega)) (.cons (Zk.agg (.cons (Zk.sl _ (Yp Zi (by rw [Y2,hH]))) .nil)) .nil))))
  refine ak (az (Y3 3 [0] (iw (Vg x1.cons) (iW ((cv)-((x1.cons.length:Int))) (Z0 (az (ZK k (Z0 ?_))))))))
  have hdr:=ZH Z2
  exact ZJ ⟨k+1,(Bc ((cv)-((x1.cons.length:Int)))),ob,(by have hz:=(hd.take k).sum;have h3:=hd.cons_at Z2;rw [WP Z2,Cr];simpa [Yh] using SQ Z9 om h3 hc),(Z1c Z2 Z9 Zd Zz),rfl,rfl,rfl⟩ (wk [1] (fr (ZL k fl)))
 refine ax 0 (ZM 2 (Y0 0 b1 [nl] (ie ?_)))
 have hH:UM c ds 0 0=(-1,[]):=by rw [<-Zz,YR om];rfl
 exact ZG (r3 [] [.i (-1),.agg [nl]] [0] [(b1,b1)] ⟨rfl,rfl⟩ (Zk.tup (.cons (li (by rw [XJ,hH])) (.cons (Zk.agg (.cons (Zk.sl _ (by rw [Y2,hH];rfl)) .nil)) .nil))))
theorem Z5c (ds:List Zs) (c:Int) (hd:Wy ds:=by exact ob) (hc:-9223372036854775808<=c/\c<=9223372036854775807:=by exact ob):Za 136 [ZI ds,.i c] [] (ZP (Ze (Y2 ds c))):=by
 exact Zx 15 Tryz.func136 (Zf (ZM 2 (ZC [] (NF ds c) (Z1 3 (iA [nl] fun b1=>Z1 1 (Y0 0 b1 [Ze (Y2 ds c)] (ie (Jt [0] (ZG (T8))))))))))
theorem Z59 (ds:List Zs) (t:Int) (hd:Wy ds:=by exact ob):Za 135 [ZI ds,.i t] [] (ZP (Ze (YG ds t))):=by
 have hdl:=hd.len
 refine Zx 39 Tryz.func135 (Zf (Yq (W7 [0,1] [(15,.b ((decide (t<1))||(decide (t>(ds.length:Int)))))] (fun gz=>gz) ?_ ?_)))
 ·refine Z1 3 (ib (b:=(decide (t<1))) 10 (fun Zb=>?_) (fun Zb=>?_))
  ·exact Z0 (wk [] (Zp true Zb fl))
  exact Z1 2 (iw (Vw ds) (Z0 (wk [] (Zp (decide (t>(ds.length:Int))) Zb fl))))
 refine ac ((decide (t<1))||(decide (t>(ds.length:Int)))) (p:=(t<1)∨(t>(ds.length:Int))) (Yg dq dq) (fun Z5=>?_) (fun Z5=>?_)
 ·exact ar (Z7 (Zo (nl) (Zk.sl _ (by rw [YG,Z4 om];rfl))))
 have hti:1<=t/\t<=ds.length:=by omega
 obtain ⟨d,hd1⟩:=Zv ds ((t-1).toNat) om
 have hdc:=hd.cons_at hd1
 have hsm:=(hd.take (t-1).toNat).sum
 refine ak (ZM 2 (ia ((((t-1).toNat:Nat):Int)) ((t)-(1)) (Zg (De (es:=X1 ds) (hv:=none) (l:=0) (m:=(((t-1).toNat:Nat):Int)) (sz:=3) (es':=X1 (ds.take ((t-1).toNat))) kr om (by simp<;>omega) (by simp<;>omega) (Bz _) (by first|(simp only [Qt,Kr,BA,By];done)|(simp only [Qt,Kr,BA,By];rfl)|(simp [BA,By];done))) (ZC [] (Z58 (ds.take ((t-1).toNat)) (hd:=(hd.take _))) (Z0 (Zf (Y8 2 (ia ((((t-1).toNat:Nat):Int)) ((t)-(1)) (Zg (Zq none (((t-1).toNat:Nat):Int) 3 (Vh hd1)) (Z1 2 (iw (Vg d.cons) (Z0 (ab 0 (TP 1 (ZR (fun fz gz m F h=>∃(k:Nat) (v:Value),(k<=d.cons.length)/\F=sF [5,27] fz [(6,ZV (Vc (Yh (ds.take (t-1).toNat)) k) v),(28,.i k)]/\h=[.tail v 1]/\m=d.cons.length-k) _ _ _ ⟨0,(.slice none 0 0),ob,rfl,rfl,rfl⟩ (wk [0] (fc (x:=nl) (Zk.slh _ rfl) (ZT fl))) ?_)))))))))))))))
 rintro m F h ⟨k,v,ZX,rfl,rfl,rfl⟩
 refine Zf (aq (Xf ((k:Int)<(d.cons.length:Int)) (fun Zd=>?_) (fun Zd=>?_)))
 ·exact ak (aq (ab 1 (Zf (az (Z1 3 (ia ((((Yh (ds.take ((t-1).toNat)))+k:Nat):Int)) ((((Yh (ds.take ((t-1).toNat)):Nat):Int))+((k:Int))) (iL (Zi [(((Yh (ds.take ((t-1).toNat)))+k:Nat):Int)]) 1 1 fun v1=>XX 0 [(35,Ze [(((Yh (ds.take ((t-1).toNat)))+k:Nat):Int)])] (ip 1 (Zi (Vc (Yh (ds.take (t-1).toNat)) k++[(((Yh (ds.take ((t-1).toNat)))+k:Nat):Int)])) (Zi (Vc (Yh (ds.take (t-1).toNat)) k)) (Zi [(((Yh (ds.take ((t-1).toNat)))+k:Nat):Int)]) v none 1 (Wq _) (Wq _) (TY _) (by simp;omega) (by simp [TX,Zi]) fun v2=>Z0 (az (ZK k (Z0 (ZJ ⟨k+1,v2,ob,rfl,rfl,rfl⟩ (wk [0] (fc (x:=ZV (Vc (Yh (ds.take (t-1).toNat)) k++[(((Yh (ds.take ((t-1).toNat)))+k:Nat):Int)]) v2) (Zk.slh _ (Yp Zi (OR _ _).symm)) (ZL k fl)))))))))))))))
 exact ax 0 (ar (Z7 (Zo (ZV (Vc (Yh (ds.take (t-1).toNat)) k) v) (Zk.sl _ (Yp Zi (by rw [YG,Z6 hti,hd1,show k=d.cons.length by omega];rfl))))))
theorem Eo (ds:List Zs) (t:Int) (hd:Wy ds:=by exact ob):Za 242 [ZI ds,.i t] [] (ZP (.tup [QT (Vn ds t),.b (XK ds t)])):=by
 have hdl:=hd.len
 refine Zx 30 Tryz.func242 (ar (iA [.i 0,.i 0,nl] fun b1=>Z0 (Yq (Xz 8 [0,1,4] [(13,.b ((decide (t<1))||(decide (t>(ds.length:Int)))))] (fun gz=>gz) ?_ (fun hj1=>?_)))))
 ·refine Z1 1 (ib (b:=((decide (t<1))||(decide (t>(ds.length:Int))))) 14 (fun Zb=>?_) (fun Zb=>?_))
  ·have Ya:(t<1)∨(t>(ds.length:Int)):=((Yg dq dq)).1 Zb
   refine Z0 (W4 (ZM 1 (Y0 0 b1 [.i 0,.i 0,nl] (Z0 ?_))))
   have hA:XK ds t=false:=(Hk om).symm
   have hD:Vn ds t=⟨0,0,[]⟩:=by rw [Vn,hA];rfl
   exact ZG (r3 [] [.agg [.i 0,.i 0,nl],.b false] [0] [(b1,b1)] ⟨rfl,rfl⟩ (Zk.tup (.cons (Zk.agg (.cons (li (by rw [hD])) (.cons (li (by rw [hD])) (.cons (Zk.sl _ (by rw [hD];rfl)) .nil)))) (.cons (lb (by rw [hA])) .nil))))
  have YT:¬((t<1)∨(t>(ds.length:Int))):=ZZ (Yg dq dq) Zb
  refine Z1 2 (ia ((t-1)) ((t)-(1)) ?_)
  obtain ⟨x1,Z2⟩:=Zv ds ((t-1).toNat) om
  refine Zg (Zq none (t-1) 3 (Vh Z2)) (Z1 2 (iw (Vg x1.cons) (ZN ((x1.cons.length:Int)>0) (fun Z5=>?_) (fun Z5=>?_))))
  ·refine ZM 1 (Y0 0 b1 [.i 0,.i 0,nl] (Z0 ?_))
   have hA:XK ds t=false:=(Ex om Z2).symm.trans (beq_eq_false_iff_ne.2 om)
   have hD:Vn ds t=⟨0,0,[]⟩:=by rw [Vn,hA];rfl
   exact ZG (r3 [] [.agg [.i 0,.i 0,nl],.b false] [0] [(b1,b1)] ⟨rfl,rfl⟩ (Zk.tup (.cons (Zk.agg (.cons (li (by rw [hD])) (.cons (li (by rw [hD])) (.cons (Zk.sl _ (by rw [hD];rfl)) .nil)))) (.cons (lb (by rw [hA])) .nil))))
  refine ak (ZM 2 (ia ((t-1)) ((t)-(1)) (Zg (Zq none (t-1) 3 (Vh Z2)) (Z1 1 (Y0 0 b1 (Uc x1) (Z0 ?_))))))
  have hA:XK ds t=true:=(Ex om Z2).symm.trans (Zr.2 om)
  have hD:Vn ds t=x1:=by rw [Vn,hA,Z2];rfl
  exact ZG (r3 [] [QT x1,.b true] [0] [(b1,b1)] ⟨rfl,rfl⟩ (Zk.tup (.cons (Zk.agg (.cons (li (by rw [hD])) (.cons (li (by rw [hD])) (.cons (Zk.sl _ (Yp Wa (by rw [hD]))) .nil)))) (.cons (lb (by rw [hA])) .nil))))
 refine Z1 3 (ib (b:=(decide (t<1))) 8 (fun ZD=>?_) (fun ZD=>?_))
 ·have Xy:t<1:=(dq).1 ZD
  exact Z1 5 (Yb (wk [0] (Zp true ZD fl)) hj1)
 have XE:¬(t<1):=ZZ dq ZD
 exact Z1 2 (iw (Vw ds) (Z1 2 (Yb (wk [0] (Zp (decide (t>(ds.length:Int))) ZD fl)) hj1)))
theorem Z4z (ds:List Zs) (frm:Int) (to_:Int) (hl_ds:ds.length<=4294967296:=by exact ob):Za 288 [ZI ds,.i frm,.i to_] [] (ZP (.i (T9 ds frm to_))):=by
 refine Zx 35 Tryz.func288 (Zf (Y8 1 (iw (Vw ds) (Z0 (ab 0 (ZR (fun fz gz m F h=>∃(k:Nat),(k<=ds.length)/\(QC frm to_ (ds.drop k) k=T9 ds frm to_)/\F=sF [1,2,9,10] fz [(11,.i k)]/\h=gz/\m=ds.length-k) _ _ _ ⟨0,ob,rfl,rfl,rfl,rfl⟩ (wk [] (ZT fl)) ?_))))))
 rintro m F h ⟨k,ZX,Z9,rfl,rfl,rfl⟩
 refine Zf (aq (Xf ((k:Int)<(ds.length:Int)) (fun Z5=>?_) (fun Z5=>?_)))
 ·refine ak (aq (ab 1 (ZM 1 ?_)))
  obtain ⟨x1,Z2⟩:=Zv ds k om
  refine Zg (Zq none (k:Int) 3 (Vh Z2)) (Z1 1 (iA [.i 0,.i 0,nl] fun b1=>Z1 1 (Y0 0 b1 (Uc x1) (ie (ZB 2 [0] (iw (Vg x1.cons) (Xz 10 [1,2,7,8,9,10,11] [(25,.b (((x1.cons.length:Int)==0)&&(x1.frm==frm)))] (fun gz=>gz) ?_ (fun hj1=>?_))))))))
  ·refine W7 [1,2,7,9,10,11] [(31,.b ((((x1.cons.length:Int)==0)&&(x1.frm==frm))&&(x1.to_==to_)))] (fun gz=>gz) ?_ ?_
   ·refine Z1 1 (ib (b:=(((x1.cons.length:Int)==0)&&(x1.frm==frm))) 26 (fun Zb=>?_) (fun Zb=>?_))
    ·exact Vq [0] (wk [0] (Zp (x1.to_==to_) Zb fl))
    exact Z0 (wk [0] (Zp false Zb fl))
   refine ac ((((x1.cons.length:Int)==0)&&(x1.frm==frm))&&(x1.to_==to_)) (p:=(((x1.cons.length:Int)=0)/\(x1.frm=frm))/\(x1.to_=to_)) (Yy (Yy Zr Zr) Zr) (fun Zd=>?_) (fun Zd=>?_)
   ·refine ZM 1 (ZK k (Z0 ?_))
    rw [ZH Z2] at Z9
    exact ZG (Zo (.i (k+1:Nat)) (li (by clear Z2;first|rfl|omega|grind [QC])))
   refine ak (az (ZK k (Z0 ?_)))
   have hdr:=ZH Z2
   exact ZJ ⟨k+1,ob,(by rw [hdr] at Z9;clear hdr Z2;grind [QC]),rfl,rfl,rfl⟩ (wk [] (ZL k fl))
  refine Z1 2 (ib (b:=((x1.cons.length:Int)==0)) 20 (fun ZD=>?_) (fun ZD=>?_))
  ·exact Y3 5 [0] (Yb (wk [0] (Zp (x1.frm==frm) ZD fl)) hj1)
  exact Z1 5 (Yb (wk [0] (Zp false ZD fl)) hj1)
 refine ax 0 (Zf ?_)
 try rw [YR (xs:=ds) (k:=k) om] at Z9
 exact ZG (Zo (.i (-1)) (li (by first|rfl|omega|grind [QC])))
theorem Z4x (ds:List Zs) (hz:Jd ds:=by exact ob):Za 130 [ZI ds] [] (ZP (.b (Wv ds))):=by
 have hzl:=hz.len
 refine Zx 106 Tryz.func130 (Zf (Y8 1 (iw (Vw ds) (ZN ((ds.length:Int)>4) (fun Z5=>?_) (fun Z5=>?_)))))
 ·exact ar (Z7 (Zo (.b false) (lb (by rw [Wv,decide_eq_false om];rfl))))
 refine ak (Y8 1 (iw (Vw ds) (Z0 (ab 0 (ZR (fun fz gz m F h=>∃(k:Nat),(k<=ds.length)/\(UO ds (ds.drop k) k=UO ds ds 0)/\F=sF [0,12,13] fz [(14,.i k)]/\h=gz/\m=ds.length-k) _ _ _ ⟨0,ob,rfl,rfl,rfl,rfl⟩ (wk [] (ZT fl)) ?_)))))
 rintro m F h ⟨k,ZX,Z9,rfl,rfl,rfl⟩
 refine Zf (aq (Xf ((k:Int)<(ds.length:Int)) (fun Zd=>?_) (fun Zd=>?_)))
 ·refine ak (aq (ab 1 (ZM 1 ?_)))
  obtain ⟨x1,Z2⟩:=Zv ds k om
  have hz1:=hz.cons_at Z2
  refine Zg (Zq none (k:Int) 3 (Vh Z2)) (Z1 1 (iA [.i 0,.i 0,nl] fun b1=>Z1 1 (Y0 0 b1 (Uc x1) (ie (Ym 3 [0] (ZC [] (Er ds x1.frm) (Xz 12 [0,3,4,12,13,14] [(30,.b ((!(decide (0<=x1.frm/\x1.frm<=ds.length)))||(!(decide (0<=x1.to_/\x1.to_<=ds.length)))))] (fun gz=>gz) ?_ (fun hj1=>?_))))))))
  ·refine Xz 18 [0,3,4,12,13,14] [(36,.b (((!(decide (0<=x1.frm/\x1.frm<=ds.length)))||(!(decide (0<=x1.to_/\x1.to_<=ds.length))))||(decide ((x1.cons.length:Int)>3))))] (fun gz=>gz) ?_ (fun hj2=>?_)
   ·refine W7 [0,3,4,12,13,14] [(52,.b ((((!(decide (0<=x1.frm/\x1.frm<=ds.length)))||(!(decide (0<=x1.to_/\x1.to_<=ds.length))))||(decide ((x1.cons.length:Int)>3)))||((decide ((x1.cons.length:Int)>0))&&((x1.frm != 0)||(x1.to_ != 0)))))] (fun gz=>gz) ?_ ?_
    ·refine Z1 1 (ib (b:=(((!(decide (0<=x1.frm/\x1.frm<=ds.length)))||(!(decide (0<=x1.to_/\x1.to_<=ds.length))))||(decide ((x1.cons.length:Int)>3)))) 37 (fun Zb=>?_) (fun Zb=>?_))
     ·have Ya:((¬(0<=x1.frm/\x1.frm<=ds.length))∨(¬(0<=x1.to_/\x1.to_<=ds.length)))∨((x1.cons.length:Int)>3):=((Yg (Yg (Yi dq) (Yi dq)) dq)).1 Zb
      exact Z0 (wk [0] (Zp true Zb fl))
     have YT:¬(((¬(0<=x1.frm/\x1.frm<=ds.length))∨(¬(0<=x1.to_/\x1.to_<=ds.length)))∨((x1.cons.length:Int)>3)):=ZZ (Yg (Yg (Yi dq) (Yi dq)) dq) Zb
     refine Y3 2 [0] (iw (Vg x1.cons) (Z1 2 (ib (b:=(decide ((x1.cons.length:Int)>0))) 42 (fun ZD=>?_) (fun ZD=>?_))))
     ·have Xy:(x1.cons.length:Int)>0:=(dq).1 ZD
      refine Y3 4 [0] (ib (b:=(x1.frm != 0)) 46 (fun Yn=>?_) (fun Yn=>?_))
      ·have XE:x1.frm≠0:=(ZO).1 Yn
       exact Z0 (wk [0] (Zp true (And.intro Zb (And.intro ZD Yn)) fl))
      have VO:¬(x1.frm≠0):=ZZ ZO Yn
      exact Vq [0] (wk [0] (Zp (x1.to_ != 0) (And.intro Zb (And.intro ZD Yn)) fl))
     have Up:¬((x1.cons.length:Int)>0):=ZZ dq ZD
     exact Z0 (wk [0] (Zp false (And.intro Zb ZD) fl))
    refine ac ((((!(decide (0<=x1.frm/\x1.frm<=ds.length)))||(!(decide (0<=x1.to_/\x1.to_<=ds.length))))||(decide ((x1.cons.length:Int)>3)))||((decide ((x1.cons.length:Int)>0))&&((x1.frm != 0)||(x1.to_ != 0)))) (p:=(((¬(0<=x1.frm/\x1.frm<=ds.length))∨(¬(0<=x1.to_/\x1.to_<=ds.length)))∨((x1.cons.length:Int)>3))∨(((x1.cons.length:Int)>0)/\((x1.frm≠0)∨(x1.to_≠0)))) (Yg (Yg (Yg (Yi dq) (Yi dq)) dq) (Yy dq (Yg ZO ZO))) (fun Zw=>?_) (fun Zw=>?_)
    ·exact ar (Z7 (Zo (.b false) (lb (IY Z2 (Z23 Zw) Z9))))
    refine ak (Ym 2 [0] (iw (Vg x1.cons) (Z0 (ab 2 (ZR (fun fz gz m F h=>∃(q:Nat),(q<=x1.cons.length)/\(Tb ds.length (x1.cons.drop q)=Tb ds.length x1.cons)/\F=sF [0,3,4,12,13,14,54,55] fz [(56,.i q)]/\h=gz/\m=x1.cons.length-q) _ _ _ ⟨0,ob,rfl,rfl,rfl,rfl⟩ (wk [0] (ZT fl)) ?_)))))
    rintro m F h ⟨q,T0,Xh,rfl,rfl,rfl⟩
    refine Zf (aq (Xf ((q:Int)<(x1.cons.length:Int)) (fun Yd=>?_) (fun Yd=>?_)))
    ·refine ak (aq (ab 3 (ar ?_)))
     obtain ⟨x2,Zt⟩:=Zv x1.cons q om
     refine Zg (Zq none (q:Int) 1 (Ky Zt)) (Z1 1 (iA [nl] fun b2=>Y0 0 b2 (KH x2) (ie (ZB 2 [0] (iw (Yk x2.fields) (W7 [0,3,4,12,13,14,54,55,56] [(70,.b ((decide ((x2.fields.length:Int)>3))||(!XP ds.length x2.fields)))] (fun gz=>gz) ?_ ?_))))))
     ·refine Z1 2 (ib (b:=(decide ((x2.fields.length:Int)>3))) 64 (fun Xd=>?_) (fun Xd=>?_))
      ·have UV:(x2.fields.length:Int)>3:=(dq).1 Xd
       exact Z0 (wk [0,0] (Zp true Xd fl))
      have Td:¬((x2.fields.length:Int)>3):=ZZ dq Xd
      exact Y3 3 [0] (ZC [] (ND ds x2.fields) (Z0 (wk [0,0] (Zp (!XP ds.length x2.fields) Xd fl))))
     refine ac ((decide ((x2.fields.length:Int)>3))||(!XP ds.length x2.fields)) (p:=((x2.fields.length:Int)>3)∨(¬(XP ds.length x2.fields=true))) (Yg dq (Yi Iff.rfl)) (fun Xm=>?_) (fun Xm=>?_)
     ·exact ar (Z7 (Zo (.b false) (lb (IY Z2 (Z24 om (by rw [<-Xh,ZH Zt,Tb,Z4 (by rw [Z1f Xm];simp)])) Z9))))
     refine ak (az (ZK q (Z0 ?_)))
     have hdr:=ZH Zt
     exact ZJ ⟨q+1,ob,(by rw [ZH Zt,Tb,Z6 (Z1g Xm)] at Xh;exact Xh),rfl,rfl,rfl⟩ (wk [1] (ZL q fl))
    have hC:Tb ds.length x1.cons=true:=by rw [<-Xh,YR om];rfl
    refine ax 2 (ZM 2 (Zg (De (es:=X1 ds) (hv:=none) (l:=0) (m:=(k:Int)) (sz:=3) (es':=X1 (ds.take k)) kr om (by simp<;>omega) (by simp<;>omega) (Bz _) (by first|(simp only [Qt,Kr,BA,By];done)|(simp only [Qt,Kr,BA,By];rfl)|(simp [BA,By];done))) (io (.i (((ds.take k).length:Nat):Int)) (.i (((X1 (ds.take k)).length:Nat):Int)) (li (by rw [Vw])) (Z0 (ab 4 (ZR (fun fz gz m F h=>∃(j:Nat),(j<=k)/\(x1.cons.length=0->Qg x1 ((ds.take k).drop j)=Qg x1 (ds.take k))/\F=sF [0,4,12,13,14,74,75] fz [(76,.i j)]/\h=gz/\m=k-j) _ _ _ ⟨0,ob,ob,rfl,rfl,rfl⟩ (wk [0] (ZT fl)) ?_))))))
    rintro m F h ⟨j,M8,Kv,rfl,rfl,rfl⟩
    refine Zf (aq (Xf ((j:Int)<(((ds.take k).length:Nat):Int)) (fun Wc=>?_) (fun Wc=>?_)))
    ·have htl:(ds.take k).length<=k:=by rw [Ko];omega
     refine ak (aq (ab 5 (ar ?_)))
     obtain ⟨x3,YW⟩:=Zv (ds.take k) j om
     refine Zg (Zq none (j:Int) 3 (Vh YW)) (Z1 1 (iA [.i 0,.i 0,nl] fun b3=>Y0 0 b3 (Uc x3) (ie (ZB 2 [1] (iw (Vg x1.cons) (Xz 10 [0,4,8,12,13,14,74,75,76] [(89,.b (((x1.cons.length:Int)==0)&&((x3.cons.length:Int)==0)))] (fun gz=>gz) ?_ (fun hj3=>?_)))))))
     ·refine Xz 17 [0,4,8,12,13,14,74,75,76] [(96,.b ((((x1.cons.length:Int)==0)&&((x3.cons.length:Int)==0))&&(x3.frm==x1.frm)))] (fun gz=>gz) ?_ (fun hj4=>?_)
      ·refine W7 [0,4,12,13,14,74,75,76] [(103,.b (((((x1.cons.length:Int)==0)&&((x3.cons.length:Int)==0))&&(x3.frm==x1.frm))&&(x3.to_==x1.to_)))] (fun gz=>gz) ?_ ?_
       ·refine Z1 1 (ib (b:=((((x1.cons.length:Int)==0)&&((x3.cons.length:Int)==0))&&(x3.frm==x1.frm))) 97 (fun WC=>?_) (fun WC=>?_))
        ·have Qk:(((x1.cons.length:Int)=0)/\((x3.cons.length:Int)=0))/\(x3.frm=x1.frm):=((Yy (Yy Zr Zr) Zr)).1 WC
         exact Vq [0,1] (wk [0,0] (Zp (x3.to_==x1.to_) WC fl))
        have K8:¬((((x1.cons.length:Int)=0)/\((x3.cons.length:Int)=0))/\(x3.frm=x1.frm)):=ZZ (Yy (Yy Zr Zr) Zr) WC
        exact Z0 (wk [0,0] (Zp false WC fl))
       refine ac (((((x1.cons.length:Int)==0)&&((x3.cons.length:Int)==0))&&(x3.frm==x1.frm))&&(x3.to_==x1.to_)) (p:=((((x1.cons.length:Int)=0)/\((x3.cons.length:Int)=0))/\(x3.frm=x1.frm))/\(x3.to_=x1.to_)) (Yy (Yy (Yy Zr Zr) Zr) Zr) (fun UU=>?_) (fun UU=>?_)
       ·exact ar (Z7 (Zo (.b false) (lb (IY Z2 (Z25 om (by rw [<-Kv om,ZH YW,Qg,Z6 om])) Z9))))
       exact ak (az (ZK j (Z0 (ZJ ⟨j+1,ob,(fun q=>by have hq:=Kv q;rw [ZH YW,Qg,Z4 om] at hq;exact hq),rfl,rfl,rfl⟩ (wk [1] (ZL j fl))))))
      refine Z1 1 (ib (b:=(((x1.cons.length:Int)==0)&&((x3.cons.length:Int)==0))) 90 (fun V9=>?_) (fun V9=>?_))
      ·have Jw:((x1.cons.length:Int)=0)/\((x3.cons.length:Int)=0):=((Yy Zr Zr)).1 V9
       exact Y3 6 [0,1] (Yb (wk [0,0] (Zp (x3.frm==x1.frm) V9 fl)) hj4)
      have Ab:¬(((x1.cons.length:Int)=0)/\((x3.cons.length:Int)=0)):=ZZ (Yy Zr Zr) V9
      exact Z1 6 (Yb (wk [0,0] (Zp false V9 fl)) hj4)
     refine Z1 2 (ib (b:=((x1.cons.length:Int)==0)) 84 (fun Vx=>?_) (fun Vx=>?_))
     ·have Ek:(x1.cons.length:Int)=0:=(Zr).1 Vx
      exact Y3 2 [0] (iw (Vg x3.cons) (Z1 2 (Yb (wk [0,0] (Zp ((x3.cons.length:Int)==0) Vx fl)) hj3)))
     have El:¬((x1.cons.length:Int)=0):=ZZ Zr Vx
     exact Z1 5 (Yb (wk [0,0] (Zp false Vx fl)) hj3)
    have htl:(ds.take k).length=k:=by rw [Ko];omega
    have hD:x1.cons.length=0->Qg x1 (ds.take k)=false:=fun q=>by rw [<-Kv q,YR om];rfl
    refine ax 4 (az (ZK k (Z0 ?_)))
    have hdr:=ZH Z2
    exact ZJ ⟨k+1,ob,(Zdw Z2 (Z26 Zw hC hD) Z9),rfl,rfl,rfl⟩ (wk [] (ZL k fl))
   refine Z1 1 (ib (b:=((!(decide (0<=x1.frm/\x1.frm<=ds.length)))||(!(decide (0<=x1.to_/\x1.to_<=ds.length))))) 31 (fun Vi=>?_) (fun Vi=>?_))
   ·have BI:(¬(0<=x1.frm/\x1.frm<=ds.length))∨(¬(0<=x1.to_/\x1.to_<=ds.length)):=((Yg (Yi dq) (Yi dq))).1 Vi
    exact Z1 5 (Yb (wk [0] (Zp true Vi fl)) hj2)
   have BJ:¬((¬(0<=x1.frm/\x1.frm<=ds.length))∨(¬(0<=x1.to_/\x1.to_<=ds.length))):=ZZ (Yg (Yi dq) (Yi dq)) Vi
   exact Y3 2 [0] (iw (Vg x1.cons) (Z1 2 (Yb (wk [0] (Zp (decide ((x1.cons.length:Int)>3)) Vi fl)) hj2)))
  refine Z1 2 (ib (b:=(!(decide (0<=x1.frm/\x1.frm<=ds.length)))) 24 (fun Vj=>?_) (fun Vj=>?_))
  ·have Em:¬(0<=x1.frm/\x1.frm<=ds.length):=((Yi dq)).1 Vj
   exact Z1 6 (Yb (wk [0] (Zp true Vj fl)) hj1)
  have En:¬(¬(0<=x1.frm/\x1.frm<=ds.length)):=ZZ (Yi dq) Vj
  exact Y3 3 [0] (ZC [] (Er ds x1.to_) (Z1 2 (Yb (wk [0] (Zp (!(decide (0<=x1.to_/\x1.to_<=ds.length))) Vj fl)) hj1)))
 exact ax 0 (ar (Z7 (Zo (.b true) (lb (Zdv om om Z9)))))
theorem Ep (op:Int) :Za 95 [.i op] [] (ZP (.b (YU op))):=by
 refine Zx 9 Tryz.func95 (Zf (ar (Xz 6 [] [(8,.b ((decide (op>=14))&&(decide (op<=17))))] (fun gz=>gz) ?_ (fun hj1=>?_))))
 ·exact Z7 (Zo (.b ((decide (op>=14))&&(decide (op<=17)))) (lb (by rw [YU,Wk];simp)))
 refine Z1 3 (ib (b:=(decide (op>=14))) 5 (fun Zb=>?_) (fun Zb=>?_))
 ·exact Z1 3 (Yb (wk [] (Zp (decide (op<=17)) Zb fl)) hj1)
 exact Z1 3 (Yb (wk [] (Zp false Zb fl)) hj1)
theorem NJ (op:Int) :Za 250 [.i op] [] (ZP (.b (Qf op))):=by
 refine Zx 17 Tryz.func250 (Zf (ar (Xz 6 [0] [(8,.b ((op==6)||(op==9)))] (fun gz=>gz) ?_ (fun hj1=>?_))))
 ·refine Xz 10 [0] [(12,.b (((op==6)||(op==9))||(op==10)))] (fun gz=>gz) ?_ (fun hj2=>?_)
  ·refine Xz 14 [] [(16,.b ((((op==6)||(op==9))||(op==10))||(op==11)))] (fun gz=>gz) ?_ (fun hj3=>?_)
   ·exact Z7 (Zo (.b ((((op==6)||(op==9))||(op==10))||(op==11))) (lb (by first|rfl|omega|grind [Qf])))
   refine Z1 1 (ib (b:=(((op==6)||(op==9))||(op==10))) 13 (fun Zb=>?_) (fun Zb=>?_))
   ·have Ya:((op=6)∨(op=9))∨(op=10):=((Yg (Yg Zr Zr) Zr)).1 Zb
    exact Z1 3 (Yb (wk [] (Zp true Zb fl)) hj3)
   have YT:¬(((op=6)∨(op=9))∨(op=10)):=ZZ (Yg (Yg Zr Zr) Zr) Zb
   exact Z1 3 (Yb (wk [] (Zp (op==11) Zb fl)) hj3)
  refine Z1 1 (ib (b:=((op==6)||(op==9))) 9 (fun ZD=>?_) (fun ZD=>?_))
  ·have Xy:(op=6)∨(op=9):=((Yg Zr Zr)).1 ZD
   exact Z1 3 (Yb (wk [] (Zp true ZD fl)) hj2)
  have XE:¬((op=6)∨(op=9)):=ZZ (Yg Zr Zr) ZD
  exact Z1 3 (Yb (wk [] (Zp (op==10) ZD fl)) hj2)
 refine Z1 3 (ib (b:=(op==6)) 5 (fun Yn=>?_) (fun Yn=>?_))
 ·have VO:op=6:=(Zr).1 Yn
  exact Z1 3 (Yb (wk [] (Zp true Yn fl)) hj1)
 have Up:¬(op=6):=ZZ Zr Yn
 exact Z1 3 (Yb (wk [] (Zp (op==9) Yn fl)) hj1)
theorem Z5b (b:Zh) (c:Nat) (v:Int) (hb:b.sz<=1000000000:=by exact ob) (hv:0<=v/\v<=600:=by exact ob) (ih:∀(b2:Zh) (c:Nat) (v:Int),(b2.sz<b.sz)->(0<=v/\v<=600)->Za 207 [YC b2,.p c 0] [.obj c [.i v]] (fun r h=>(r=.b true/\h=[.obj c [.i (600-XS b2 (600-v))]]/\0<=XS b2 (600-v))∨(r=.b false/\h=[]/\XS b2 (600-v)<0))):Za 207 [YC b,.p c 0] [.obj c [.i v]] (fun r h=>(r=.b true/\h=[.obj c [.i (600-XS b (600-v))]]/\0<=XS b (600-v))∨(r=.b false/\h=[]/\XS b (600-v)<0)):=by
 have hbz:=JL b
 have hbe:=Oh b (600-v)
 refine Zx 38 Tryz.func207 (ar (iA (Vz b) fun b1=>?_))
 refine Z0 (Ym 2 [0] (iw (T2 b.steps) (Z0 (ab 0 (ZR (fun fz gz m F h=>∃(k:Nat) (q:Int),(k<=b.steps.length)/\(0<=q/\q<=600)/\(V4 (b.steps.drop k) (600-q)=V4 b.steps (600-v))/\F=sF [1,10,11] fz [(12,.i k)]/\h=[.obj c [.i q]]/\m=b.steps.length-k) _ _ _ ⟨0,v,ob,ob,rfl,rfl,rfl,rfl⟩ (wk [1] (ZT fl)) ?_)))))
 rintro m F h ⟨k,q,ZX,Z9,Zz,rfl,rfl,rfl⟩
 refine Zf (aq (Xf ((k:Int)<(b.steps.length:Int)) (fun Z5=>?_) (fun Z5=>?_)))
 ·refine ak (aq (ab 1 (ar ?_)))
  obtain ⟨x1,Z2⟩:=Zv b.steps k om
  have hss:=Df Z2
  have hkz:=Ql x1
  refine Zg (Zq none (k:Int) 5 (U2 Z2)) (Z1 1 (iA [.i 0,.i 0,.i 0,nl,nl] fun b2=>Y0 0 b2 (WO x1) (ie (Ym 3 [1] (ia ((q+1)) ((q)+(1)) (Z1 1 (Y0 1 c [.i (q+1)] (ie (Jt [0] (Xf ((q+1)>600) (fun Zd=>?_) (fun Zd=>?_)))))))))))
  ·exact ar (Z7 (r1 [] (.inr ⟨rfl,rfl,(by rw [hbe,<-Zz,ZH Z2,V4,Z6 om];omega)⟩)))
  refine ak (ZB 2 [1] (iw (Ua x1.kids) (Z0 (ab 2 (ZR (fun fz gz m F h=>∃(j:Nat) (j2:Int),(j<=x1.kids.length)/\(0<=j2/\j2<=600)/\(VJ (x1.kids.drop j) (600-j2)=VJ x1.kids (600-(q+1)))/\F=sF [1,10,11,12,26,27] fz [(28,.i j)]/\h=[.obj c [.i j2]]/\m=x1.kids.length-j) _ _ _ ⟨0,(q+1),ob,ob,rfl,rfl,rfl,rfl⟩ (wk [0] (ZT fl)) ?_)))))
  rintro m F h ⟨j,j2,T0,Xh,U7,rfl,rfl,rfl⟩
  refine Zf (aq (Xf ((j:Int)<(x1.kids.length:Int)) (fun Zw=>?_) (fun Zw=>?_)))
  ·refine ak (aq (ab 3 (ar ?_)))
   obtain ⟨x2,Zt⟩:=Zv x1.kids j om
   have hks:=Ka Zt
   have hle:=CO.2 x2 (600-j2) om
   refine Zg (Zq none (j:Int) 2 (TA Zt)) (Z1 1 (iA [nl,.i 0] fun b3=>Y0 0 b3 (Vz x2) (ie (ZB 2 [0] (ic [1] (ih x2 c j2 ob ob) ?_)))))
   rintro _ _ (⟨rfl,rfl,Ya⟩|⟨rfl,rfl,YT⟩)
   ·refine Z0 (XC (ak (az (ZK j (Z0 ?_)))))
    have hdr:=ZH Zt
    exact ZJ ⟨j+1,(600-XS x2 (600-j2)),ob,ob,(by rw [ZH Zt,VJ,Z4 om] at U7;rw [show 600-(600-XS x2 (600-j2))=XS x2 (600-j2) by omega];exact U7),rfl,rfl,rfl⟩ (wk [0] (ZL j fl))
   exact Z0 (W4 (ar (Z7 (r1 [] (.inr ⟨rfl,rfl,(by rw [hbe,<-Zz,ZH Z2,V4,Z4 om,Z6 (by rw [EE,show (600-q-1:Int)=600-(q+1) by omega,<-U7,ZH Zt,VJ,Z6 YT];omega)];omega)⟩)))))
  have hE:VJ x1.kids (600-(q+1))=600-j2:=by rw [<-U7,YR om,VJ]
  refine ax 2 (az (ZK k (Z0 ?_)))
  have hdr:=ZH Z2
  exact ZJ ⟨k+1,j2,ob,ob,(by rw [ZH Z2,V4,Z4 om,EE,show (600-q-1:Int)=600-(q+1) by omega,hE,Z4 om] at Zz;exact Zz),rfl,rfl,rfl⟩ (wk [0] (ZL k fl))
 refine ax 0 (Zf ?_)
 have hF:XS b (600-v)=600-q:=by rw [hbe,<-Zz,YR om,V4]
 exact ZG (r1 [0] (.inl ⟨rfl,rfl,om⟩) (eq:=(ro (ls:=[.i q]) (by rw [hF,show (600-(600-q):Int)=q by omega]) rz)))
theorem Z5a:∀(b:Zh) (c:Nat) (v:Int),(b.sz<=1000000000)->(0<=v/\v<=600)->Za 207 [YC b,.p c 0] [.obj c [.i v]] (fun r h=>(r=.b true/\h=[.obj c [.i (600-XS b (600-v))]]/\0<=XS b (600-v))∨(r=.b false/\h=[]/\XS b (600-v)<0)):=by
 have key:∀m:Nat,∀(b:Zh) (c:Nat) (v:Int),(b.sz<=m)->(b.sz<=1000000000)->(0<=v/\v<=600)->Za 207 [YC b,.p c 0] [.obj c [.i v]] (fun r h=>(r=.b true/\h=[.obj c [.i (600-XS b (600-v))]]/\0<=XS b (600-v))∨(r=.b false/\h=[]/\XS b (600-v)<0)):=by
  intro m
  induction m with
  | zero=>intro b c v h;have:=b.sz_pos;omega
  | succ m ih=>intro b c v h1 h2 h3;exact Z5b b c v h2 h3 fun b2 c2 v2 k1 k2=>ih b2 c2 v2 om om k2
 intro b c v h2 h3
 exact key b.sz b c v (YX _) h2 h3
theorem Z4w (b:Zh) (hb:b.sz<=1000000000:=by exact ob):Za 153 [YC b] [] (ZP (.i (UG b))):=by
 refine Zx 8 Tryz.func153 (ar (iA (Vz b) fun b1=>Z0 (ar (iA [.i 0] fun b2=>Y0 0 b2 [.i 0] (ie (Ym 1 [1] (ic [0] (Z5a b b2 0 ob ob) ?_)))))))
 rintro _ _ (⟨rfl,rfl,Ya⟩|⟨rfl,rfl,YT⟩)
 ·have h0:=Ya
  rw [show (600-0:Int)=600 from rfl] at h0
  exact Z0 (XC (ak (Jt [0] (ZG (Zo (.i (600-XS b (600-0))) (li (by rw [show (600-0:Int)=600 from rfl,UG,Z4 om])))))))
 have h0:=YT
 rw [show (600-0:Int)=600 from rfl] at h0
 exact Z0 (W4 (ar (Z7 (Zo (.i (-1)) (li (by rw [UG,Z6 h0]))))))
theorem Z5k (ds:List Zs) (fs:List WJ) (hz:Jd ds:=by exact ob) (hf:∀f∈fs,f.pms.length<=1100000000/\f.lnt.length<=1100000000) (hfl:fs.length<=4194304:=by exact ob):Za 73 [ZI ds,BT fs] [] (ZP (.b (Kk ds fs))):=by
 have hzl:=hz.len
 refine Zx 102 Tryz.func73 (Zf (Y8 1 (ZC [] (Z4x ds) (Xz 8 [0,1] [(16,.b ((!Wv ds)||(decide ((fs.length:Int)<1))))] (fun gz=>gz) ?_ (fun hj1=>?_)))))
 ·refine Xz 13 [0,1] [(21,.b (((!Wv ds)||(decide ((fs.length:Int)<1)))||(decide ((fs.length:Int)>4))))] (fun gz=>gz) ?_ (fun hj2=>?_)
  ·refine Z1 1 (ib (b:=(((!Wv ds)||(decide ((fs.length:Int)<1)))||(decide ((fs.length:Int)>4)))) 22 (fun Zb=>?_) (fun Zb=>?_))
   ·have Ya:((¬(Wv ds=true))∨((fs.length:Int)<1))∨((fs.length:Int)>4):=((Yg (Yg (Yi Iff.rfl) dq) dq)).1 Zb
    exact Z0 (W4 (ar (Z7 (Zo (.b false) (lb (Ze2 (by assumption)))))))
   have YT:¬(((¬(Wv ds=true))∨((fs.length:Int)<1))∨((fs.length:Int)>4)):=ZZ (Yg (Yg (Yi Iff.rfl) dq) dq) Zb
   refine Z1 1 ?_
   obtain ⟨x1,Z2⟩:=Zv fs 0 om
   refine Zg (Zq none 0 3 (AP Z2)) (Z1 2 (iw (Yk x1.pms) (Z1 3 (ib (b:=(decide ((x1.pms.length:Int)>0))) 30 (fun ZD=>?_) (fun ZD=>?_)))))
   ·have Xy:(x1.pms.length:Int)>0:=(dq).1 ZD
    exact Z0 (W4 (ar (Z7 (Zo (.b false) (lb (RO Z2 (.inl (by assumption))))))))
   have XE:¬((x1.pms.length:Int)>0):=ZZ dq ZD
   refine Z1 1 (Zg (Zq none 0 3 (AP Z2)) (Yt (x1.res != 0) ZO (fun Z5=>?_) (fun Z5=>?_)))
   ·exact ar (Z7 (Zo (.b false) (lb (RO Z2 (.inr Z5)))))
   refine ak (Y8 1 (iw (Cv fs) (Z0 (ab 0 (ZR (fun fz gz m F h=>∃(k:Nat),(k<=fs.length)/\(QM ds.length (fs.drop k)=QM ds.length fs)/\F=sF [0,37,38] fz [(39,.i k)]/\h=gz/\m=fs.length-k) _ _ _ ⟨0,ob,ob,rfl,rfl,rfl⟩ (wk [] (ZT fl)) ?_)))))
   rintro m F h ⟨k,ZX,Z9,rfl,rfl,rfl⟩
   refine Zf (aq (Xf ((k:Int)<(fs.length:Int)) (fun Zd=>?_) (fun Zd=>?_)))
   ·refine ak (aq (ab 1 (ar ?_)))
    obtain ⟨x2,Zt⟩:=Zv fs k om
    have hf2:=hf _ (YA Zt)
    refine Zg (Zq none (k:Int) 3 (AP Zt)) (Z1 1 (iA [nl,nl,.i 0] fun b1=>Y0 0 b1 (Od x2) (ie (Ym 2 [0] (iw (Yk x2.pms) (Xz 11 [0,6,37,38,39] [(53,.b ((decide ((x2.pms.length:Int)>3))||(!XP ds.length x2.pms)))] (fun gz=>gz) ?_ (fun hj3=>?_)))))))
    ·refine W7 [0,6,37,38,39] [(60,.b (((decide ((x2.pms.length:Int)>3))||(!XP ds.length x2.pms))||(!(decide (0<=x2.res/\x2.res<=ds.length)))))] (fun gz=>gz) ?_ ?_
     ·refine Z1 1 (ib (b:=((decide ((x2.pms.length:Int)>3))||(!XP ds.length x2.pms))) 54 (fun Yn=>?_) (fun Yn=>?_))
      ·have VO:((x2.pms.length:Int)>3)∨(¬(XP ds.length x2.pms=true)):=((Yg dq (Yi Iff.rfl))).1 Yn
       exact Z0 (wk [0] (Zp true Yn fl))
      have Up:¬(((x2.pms.length:Int)>3)∨(¬(XP ds.length x2.pms=true))):=ZZ (Yg dq (Yi Iff.rfl)) Yn
      exact Y3 3 [0] (ZC [] (Er ds x2.res) (Z0 (wk [0] (Zp (!(decide (0<=x2.res/\x2.res<=ds.length))) Yn fl))))
     refine ac (((decide ((x2.pms.length:Int)>3))||(!XP ds.length x2.pms))||(!(decide (0<=x2.res/\x2.res<=ds.length)))) (p:=(((x2.pms.length:Int)>3)∨(¬(XP ds.length x2.pms=true)))∨(¬(0<=x2.res/\x2.res<=ds.length))) (Yg (Yg dq (Yi Iff.rfl)) (Yi dq)) (fun Zw=>?_) (fun Zw=>?_)
     ·exact ar (Z7 (Zo (.b false) (lb (Fq (F9 Zt (Za9 Zw) Z9)))))
     refine ak (ZB 2 [0] (iw (Yk x2.lnt) (Z0 (ab 2 (ZR (fun fz gz m F h=>∃(j:Nat),(j<=x2.lnt.length)/\(TZ x2.pms (x2.lnt.drop j) (if j=0 then none else x2.lnt[j-1]?)=Kj x2.pms x2.lnt)/\F=sF [0,6,37,38,39,62,63] fz [(64,.i j)]/\h=gz/\m=x2.lnt.length-j) _ _ _ ⟨0,ob,(by rfl),rfl,rfl,rfl⟩ (wk [0] (ZT fl)) ?_)))))
     rintro m F h ⟨j,T0,Xh,rfl,rfl,rfl⟩
     refine Zf (aq (Xf ((j:Int)<(x2.lnt.length:Int)) (fun Yd=>?_) (fun Yd=>?_)))
     ·refine ak (aq (ab 3 (ZM 1 ?_)))
      obtain ⟨x3,YW⟩:=Zv x2.lnt j om
      refine Zg (Zq none (j:Int) 1 (Yc YW)) (Z0 (ar (Xz 9 [0,6,7,8,37,38,39,62,63,64] [(77,.b ((decide (x3<0))||(decide (x3>=(x2.pms.length:Int)))))] (fun gz=>gz) ?_ (fun hj4=>?_))))
      ·refine Z1 1 (ib (b:=((decide (x3<0))||(decide (x3>=(x2.pms.length:Int))))) 78 (fun Xd=>?_) (fun Xd=>?_))
       ·have UV:(x3<0)∨(x3>=(x2.pms.length:Int)):=((Yg dq dq)).1 Xd
        exact Z0 (W4 (ar (Z7 (Zo (.b false) (lb (Fq (F9 Zt (Ii (Hz YW (by rintro ⟨q1,q2,q3⟩;first|omega|(rw [Te] at q2;exact q2 (Yp some om))|(have:=q3 _ (by rw [Z4 om];exact KG);omega)) Xh)) Z9)))))))
       have Td:¬((x3<0)∨(x3>=(x2.pms.length:Int))):=ZZ (Yg dq dq) Xd
       refine Y3 3 [0] ?_
       obtain ⟨x4,Te⟩:=Zv x2.pms x3.toNat om
       refine Zg (Zq none x3 1 (Yc Te)) (Z1 4 (ib (b:=(x4==0)) 86 (fun WC=>?_) (fun WC=>?_)))
       ·have Qk:x4=0:=(Zr).1 WC
        exact Z0 (W4 (ar (Z7 (Zo (.b false) (lb (Fq (F9 Zt (Ii (Hz YW (by rintro ⟨q1,q2,q3⟩;first|omega|(rw [Te] at q2;exact q2 (Yp some om))|(have:=q3 _ (by rw [Z4 om];exact KG);omega)) Xh)) Z9)))))))
       have K8:¬(x4=0):=ZZ Zr WC
       refine Z1 3 (ib (b:=(decide ((j:Int)>0))) 89 (fun V9=>?_) (fun V9=>?_))
       ·have Jw:(j:Int)>0:=(dq).1 V9
        refine Y3 4 [0] (ia (((j-1:Nat):Int)) (((j:Int))-(1)) ?_)
        obtain ⟨x5,KG⟩:=Zv x2.lnt (j-1) om
        refine Zg (Zq none ((j-1:Nat):Int) 1 (Yc KG)) (ZN (x3<=x5) (fun Xm=>?_) (fun Xm=>?_))
        ·exact ar (Z7 (Zo (.b false) (lb (Fq (F9 Zt (Ii (Hz YW (by rintro ⟨q1,q2,q3⟩;first|omega|(rw [Te] at q2;exact q2 (Yp some om))|(have:=q3 _ (by rw [Z4 om];exact KG);omega)) Xh)) Z9)))))
        refine ak (az (ZK j (Z0 ?_)))
        have hdr:=ZH YW
        exact ZJ ⟨j+1,ob,(Oo YW ⟨by omega,(by rw [Te];intro q;cases q;omega),fun p hp=>by first|(rw [Z6 om] at hp;cases hp;done)|(rw [Z4 om,KG] at hp;cases hp;omega)⟩ Xh),rfl,rfl,rfl⟩ (wk [0] (ZL j fl))
       have Ab:¬((j:Int)>0):=ZZ dq V9
       refine Z0 (XC (ak (az (ZK j (Z0 ?_)))))
       have hdr:=ZH YW
       exact ZJ ⟨j+1,ob,(Oo YW ⟨by omega,(by rw [Te];intro q;cases q;omega),fun p hp=>by first|(rw [Z6 om] at hp;cases hp;done)|(rw [Z4 om,KG] at hp;cases hp;omega)⟩ Xh),rfl,rfl,rfl⟩ (wk [0] (ZL j fl))
      refine Z1 3 (ib (b:=(decide (x3<0))) 71 (fun Vx=>?_) (fun Vx=>?_))
      ·have Ek:x3<0:=(dq).1 Vx
       exact Z1 6 (Yb (wk [0] (Zp true Vx fl)) hj4)
      have El:¬(x3<0):=ZZ dq Vx
      exact Y3 3 [0] (iw (Yk x2.pms) (Z1 2 (Yb (wk [0] (Zp (decide (x3>=(x2.pms.length:Int))) Vx fl)) hj4)))
     have hL:Kj x2.pms x2.lnt=true:=by rw [<-Xh,YR om];rfl
     have hS:=Zaa Zw hL
     refine ax 2 (az (ZK k (Z0 ?_)))
     have hdr:=ZH Zt
     exact ZJ ⟨k+1,ob,(Zam Zt hS Z9),rfl,rfl,rfl⟩ (wk [] (ZL k fl))
    refine Z1 2 (ib (b:=(decide ((x2.pms.length:Int)>3))) 47 (fun Vi=>?_) (fun Vi=>?_))
    ·have BI:(x2.pms.length:Int)>3:=(dq).1 Vi
     exact Z1 6 (Yb (wk [0] (Zp true Vi fl)) hj3)
    have BJ:¬((x2.pms.length:Int)>3):=ZZ dq Vi
    exact Y3 3 [0] (ZC [] (ND ds x2.pms) (Z1 2 (Yb (wk [0] (Zp (!XP ds.length x2.pms) Vi fl)) hj3)))
   exact ax 0 (ar (Z7 (Zo (.b true) (lb (Ze3 (by assumption) Z2 (by assumption) Z5 (by rw [<-Z9,YR om];rfl))))))
  refine Z1 1 (ib (b:=((!Wv ds)||(decide ((fs.length:Int)<1)))) 17 (fun Vj=>?_) (fun Vj=>?_))
  ·have Em:(¬(Wv ds=true))∨((fs.length:Int)<1):=((Yg (Yi Iff.rfl) dq)).1 Vj
   exact Z1 4 (Yb (wk [] (Zp true Vj fl)) hj2)
  have En:¬((¬(Wv ds=true))∨((fs.length:Int)<1)):=ZZ (Yg (Yi Iff.rfl) dq) Vj
  exact Z1 1 (iw (Cv fs) (Z1 2 (Yb (wk [] (Zp (decide ((fs.length:Int)>4)) Vj fl)) hj2)))
 refine Z1 2 (ib (b:=(!Wv ds)) 12 (fun KC=>?_) (fun KC=>?_))
 ·have Z4b:¬(Wv ds=true):=((Yi Iff.rfl)).1 KC
  exact Z1 4 (Yb (wk [] (Zp true KC fl)) hj1)
 have Z4c:¬(¬(Wv ds=true)):=ZZ (Yi Iff.rfl) KC
 exact Z1 1 (iw (Cv fs) (Z1 2 (Yb (wk [] (Zp (decide ((fs.length:Int)<1)) KC fl)) hj1)))
theorem NK (n:Zl) (hz:WI n:=by exact ob):Za 152 [X3 n] [] (fun r h=>(r=.tup [.agg [ZI n.decls,Yo n],.b (V5 n)]/\h=[]/\n.routines.length<=4)∨(r=.tup [.agg [ZI [],BT []],.b false]/\h=[]/\V5 n=false)):=by
 have hzl:=hz.len
 refine Zx 41 Tryz.func152 (ar (iA (W8 n) fun b1=>iA [nl,nl] fun b2=>Z0 (Ym 2 [1] (iw (UD n.routines) (ZN ((n.routines.length:Int)>4) (fun Z5=>?_) (fun Z5=>?_))))))
 ·exact ZM 1 (Y0 0 b2 [nl,nl] (Z7 (r3 [] [.agg [nl,nl],.b false] [0] [(b2,b2)] (.inr ⟨rfl,rfl,(by rw [ON,decide_eq_false om];rfl)⟩) (Zk.tup (.cons (Zk.agg (.cons (Zk.sl _ rfl) (.cons (Zk.sl _ rfl) .nil))) (.cons (lr _) .nil))))))
 refine ak (ZB 3 [1] (iA [nl,nl] fun b3=>?_))
 refine Y0 0 b3 [ZI n.decls,nl] (ie (Ym 2 [2] (iw (UD n.routines) (Z0 (ab 0 (TP 3 (ZR (fun fz gz m F h=>∃(k:Nat) (v:Value),(k<=n.routines.length)/\F=sF [1,2,4,16,17] fz [(18,.i k)]/\h=[.obj b3 [ZI n.decls,ER ((n.routines.take k).map Xn) v],Zy gz 2,Zy gz 3,.tail v 3]/\m=n.routines.length-k) _ _ _ ⟨0,(.slice none 0 0),ob,rfl,rfl,rfl⟩ (wk [1,1,1,0] (ZT fl)) ?_)))))))
 rintro m F h ⟨k,v,ZX,rfl,rfl,rfl⟩
 refine Zf (aq (Xf ((k:Int)<(n.routines.length:Int)) (fun Zd=>?_) (fun Zd=>?_)))
 ·refine ak (aq (ab 1 (ar ?_)))
  obtain ⟨x1,Z2⟩:=Zv n.routines k om
  refine Zg (Zq none (k:Int) 5 (Um Z2)) (Z1 1 (iA [nl,nl,.i 0,nl,.i 0] fun b4=>Y0 0 b4 (TH x1) (ie (az (Y3 9 [1,0,0,0] (iL (UQ [WJ.mk x1.params x1.lent x1.result]) 1 3 fun v1=>XX 0 [(31,BT [WJ.mk x1.params x1.lent x1.result])] (ip 5 (UQ ((n.routines.take (k+1)).map Xn)) (UQ ((n.routines.take k).map Xn)) (UQ [WJ.mk x1.params x1.lent x1.result]) v none 3 (MT _) (MT _) (Z2v _) (by simp<;>omega) (by rw [WP Z2];simp [UQ,Xn]) fun v2=>Z1 1 (Y0 3 b3 [ZI n.decls,ER ((n.routines.take (k+1)).map Xn) v2] (ie (az (ZK k (Z0 ?_))))))))))))
  have hdr:=ZH Z2
  exact ZJ ⟨k+1,v2,ob,rfl,rfl,rfl⟩ (wk [0,3,3,0] (ZL k fl))
 refine ax 0 (aD 8 (Gs 3 8 [0,1,2,3,4] [(39,BT ((n.routines.take k).map Xn))] [0,2,0] (ZF 5 (XY 5 [] [0] [b3] (Z5k n.decls ((n.routines.take k).map Xn) (hz:=hz.decls) (hf:=(by intro f hf;obtain ⟨r,h1,rfl⟩:=Xb.1 hf;have q:=Cc h1;have q1:=hz.params r q;have q2:=hz.lent r q;exact ⟨by show r.params.length<=_;omega,by show r.lent.length<=_;omega⟩))) (ZF 6 (Uw 6 1 [] [] b2 [ZI n.decls,ER ((n.routines.take k).map Xn) v] (Zm 0 1 [7] (de ?_))))))))
 have htk:n.routines.take k=n.routines:=W2 om
 exact ZG (r3 [] [.agg [ZI n.decls,ER ((n.routines.take k).map Xn) v],.b (Kk n.decls ((n.routines.take k).map Xn))] [0] [(b2,b2)] (.inl ⟨rfl,rfl,om⟩) (Zk.tup (.cons (Zk.agg (.cons (lr _) (.cons (Zk.sl _ (Yp UQ (by rw [htk]))) .nil))) (.cons (lb (by rw [htk,ON,decide_eq_true (p:=n.routines.length<=4) om,Bool.true_and])) .nil))))
theorem NL (n:Zl) (t:Int) (hn:YY n:=by exact ob):Za 244 [.agg [ZI n.decls,Yo n],.i t] [] (ZP (Ak ((YG n.decls t).map (Y2 n.decls)))):=by
 have Ws:=hn.decls
 have hcl:=Z8c Ws t
 refine Zx 26 Tryz.func244 (ar (iA [ZI n.decls,Yo n] fun b1=>?_))
 refine Z0 (Zf (Ym 3 [0] (ZC [] (Z59 n.decls t) (io (.i (((YG n.decls t).length:Nat):Int)) (.i (((Zi (YG n.decls t)).length:Nat):Int)) (li (by rw [Yk])) (Z0 (ab 0 (TP 1 (ZR (fun fz gz m F h=>∃(k:Nat) (v:Value),(k<=(YG n.decls t).length)/\F=sF [2,11,12] fz [(5,CV (((YG n.decls t).take k).map (Y2 n.decls)) v),(13,.i k)]/\h=[Zy gz 1,.tail v 1]/\m=(YG n.decls t).length-k) _ _ _ ⟨0,(.slice none 0 0),ob,rfl,rfl,rfl⟩ (wk [1,0] (fc (x:=nl) (Zk.slh _ rfl) (ZT fl))) ?_))))))))
 rintro m F h ⟨k,v,ZX,rfl,rfl,rfl⟩
 refine Zf (aq (Xf ((k:Int)<(((YG n.decls t).length:Nat):Int)) (fun Z5=>?_) (fun Z5=>?_)))
 ·refine ak (aq (ab 1 (ar ?_)))
  obtain ⟨x1,Z2⟩:=Zv (YG n.decls t) k om
  refine Zg (Zq none (k:Int) 1 (Yc Z2)) (Z0 (az (Y3 4 [0] (ZC [] (Z5c n.decls x1 (hc:=(by have:=Mv Ws Z2;omega))) (iL (Ub [Y2 n.decls x1]) 1 1 fun v1=>XX 0 [(22,Ak [Y2 n.decls x1])] (ip 2 (Ub (((YG n.decls t).take (k+1)).map (Y2 n.decls))) (Ub (((YG n.decls t).take k).map (Y2 n.decls))) (Ub [Y2 n.decls x1]) v none 1 (MP _) (MP _) (Z2t _) (by simp;omega) (by rw [WP Z2];simp [Ub]) fun v2=>Z0 (az (ZK k (Z0 ?_)))))))))
  have hdr:=ZH Z2
  exact ZJ ⟨k+1,v2,ob,rfl,rfl,rfl⟩ (wk [2,0] (fr (ZL k fl)))
 exact ax 0 (ar (Z7 (Zo (CV (((YG n.decls t).take k).map (Y2 n.decls)) v) (Zk.sl _ (Yp Ub (by rw [W2 om]))))))
theorem Z5i (n:Zl) (op:Int) (num:Int) (ts:LI) (hn:YY n:=by exact ob) (hl_ts:ts.length<=4294967296:=by exact ob) (hnum:-9223372036854775808<=num/\num<=9223372036854775807:=by exact ob):Za 245 [.agg [ZI n.decls,Yo n],.i op,.i num,Ze ts] [] (fun r h=>∃(t:Int),r=.tup [.i t,.b ((Xa n op num ts).isSome)]/\h=[]/\∀x,Xa n op num ts=some x->t=x):=by
 have Ws:=hn.decls
 have hrl:=hn.len
 have hcfl:(Y2 n.decls num).length<=4294967296:=by have:=TU Ws num;omega
 have hdl:n.decls.length<=4294967296:=by have:=Ws.len;omega
 refine Zx 149 Tryz.func245 (ar (iA [ZI n.decls,Yo n] fun b1=>Z0 (Zf (Yj (ab 0 (ar (Yt (op==0) Zr (fun Z5=>?_) (fun Z5=>?_))))))))
 ·refine ar (Xz 6 [3] [(26,.b ((decide (num>=(-999)))&&(decide (num<=999))))] (fun gz=>gz) ?_ (fun hj1=>?_))
  ·refine Xz 11 [] [(31,.b (((decide (num>=(-999)))&&(decide (num<=999)))&&((ts.length:Int)==0)))] (fun gz=>gz) ?_ (fun hj2=>?_)
   ·refine Z0 ?_
    have hF:=sf0 (n:=n) (num:=num) (ts:=ts) Z5
    exact ZG (r2 [] [.i 0,.b (((decide (num>=(-999)))&&(decide (num<=999)))&&((ts.length:Int)==0))] ⟨0,rfl,rfl,(Ar hF)⟩ (Zk.tup (.cons (lr _) (.cons (lb (Aq hF (by simp [*];try omega))) .nil))))
   refine Z1 1 (ib (b:=((decide (num>=(-999)))&&(decide (num<=999)))) 27 (fun Zb=>?_) (fun Zb=>?_))
   ·have Ya:(num>=(-999))/\(num<=999):=((Yy dq dq)).1 Zb
    exact Z1 1 (iw (Yk ts) (Z1 2 (Yb (wk [0] (Zp ((ts.length:Int)==0) Zb fl)) hj2)))
   have YT:¬((num>=(-999))/\(num<=999)):=ZZ (Yy dq dq) Zb
   exact Z1 4 (Yb (wk [0] (Zp false Zb fl)) hj2)
  refine Z1 3 (ib (b:=(decide (num>=(-999)))) 23 (fun ZD=>?_) (fun ZD=>?_))
  ·have Xy:num>=(-999):=(dq).1 ZD
   exact Z1 3 (Yb (wk [0] (Zp (decide (num<=999)) ZD fl)) hj1)
  have XE:¬(num>=(-999)):=ZZ dq ZD
  exact Z1 3 (Yb (wk [0] (Zp false ZD fl)) hj1)
 refine Yj (Tz (fun fz gz F h=>F=sF [1,2,3,4,11,18] fz [(32,.b ((op==1)||((op==2)||((op==3)||(op==4)))))]/\h=gz) ?_ ?_)
 ·refine ac (op==1) Zr (fun Zd=>?_) (fun Zd=>?_)
  ·exact ak (Xk ⟨rfl,rfl⟩ (wk [0] (fc (x:=.b (op==1)) (lb (by first|rfl|(rw [Z6 Zd])|(rw [Z4 Zd])|(simp [Zd];done)|(rw [Wk];simp [Zd];done)|omega)) fl)))
  refine ar (Yt (op==2) Zr (fun Zw=>?_) (fun Zw=>?_))
  ·exact ak (Xk ⟨rfl,rfl⟩ (wk [0] (fc (x:=.b (op==2)) (lb (by first|rfl|(rw [Z6 Zd])|(rw [Z4 Zd])|(simp [Zd,Zw];done)|(rw [Wk];simp [Zd,Zw];done)|omega)) fl)))
  refine ar (Yt (op==3) Zr (fun Yd=>?_) (fun Yd=>?_))
  ·exact ak (Xk ⟨rfl,rfl⟩ (wk [0] (fc (x:=.b (op==3)) (lb (by first|rfl|(rw [Z6 Zd])|(rw [Z4 Zd])|(simp [Zd,Zw,Yd];done)|(rw [Wk];simp [Zd,Zw,Yd];done)|omega)) fl)))
  exact Qj (Xk ⟨rfl,rfl⟩ (wk [0] (fc (x:=.b (op==4)) (lb (by first|rfl|(rw [Z6 Zd])|(rw [Z4 Zd])|(simp [Zd,Zw,Yd];done)|(rw [Wk];simp [Zd,Zw,Yd];done)|omega)) fl)))
 rintro F h ⟨rfl,rfl⟩
 refine ac ((op==1)||((op==2)||((op==3)||(op==4)))) (p:=(op=1)∨((op=2)∨((op=3)∨(op=4)))) (Yg Zr (Yg Zr (Yg Zr Zr))) (fun Xm=>?_) (fun Xm=>?_)
 ·refine az (iL (Zi [0,0]) 2 1 fun v1=>Z0 (ar (Xz 8 [] [(141,.i 0),(148,.b ((num==0)&&(decide (ts=[0,0]))))] (fun gz=>gz) ?_ (fun hj3=>?_))))
  ·refine Z0 ?_
   have hF:=sf1 (n:=n) (num:=num) (ts:=ts) Xm
   exact ZG (r2 [] [.i 0,.b ((num==0)&&(decide (ts=[0,0])))] ⟨0,rfl,rfl,(Ar hF)⟩ (Zk.tup (.cons (lr _) (.cons (lb (Aq hF (by simp [*];try omega))) .nil))))
  refine Z1 4 (ib (b:=(num==0)) 144 (fun Yn=>?_) (fun Yn=>?_))
  ·have VO:num=0:=(Zr).1 Yn
   exact XX 2 [(146,Ze [0,0])] (ZC [] (B4 ts [0,0]) (Z1 1 (Yb (wk [0,0] (fr (Zp (decide (ts=[0,0])) Yn fl))) hj3)))
  have Up:¬(num=0):=ZZ Zr Yn
  exact Z1 4 (Yb (wk [0,0] (fr (Zp false Yn fl))) hj3)
 refine ar (Yt (op==5) Zr (fun Wc=>?_) (fun Wc=>?_))
 ·refine az (iL (Zi [0]) 1 1 fun v2=>Z0 (ar (Xz 8 [] [(141,.i 0),(148,.b ((num==0)&&(decide (ts=[0]))))] (fun gz=>gz) ?_ (fun hj4=>?_))))
  ·refine Z0 ?_
   have hF:=sf5 (n:=n) (num:=num) (ts:=ts) Wc
   exact ZG (r2 [] [.i 0,.b ((num==0)&&(decide (ts=[0])))] ⟨0,rfl,rfl,(Ar hF)⟩ (Zk.tup (.cons (lr _) (.cons (lb (Aq hF (by simp [*];try omega))) .nil))))
  refine Z1 4 (ib (b:=(num==0)) 144 (fun Xd=>?_) (fun Xd=>?_))
  ·have UV:num=0:=(Zr).1 Xd
   exact XX 2 [(146,Ze [0])] (ZC [] (B4 ts [0]) (Z1 1 (Yb (wk [0,0] (fr (Zp (decide (ts=[0])) Xd fl))) hj4)))
  have Td:¬(num=0):=ZZ Zr Xd
  exact Z1 4 (Yb (wk [0,0] (fr (Zp false Xd fl))) hj4)
 refine ar (Yt (op==11) Zr (fun UU=>?_) (fun UU=>?_))
 ·refine Y8 1 (iw (Yk ts) (Yt ((ts.length:Int) != 2) ZO (fun Vy=>?_) (fun Vy=>?_)))
  ·refine Zf ?_
   have hF:=Zaj (n:=n) (num:=num) UU Vy
   exact ZG (r2 [] [.i (-1),.b false] ⟨(-1),rfl,rfl,(Db hF)⟩ (Zk.tup (.cons (lr _) (.cons (lb (Da hF)) .nil))))
  refine ak (aD 12 (Y7 9 12 [0,1,2] [0] ?_))
  obtain ⟨x1,Z2⟩:=Zv ts 0 om
  refine dx 3 (Zq none 0 1 (Yc Z2)) (Zm 7 8 [4] (Gr (fun fz gz F h=>∃(b2:Nat),F=sF [2,3] fz [(12,.p b2 0),(13,.b (XK n.decls x1))]/\h=[.obj b2 (Uc (Vn n.decls x1)),Zy gz 0]) ?_ ?_))
  ·refine Gu 5 9 ?_ ?_
   ·exact XY 5 [] [] [] (Eo n.decls x1) (Zm 3 6 [6,7,8] (ZF 9 (dA 9 [] [] [.i 0,.i 0,nl] fun b2=>ZF 10 (Uw 10 0 [] [] b2 (Uc (Vn n.decls x1)) (Zm 0 1 [11] (de (Xk ⟨b2,rfl,rfl⟩ (wk [0,0] fl))))))))
   exact dA 9 [0] [b1] [.i 0,.i 0,nl] fun b3=>ZF 5 (XY 5 [] [] [] (Eo n.decls x1) (Zm 2 5 [6,7,8] (ZF 10 (Uw 10 0 [] [] b3 (Uc (Vn n.decls x1)) (Zm 0 1 [11] (de (Xk ⟨b3,rfl,rfl⟩ (wk [0,0] fl))))))))
  rintro F h ⟨b2,rfl,rfl⟩
  refine aD 17 (Y7 13 17 [0,1,2,3] [0] (db (b:=XK n.decls x1) 58 (fun WC=>?_) (fun WC=>?_)))
  ·have Qk:XK n.decls x1=true:=(Iff.rfl).1 WC
   refine Zm 12 13 [4] ?_
   obtain ⟨x2,Zt⟩:=Zv ts 1 om
   refine dx 5 (Zq none 1 1 (Yc Zt)) (Y7 4 11 [6,7,8,9,10,11,15] [0] (db (b:=(x2==((Vn n.decls x1).frm))) 66 (fun V9=>?_) (fun V9=>?_)))
   ·have K8:x2=((Vn n.decls x1).frm):=(Zr).1 V9
    refine Zm 0 4 [12,13,14,16] (de ?_)
    have hF:=In (n:=n) (num:=num) UU Vy Z2 Zt
    exact ZG (r2 [] [.i ((Vn n.decls x1).to_),.b (num==0)] ⟨(Vn n.decls x1).to_,rfl,rfl,(Ar hF)⟩ (Zk.tup (.cons (lr _) (.cons (lb (Aq hF (by simp [*];try omega))) .nil))))
   have Jw:¬(x2=((Vn n.decls x1).frm)):=ZZ Zr V9
   refine Zm 0 4 [12,13,14,16] (de ?_)
   have hF:=In (n:=n) (num:=num) UU Vy Z2 Zt
   exact ZG (r2 [] [.i ((Vn n.decls x1).to_),.b false] ⟨(Vn n.decls x1).to_,rfl,rfl,(Ar hF)⟩ (Zk.tup (.cons (lr _) (.cons (lb (Aq hF (by simp [*]))) .nil))))
  have Ab:¬(XK n.decls x1=true):=ZZ Iff.rfl WC
  refine Zm 0 13 [4,5,6,7,8,9,10,11,12,13,14,15,16] (de ?_)
  have hF:=Zai (n:=n) (num:=num) UU Vy Z2 (by assumption)
  exact ZG (r2 [] [.i ((Vn n.decls x1).to_),.b false] ⟨(Vn n.decls x1).to_,rfl,rfl,(Db hF)⟩ (Zk.tup (.cons (lr _) (.cons (lb (Da hF)) .nil))))
 refine ar (Yt (op==6) Zr (fun T3=>?_) (fun T3=>?_))
 ·refine ZB 3 [0] (ZC [] (NF n.decls num) (Z1 3 (iA [nl] fun b4=>Z1 1 (Y0 0 b4 [Ze (Y2 n.decls num)] (ie (ar (Xz 9 [] [(79,.i (XJ n.decls num)),(87,.b ((decide ((XJ n.decls num)>=0))&&(decide (ts=(Y2 n.decls num)))))] (fun gz=>gz) ?_ (fun hj5=>?_))))))))
  ·refine Z0 ?_
   have hF:=sf6 (n:=n) (num:=num) (ts:=ts) T3
   exact ZG (r2 [] [.i (XJ n.decls num),.b ((decide ((XJ n.decls num)>=0))&&(decide (ts=(Y2 n.decls num))))] ⟨XJ n.decls num,rfl,rfl,(Ar hF)⟩ (Zk.tup (.cons (lr _) (.cons (lb (Aq hF (by simp [*];try omega))) .nil))))
  refine Z1 4 (ib (b:=(decide ((XJ n.decls num)>=0))) 82 (fun Vx=>?_) (fun Vx=>?_))
  ·have Ek:(XJ n.decls num)>=0:=(dq).1 Vx
   exact Y3 3 [0] (ZC [] (B4 ts (Y2 n.decls num)) (Z1 1 (Yb (wk [0,0] (fr (Zp (decide (ts=(Y2 n.decls num))) Vx fl))) hj5)))
  have El:¬((XJ n.decls num)>=0):=ZZ dq Vx
  exact Z1 5 (Yb (wk [0,0] (fr (Zp false Vx fl))) hj5)
 refine Yj (Tz (fun fz gz F h=>F=sF [1,2,3,4] fz [(88,.b ((op==9)||(op==10)))]/\h=gz) ?_ ?_)
 ·refine ac (op==9) Zr (fun To=>?_) (fun To=>?_)
  ·exact ak (Xk ⟨rfl,rfl⟩ (wk [0] (fc (x:=.b (op==9)) (lb (by first|rfl|(rw [Z6 To])|(rw [Z4 To])|(simp [To];done)|(rw [Wk];simp [To];done)|omega)) fl)))
  exact Qj (Xk ⟨rfl,rfl⟩ (wk [0] (fc (x:=.b (op==10)) (lb (by first|rfl|(rw [Z6 To])|(rw [Z4 To])|(simp [To];done)|(rw [Wk];simp [To];done)|omega)) fl)))
 rintro F h ⟨rfl,rfl⟩
 refine ac ((op==9)||(op==10)) (p:=(op=9)∨(op=10)) (Yg Zr Zr) (fun Jv=>?_) (fun Jv=>?_)
 ·refine Yq (W7 [1,2,3,4] [(99,.b ((decide (num<0))||(decide (num>=(((n.routines.map Xn).length:Nat):Int)))))] (fun gz=>gz) ?_ ?_)
  ·refine Z1 3 (ib (b:=(decide (num<0))) 93 (fun Vi=>?_) (fun Vi=>?_))
   ·have BI:num<0:=(dq).1 Vi
    exact Z0 (wk [0] (Zp true Vi fl))
   have BJ:¬(num<0):=ZZ dq Vi
   exact Y3 3 [0] (io (.i (((n.routines.map Xn).length:Nat):Int)) (.i (((UQ (n.routines.map Xn)).length:Nat):Int)) (li (by rw [Cv])) (Z0 (wk [0] (Zp (decide (num>=(((n.routines.map Xn).length:Nat):Int))) Vi fl))))
  refine ac ((decide (num<0))||(decide (num>=(((n.routines.map Xn).length:Nat):Int)))) (p:=(num<0)∨(num>=(((n.routines.map Xn).length:Nat):Int))) (Yg dq dq) (fun Tp=>?_) (fun Tp=>?_)
  ·refine Zf ?_
   have hF:=Zak (n:=n) (ts:=ts) Jv Tp
   exact ZG (r2 [] [.i (-1),.b false] ⟨(-1),rfl,rfl,(Db hF)⟩ (Zk.tup (.cons (lr _) (.cons (lb (Da hF)) .nil))))
  refine ak (aD 14 (Y7 11 14 [0,1,2] [0] ?_))
  obtain ⟨x3,YW⟩:=Zv (n.routines.map Xn) num.toNat om
  obtain ⟨r,hr,hrx⟩:=F8 YW
  have hrp:=hn.params_at hr
  have hpx:x3.pms=r.params:=by rw [hrx];rfl
  have hpl:x3.pms.length<=3:=by rw [hpx];exact hrp
  refine dx 3 (Zq none num 3 (AP YW)) (Y7 5 10 [4,5,6,7,8] [0] (dx 9 (Zq none num 3 (AP YW)) (Zm 0 4 [10,11,12,13] (de (Yq (Yt (op==9) Zr (fun K6=>?_) (fun K6=>?_)))))))
  ·refine ZM 3 (ZC [] (B4 ts x3.pms) (Z0 ?_))
   have hF:=sf9 (ts:=ts) K6 Tp YW
   exact ZG (r2 [] [.i x3.res,.b (decide (ts=x3.pms))] ⟨x3.res,rfl,rfl,(Ar hF)⟩ (Zk.tup (.cons (lr _) (.cons (lb (Aq hF (by simp [*];try omega))) .nil))))
  refine ak (ZM 1 (iw (Yk x3.pms) (ia (((x3.pms.length:Int)-1)) (((x3.pms.length:Int))-(1)) (Z0 (Yq (ZN (((x3.pms.length:Int)-1)<0) (fun AS=>?_) (fun AS=>?_)))))))
  ·refine Zf ?_
   have hF:=Zah (ts:=ts) (Jv.resolve_left K6) Tp YW AS
   exact ZG (r2 [] [.i (-1),.b false] ⟨(-1),rfl,rfl,(Db hF)⟩ (Zk.tup (.cons (lr _) (.cons (lb (Da hF)) .nil))))
  refine ak (aD 9 (Y7 5 9 [0,1,2,3] [0] ?_))
  obtain ⟨x4,Te⟩:=Zv x3.pms (((x3.pms.length:Int)-1).toNat) om
  refine dx 4 (Zq none ((x3.pms.length:Int)-1) 1 (Yc Te)) (Zm 2 4 [5,6] (ZF 7 (XY 7 [] [] [] (Z4z n.decls x4 x3.res) (Zm 0 1 [8] (de (ar (Xz 10 [] [(131,.i (T9 n.decls x4 x3.res)),(140,.b ((decide ((T9 n.decls x4 x3.res)>=0))&&(decide (ts=(x3.pms.take (((x3.pms.length:Int)-1).toNat))))))] (fun gz=>gz) ?_ (fun hj6=>?_))))))))
  ·refine Z0 ?_
   have hF:=Zag (ts:=ts) (Jv.resolve_left K6) Tp YW AS Te
   exact ZG (r2 [] [.i (T9 n.decls x4 x3.res),.b ((decide ((T9 n.decls x4 x3.res)>=0))&&(decide (ts=(x3.pms.take (((x3.pms.length:Int)-1).toNat)))))] ⟨T9 n.decls x4 x3.res,rfl,rfl,(Ar hF)⟩ (Zk.tup (.cons (lr _) (.cons (lb (Aq hF (by rw [Wk];simp))) .nil))))
  refine Z1 4 (ib (b:=(decide ((T9 n.decls x4 x3.res)>=0))) 134 (fun Vj=>?_) (fun Vj=>?_))
  ·have Em:(T9 n.decls x4 x3.res)>=0:=(dq).1 Vj
   exact Z1 3 (Zg (De (es:=Zi x3.pms) (hv:=none) (l:=0) (m:=((x3.pms.length:Int)-1)) (sz:=1) (es':=Zi (x3.pms.take (((x3.pms.length:Int)-1).toNat))) kr om (by simp<;>omega) (by simp<;>omega) (Wq _) (by first|(simp only [Qt,Kr,Kz,Jp];done)|(simp only [Qt,Kr,Kz,Jp];rfl)|(simp [Kz,Jp];done))) (ZC [] (B4 ts (x3.pms.take (((x3.pms.length:Int)-1).toNat))) (Z1 1 (Yb (wk [0] (fr (Zp (decide (ts=(x3.pms.take (((x3.pms.length:Int)-1).toNat)))) Vj fl))) hj6))))
  have En:¬((T9 n.decls x4 x3.res)>=0):=ZZ dq Vj
  exact Z1 6 (Yb (wk [0] (fr (Zp false Vj fl))) hj6)
 refine Zf ?_
 have hF:=sfd (n:=n) (num:=num) (ts:=ts) Z5 Xm Wc UU T3 Jv
 exact ZG (r2 [] [.i (-1),.b false] ⟨(-1),rfl,rfl,(Db hF)⟩ (Zk.tup (.cons (lr _) (.cons (lb (Da hF)) .nil))))
theorem NM (n:Zl) (us:LI) (ks:List Zh) (ms:List LI) (hn:YY n:=by exact ob) (hnn:∀t∈us,0<=t) (hk:0<ks.length:=by exact ob) (hl:ks.length=ms.length:=by exact ob) (hb:us.length+3+4*Xl ks<=1000000000:=by exact ob) (hr:QE ks:=by exact ob) (hm3:∀m∈ms,m.length<=3) (hmn:∀m∈ms,∀f∈m,0<=f) (ih:∀(b:Zh) (us:LI),(b.sz<=Xl ks)->(us.length+4*b.sz<=1000000000)->(b.rng)->(∀t∈us,0<=t)->Za 154 [.agg [ZI n.decls,Yo n],Ze us,YC b] [] (ZP (.i (Ys n us b)))):Za 243 [.agg [ZI n.decls,Yo n],Ze us,KI ks,Ak ms] [] (ZP (.tup [.i (XL n us ks ms true 0),.b (decide (0<=XL n us ks ms true 0))])):=by
 have hkl:=M0 ks
 refine Zx 45 Tryz.func243 (ar (iA [ZI n.decls,Yo n] fun b1=>?_))
 refine Z0 (Zf (Y8 1 (iw (Ua ks) (Z0 (ab 0 (ZR (fun fz gz m F h=>∃(k:Nat) (t:Int),(k<=ks.length)/\(0<k->0<=t)/\(XL n us (ks.drop k) (ms.drop k) (decide (k=0)) t=XL n us ks ms true 0)/\F=sF [1,3,4,14,15] fz [(10,.i t),(16,.i k)]/\h=gz/\m=ks.length-k) _ _ _ ⟨0,(-1),ob,ob,(Z6r hk (-1)),rfl,rfl,rfl⟩ (wk [0] (fr (ZT fl))) ?_))))))
 rintro m F h ⟨k,t,ZX,Z9,Zz,rfl,rfl,rfl⟩
 refine Zf (aq (Xf ((k:Int)<(ks.length:Int)) (fun Z5=>?_) (fun Z5=>?_)))
 ·refine ak (aq (ab 1 (ZM 1 ?_)))
  obtain ⟨x1,Z2⟩:=Zv ks k om
  have CJ:=M3 Z2
  have hbr:=DJ hr Z2
  refine Zg (Zq none (k:Int) 2 (TA Z2)) (Z1 1 (iA [nl,.i 0] fun b2=>Z1 1 (Y0 0 b2 (Vz x1) (ie (aD 11 (Y7 7 11 [0,1,2,3] [1] ?_))))))
  obtain ⟨x2,Zt⟩:=Zv ms k om
  have hxl:=hm3 x2 (YA Zt)
  have hxn:=hmn x2 (YA Zt)
  refine dx 4 (Zq none (k:Int) 1 (AO Zt)) (Y7 4 6 [5,8] [0] (ZF 6 (dL 6 [0,1] [b2,b1] (Ub [us,x2]) 2 1 fun v1=>UN 3 3 [] [(27,Ak [us,x2])] (ZF 7 (dc 7 [] [0,1] [b2,b1] (Zay [us,x2] (hf:=(by simp only [Do,Yz];omega))) ?_)))))
  rintro _ _ ⟨v2,rfl,rfl⟩
  refine UN 2 2 [] [(28,Ze ([us,x2].flatten))] (ZF 9 (XY 9 [] [] [] (ih x1 ([us,x2].flatten) ob (by simp only [Do,Yz];omega) ob (by rw [Do];exact CU hnn hxn)) (Zm 0 1 [10] (de (Yq (W7 [1,3,4,13,14,15,16] [(41,.b ((decide ((Ys n ([us,x2].flatten) x1)<0))||((decide ((k:Int)>0))&&((Ys n ([us,x2].flatten) x1) != t))))] (fun gz=>gz) ?_ ?_))))))
  ·refine Z1 3 (ib (b:=(decide ((Ys n ([us,x2].flatten) x1)<0))) 33 (fun Zb=>?_) (fun Zb=>?_))
   ·exact Z0 (Y1 4 (Zp true Zb fl))
   refine Z1 3 (ib (b:=(decide ((k:Int)>0))) 36 (fun ZD=>?_) (fun ZD=>?_))
   ·exact Z0 (Y1 4 (Zp ((Ys n ([us,x2].flatten) x1) != t) (And.intro Zb ZD) fl))
   exact Z0 (Y1 4 (Zp false (And.intro Zb ZD) fl))
  refine ac ((decide ((Ys n ([us,x2].flatten) x1)<0))||((decide ((k:Int)>0))&&((Ys n ([us,x2].flatten) x1) != t))) (p:=((Ys n ([us,x2].flatten) x1)<0)∨(((k:Int)>0)/\((Ys n ([us,x2].flatten) x1)≠t))) (Yg dq (Yy dq ZO)) (fun Zd=>?_) (fun Zd=>?_)
  ·refine Zf ?_
   have hK:XL n us ks ms true 0=-1:=by rw [<-Zz];rw [Do] at Zd;exact O8 Z2 Zt Zd
   exact ZG (r2 [] [.i (-1),.b false] ⟨rfl,rfl⟩ (Zk.tup (.cons (li (by rw [hK])) (.cons (lb (by rw [hK];rfl)) .nil))))
  exact ak (Qj (az (ZK k (Z0 (ZJ ⟨k+1,Ys n ([us,x2].flatten) x1,ob,(by intro _;omega),(by rw [Do] at Zd ⊢;rw [<-Zz];exact (Ob Z2 Zt Zd).symm),rfl,rfl,rfl⟩ (wk [3] (fr (ZL k fl))))))))
 refine ax 0 (Zf ?_)
 have hK:XL n us ks ms true 0=t:=by rw [<-Zz];exact O9 om
 exact ZG (r2 [] [.i t,.b true] ⟨rfl,rfl⟩ (Zk.tup (.cons (li (by rw [hK])) (.cons (lb (by rw [hK];exact (decide_eq_true (Z9 om)).symm)) .nil))))
theorem NN (n:Zl) (us:LI) (s:Z8) (hn:YY n:=by exact ob) (hty:Qx n:=by exact ob) (hnn:∀t∈us,0<=t) (hb:us.length+4*s.sz<=1000000000:=by exact ob) (hr:s.rng:=by exact ob) (ih:∀(b:Zh) (us:LI),(b.sz<s.sz)->(us.length+4*b.sz<=1000000000)->(b.rng)->(∀t∈us,0<=t)->Za 154 [.agg [ZI n.decls,Yo n],Ze us,YC b] [] (ZP (.i (Ys n us b)))):Za 208 [.agg [ZI n.decls,Yo n],Ze us,XO s] [] (fun r h=>∃(t:Int),r=.tup [.i t,.b (decide (0<=ZQ n us s))]/\h=[]/\(¬YU s.op=true->0<=ZQ n us s->t=ZQ n us s)):=by
 have Ws:=hn.decls
 have hkz:=Ql s
 have haz:=A1 s
 have hse:=s.sz_eq
 rw [s.rng_eq] at hr
 obtain ⟨hnum,hkr⟩:=hr
 refine Zx 233 Tryz.func208 (ar (iA [ZI n.decls,Yo n] fun b1=>iA (WO s) fun b2=>Z0 (ZB 2 [0] (iw (Yk s.args) (iM 0 s.args.length fun v1=>?_)))))
 refine Z0 (Ym 2 [1] (iw (Yk s.args) (Z0 (ab 0 (ZR (fun fz gz m F h=>∃(k:Nat) (ts:LI) (v:Value),(k<=s.args.length)/\(ts.length=k)/\(XQ us (s.args.take k)=some ts)/\F=sF [1,3,5,20,21] fz [(8,ZV ts v),(22,.i k)]/\h=[Zy gz 1,Zy gz 2,.tail v 1]/\m=s.args.length-k) _ _ _ ⟨0,[],v1,ob,ob,ob,rfl,rfl,rfl⟩ (wk [1,1,0] (fr (ZT fl))) ?_)))))
 rintro m F h ⟨k,ts,v,ZX,Z9,Zz,rfl,rfl,rfl⟩
 refine Zf (aq (Xf ((k:Int)<(s.args.length:Int)) (fun Z5=>?_) (fun Z5=>?_)))
 ·refine ak (aq (ab 1 (ar ?_)))
  obtain ⟨x1,Z2⟩:=Zv s.args k om
  refine Zg (Zq none (k:Int) 1 (Yc Z2)) (Z0 (Yq (W7 [1,3,5,8,10,20,21,22] [(33,.b ((decide (x1<0))||(decide (x1>=(us.length:Int)))))] (fun gz=>gz) ?_ ?_)))
  ·refine Z1 3 (ib (b:=(decide (x1<0))) 28 (fun Zb=>?_) (fun Zb=>?_))
   ·have Ya:x1<0:=(dq).1 Zb
    exact Z0 (Y1 3 (Zp true Zb fl))
   have YT:¬(x1<0):=ZZ dq Zb
   exact Z1 2 (iw (Yk us) (Z0 (Y1 3 (Zp (decide (x1>=(us.length:Int))) Zb fl))))
  refine ac ((decide (x1<0))||(decide (x1>=(us.length:Int)))) (p:=(x1<0)∨(x1>=(us.length:Int))) (Yg dq dq) (fun Zd=>?_) (fun Zd=>?_)
  ·refine Zf ?_
   have hS:ZQ n us s=-1:=Zct (LJ Z2 (QD om))
   exact ZG (r2 [] [.i (-1),.b false] ⟨(-1),rfl,rfl,(by intro _ h;rw [hS] at h;omega)⟩ (Zk.tup (.cons (lr _) (.cons (lb (by rw [hS];rfl)) .nil))))
  refine ak (az (Z1 3 ?_))
  obtain ⟨x2,Zt⟩:=Zv us x1.toNat om
  exact Zg (Zq none x1 1 (Yc Zt)) (Z1 1 (iL (Zi [x2]) 1 1 fun v2=>XX 0 [(39,Ze [x2])] (ip 3 (Zi (ts++[x2])) (Zi ts) (Zi [x2]) v none 1 (Wq _) (Wq _) (TY _) (by simp<;>omega) (by simp [TX,Zi]) fun v3=>Z0 (az (ZK k (Z0 (ZJ ⟨k+1,(ts++[x2]),v3,ob,ob,(SH Zz Z2 (by rw [Tx om Zt])),rfl,rfl,rfl⟩ (wk [2,2,0] (fr (ZL k fl))))))))))
 refine ax 0 (Yq (W7 [1,3,5,8] [(70,.b ((s.into != 0)&&((s.op != 6)||((decide (s.into<1))||((decide (s.into>(us.length:Int)))||((gI us (s.into-1))==0))))))] (fun gz=>gz) ?_ ?_))
 ·refine Y3 4 [0] (ib (b:=(s.into != 0)) 45 (fun ZD=>?_) (fun ZD=>?_))
  ·have Xy:s.into≠0:=(ZO).1 ZD
   refine Y3 4 [0] (ib (b:=(s.op != 6)) 49 (fun Yn=>?_) (fun Yn=>?_))
   ·have XE:s.op≠6:=(ZO).1 Yn
    exact Z0 (Y1 3 (Zp true (And.intro ZD Yn) fl))
   have VO:¬(s.op≠6):=ZZ ZO Yn
   refine Y3 5 [0] (ib (b:=(decide (s.into<1))) 54 (fun Xd=>?_) (fun Xd=>?_))
   ·have Up:s.into<1:=(dq).1 Xd
    exact Z0 (Y1 3 (Zp true (And.intro ZD (And.intro Yn Xd)) fl))
   have UV:¬(s.into<1):=ZZ dq Xd
   refine Y3 3 [0] (iw (Yk us) (Z1 3 (ib (b:=(decide (s.into>(us.length:Int)))) 61 (fun WC=>?_) (fun WC=>?_))))
   ·have Td:s.into>(us.length:Int):=(dq).1 WC
    exact Z0 (Y1 3 (Zp true (And.intro ZD (And.intro Yn (And.intro Xd WC))) fl))
   have Qk:¬(s.into>(us.length:Int)):=ZZ dq WC
   exact Y3 3 [0] (ia ((s.into-1)) ((s.into)-(1)) (Zg (JK (es:=Zi us) (hv:=none) (j:=(s.into-1)) (sz:=1) (y:=.i (gI us (s.into-1))) kr om (Yc (Nn om)) rfl) (Z0 (Y1 3 (Zp ((gI us (s.into-1))==0) (And.intro ZD (And.intro Yn (And.intro Xd WC))) fl)))))
  have K8:¬(s.into≠0):=ZZ ZO ZD
  exact Z0 (Y1 3 (Zp false ZD fl))
 refine ac ((s.into != 0)&&((s.op != 6)||((decide (s.into<1))||((decide (s.into>(us.length:Int)))||((gI us (s.into-1))==0))))) (p:=(s.into≠0)/\((s.op≠6)∨((s.into<1)∨((s.into>(us.length:Int))∨((gI us (s.into-1))=0))))) (Yy ZO (Yg ZO (Yg dq (Yg dq Zr)))) (fun Zw=>?_) (fun Zw=>?_)
 ·refine Zf ?_
  have hS:ZQ n us s=-1:=Zcu (JA.1 Zw)
  exact ZG (r2 [] [.i (-1),.b false] ⟨(-1),rfl,rfl,(by intro _ h;rw [hS] at h;omega)⟩ (Zk.tup (.cons (lr _) (.cons (lb (by rw [hS];rfl)) .nil))))
 refine ak (aq (ab 2 (ZB 2 [0] (ZC [] (Ep s.op) (Yt (YU s.op) Iff.rfl (fun Yd=>?_) (fun Yd=>?_))))))
 ·refine ZM 1 (iw (Yk ts) (Xz 9 [3,5,8] [(83,.b (((ts.length:Int)==1)&&((gI ts 0) != 0)))] (fun gz=>gz) ?_ (fun hj1=>?_)))
  ·refine Xz 14 [3,5,8] [(88,.b ((((ts.length:Int)==1)&&((gI ts 0) != 0))&&(s.num==0)))] (fun gz=>gz) ?_ (fun hj2=>?_)
   ·refine Xz 20 [3,5,8] [(94,.b (((((ts.length:Int)==1)&&((gI ts 0) != 0))&&(s.num==0))&&((s.kids.length:Int)==0)))] (fun gz=>gz) ?_ (fun hj3=>?_)
    ·refine Z0 (Yq (W7 [3,8,11] [(105,.b ((((((ts.length:Int)==1)&&((gI ts 0) != 0))&&(s.num==0))&&((s.kids.length:Int)==0))&&((s.op==16)||(s.op==17))))] (fun gz=>gz) ?_ ?_))
     ·refine Z1 2 (ib (b:=(((((ts.length:Int)==1)&&((gI ts 0) != 0))&&(s.num==0))&&((s.kids.length:Int)==0))) 96 (fun V9=>?_) (fun V9=>?_))
      ·have Jw:((((ts.length:Int)=1)/\((gI ts 0)≠0))/\(s.num=0))/\((s.kids.length:Int)=0):=((Yy (Yy (Yy Zr ZO) Zr) Zr)).1 V9
       refine Y3 4 [0] (ib (b:=(s.op==16)) 100 (fun Vx=>?_) (fun Vx=>?_))
       ·have Ab:s.op=16:=(Zr).1 Vx
        exact Z0 (Y1 3 (Zp true (And.intro V9 Vx) fl))
       have Ek:¬(s.op=16):=ZZ Zr Vx
       exact Vq [0] (Y1 3 (Zp (s.op==17) (And.intro V9 Vx) fl))
      have El:¬(((((ts.length:Int)=1)/\((gI ts 0)≠0))/\(s.num=0))/\((s.kids.length:Int)=0)):=ZZ (Yy (Yy (Yy Zr ZO) Zr) Zr) V9
      exact Z0 (Y1 3 (Zp false V9 fl))
     refine ac ((((((ts.length:Int)==1)&&((gI ts 0) != 0))&&(s.num==0))&&((s.kids.length:Int)==0))&&((s.op==16)||(s.op==17))) (p:=(((((ts.length:Int)=1)/\((gI ts 0)≠0))/\(s.num=0))/\((s.kids.length:Int)=0))/\((s.op=16)∨(s.op=17))) (Yy (Yy (Yy (Yy Zr ZO) Zr) Zr) (Yg Zr Zr)) (fun Xm=>?_) (fun Xm=>?_)
     ·refine aD 12 (Y7 9 12 [0,1,2] [1] (dx 3 (JK (es:=Zi ts) (hv:=some v) (j:=0) (sz:=1) (y:=.i (gI ts 0)) kr om (Yc (Ec om)) rfl) (Zm 7 8 [4] (Gr (fun fz gz F h=>F=sF [] fz [(13,.b (XK n.decls (gI ts 0)))]/\h=gz) ?_ ?_))))
      ·refine Gu 5 9 ?_ ?_
       ·exact XY 5 [] [] [] (Eo n.decls (gI ts 0)) (Zm 3 6 [6,7,8] (ZF 9 (dA 9 [] [] [.i 0,.i 0,nl] fun b3=>ZF 10 (Uw 10 0 [] [] b3 (Uc (Vn n.decls (gI ts 0))) (Zm 0 1 [11] (de (Xk ⟨rfl,rfl⟩ (wk [1,1,1] fl))))))))
       exact dA 9 [1] [b1] [.i 0,.i 0,nl] fun b4=>ZF 5 (XY 5 [] [] [] (Eo n.decls (gI ts 0)) (Zm 2 5 [6,7,8] (ZF 10 (Uw 10 0 [] [] b4 (Uc (Vn n.decls (gI ts 0))) (Zm 0 1 [11] (de (Xk ⟨rfl,rfl⟩ (wk [1,1,1] fl))))))))
      rintro F h ⟨rfl,rfl⟩
      refine Qj (Zf ?_)
      have hS0:=Ax (n:=n) hnn (A0 Zz om) (fun q=>Zw (JA.2 q))
      exact ZG (r2 [] [.i (-1),.b (!XK n.decls (gI ts 0))] ⟨(-1),rfl,rfl,(fun q=>absurd Yd q)⟩ (Zk.tup (.cons (lr _) (.cons (lb (Zc9 hS0 Yd Xm)) .nil))))
     refine ak (Zf ?_)
     have hS0:=Ax (n:=n) hnn (A0 Zz om) (fun q=>Zw (JA.2 q))
     exact ZG (r2 [] [.i (-1),.b (((((ts.length:Int)==1)&&((gI ts 0) != 0))&&(s.num==0))&&((s.kids.length:Int)==0))] ⟨(-1),rfl,rfl,(fun q=>absurd Yd q)⟩ (Zk.tup (.cons (lr _) (.cons (lb (Zca hS0 Yd Xm)) .nil))))
    refine Z1 1 (ib (b:=((((ts.length:Int)==1)&&((gI ts 0) != 0))&&(s.num==0))) 89 (fun Vi=>?_) (fun Vi=>?_))
    ·have BI:(((ts.length:Int)=1)/\((gI ts 0)≠0))/\(s.num=0):=((Yy (Yy Zr ZO) Zr)).1 Vi
     exact Y3 2 [0] (iw (Ua s.kids) (Z1 2 (Yb (Y1 3 (Zp ((s.kids.length:Int)==0) Vi fl)) hj3)))
    have BJ:¬((((ts.length:Int)=1)/\((gI ts 0)≠0))/\(s.num=0)):=ZZ (Yy (Yy Zr ZO) Zr) Vi
    exact Z1 5 (Yb (Y1 3 (Zp false Vi fl)) hj3)
   refine Z1 1 (ib (b:=(((ts.length:Int)==1)&&((gI ts 0) != 0))) 84 (fun Vj=>?_) (fun Vj=>?_))
   ·have Em:((ts.length:Int)=1)/\((gI ts 0)≠0):=((Yy Zr ZO)).1 Vj
    exact Y3 4 [0] (Yb (Y1 3 (Zp (s.num==0) Vj fl)) hj2)
   have En:¬(((ts.length:Int)=1)/\((gI ts 0)≠0)):=ZZ (Yy Zr ZO) Vj
   exact Z1 4 (Yb (Y1 3 (Zp false Vj fl)) hj2)
  refine Z1 2 (ib (b:=((ts.length:Int)==1)) 78 (fun KC=>?_) (fun KC=>?_))
  ·have Z4b:(ts.length:Int)=1:=(Zr).1 KC
   exact Z1 1 (Zg (JK (es:=Zi ts) (hv:=some v) (j:=0) (sz:=1) (y:=.i (gI ts 0)) kr om (Yc (Ec om)) rfl) (Z1 3 (Yb (Y1 3 (Zp ((gI ts 0) != 0) KC fl)) hj1)))
  have Z4c:¬((ts.length:Int)=1):=ZZ Zr KC
  exact Z1 5 (Yb (Y1 3 (Zp false KC fl)) hj1)
 refine Jt [0] (ac (s.op==7) Zr (fun Wc=>?_) (fun Wc=>?_))
 ·refine Y8 1 (iw (Yk ts) (Xz 9 [1,3,5] [(130,.b (((ts.length:Int) != 1)||((gI ts 0) != 0)))] (fun gz=>gz) ?_ (fun hj4=>?_)))
  ·refine Xz 14 [1,3,5] [(135,.b ((((ts.length:Int) != 1)||((gI ts 0) != 0))||(s.num != 0)))] (fun gz=>gz) ?_ (fun hj5=>?_)
   ·refine W7 [1,3,5] [(141,.b (((((ts.length:Int) != 1)||((gI ts 0) != 0))||(s.num != 0))||((s.kids.length:Int) != 2)))] (fun gz=>gz) ?_ ?_
    ·refine Z1 1 (ib (b:=((((ts.length:Int) != 1)||((gI ts 0) != 0))||(s.num != 0))) 136 (fun CE=>?_) (fun CE=>?_))
     ·have Zef:(((ts.length:Int)≠1)∨((gI ts 0)≠0))∨(s.num≠0):=((Yg (Yg ZO ZO) ZO)).1 CE
      exact Z0 (Y1 3 (Zp true CE fl))
     have Zeg:¬((((ts.length:Int)≠1)∨((gI ts 0)≠0))∨(s.num≠0)):=ZZ (Yg (Yg ZO ZO) ZO) CE
     exact Y3 2 [0] (iw (Ua s.kids) (Z0 (Y1 3 (Zp ((s.kids.length:Int) != 2) CE fl))))
    refine ac (((((ts.length:Int) != 1)||((gI ts 0) != 0))||(s.num != 0))||((s.kids.length:Int) != 2)) (p:=((((ts.length:Int)≠1)∨((gI ts 0)≠0))∨(s.num≠0))∨((s.kids.length:Int)≠2)) (Yg (Yg (Yg ZO ZO) ZO) ZO) (fun UU=>?_) (fun UU=>?_)
    ·refine Zf ?_
     have hS0:=Ax (n:=n) hnn (A0 Zz om) (fun q=>Zw (JA.2 q))
     have hS:=Zc5 hS0 Yd Wc UU
     exact ZG (r2 [] [.i (-1),.b false] ⟨(-1),rfl,rfl,(by intro _ h;rw [hS] at h;omega)⟩ (Zk.tup (.cons (lr _) (.cons (lb (by rw [hS];rfl)) .nil))))
    refine ak (aD 10 (Y7 6 10 [0,1,2,3] [1,0] (ZF 4 (dMN 4 [0,1] [b2,b1] 2 2 fun v4=>UN 5 5 [] [(146,Ak (List.replicate 2 []))] (ZF 5 (XY 5 [] [] [] (NM n us s.kids (List.replicate 2 []) (hnn:=hnn) (hm3:=(by intro m hm;first|(rw [C8 hm];simp;done)|(obtain ⟨c,_,rfl⟩:=Xb.1 hm;exact TU Ws c))) (hmn:=(by intro m hm f hf;first|(rw [C8 hm] at hf;simp at hf;done)|(obtain ⟨c,_,rfl⟩:=Xb.1 hm;exact hty.fields c f hf))) (ih:=(fun b us2 h1 h2 h3 h4=>ih b us2 om h2 h3 h4))) (Zm 0 4 [6,7,8,9] (de ?_))))))))
    have hS0:=Ax (n:=n) hnn (A0 Zz om) (fun q=>Zw (JA.2 q))
    have hS:=Zc6 hS0 Yd Wc UU
    exact ZG (r2 [] [.i (XL n us s.kids (List.replicate 2 []) true 0),.b (decide (0<=XL n us s.kids (List.replicate 2 []) true 0))] ⟨XL n us s.kids (List.replicate 2 []) true 0,rfl,rfl,(fun _ _=>hS.symm)⟩ (Zk.tup (.cons (lr _) (.cons (lb (by rw [hS])) .nil))))
   refine Z1 1 (ib (b:=(((ts.length:Int) != 1)||((gI ts 0) != 0))) 131 (fun CF=>?_) (fun CF=>?_))
   ·have Zeh:((ts.length:Int)≠1)∨((gI ts 0)≠0):=((Yg ZO ZO)).1 CF
    exact Z1 4 (Yb (Y1 3 (Zp true CF fl)) hj5)
   have Zei:¬(((ts.length:Int)≠1)∨((gI ts 0)≠0)):=ZZ (Yg ZO ZO) CF
   exact Y3 4 [0] (Yb (Y1 3 (Zp (s.num != 0) CF fl)) hj5)
  refine Z1 2 (ib (b:=((ts.length:Int) != 1)) 125 (fun CG=>?_) (fun CG=>?_))
  ·have Zej:(ts.length:Int)≠1:=(ZO).1 CG
   exact Z1 5 (Yb (Y1 3 (Zp true CG fl)) hj4)
  have Zek:¬((ts.length:Int)≠1):=ZZ ZO CG
  exact Z1 1 (Zg (JK (es:=Zi ts) (hv:=some v) (j:=0) (sz:=1) (y:=.i (gI ts 0)) kr om (Yc (Ec om)) rfl) (Z1 3 (Yb (Y1 3 (Zp ((gI ts 0) != 0) CG fl)) hj4)))
 refine Jt [0] (ac (s.op==8) Zr (fun Vy=>?_) (fun Vy=>?_))
 ·refine ZB 3 [1,0] (ZC [] (NL _ s.num) (Z0 (aq (aD 24 (Zm 23 24 [0] (dw 1 (Yk ts) (Jm [1,3,5,14] [(181,.b (((ts.length:Int) != 1)||(((gI ts 0) != s.num)||((((((YG n.decls s.num).map (Y2 n.decls)).length:Nat):Int)==0)||((s.kids.length:Int) != ((((YG n.decls s.num).map (Y2 n.decls)).length:Nat):Int))))))] (fun gz=>gz) ?_ ?_)))))))
  ·refine Zm 20 22 [2,3] (db (b:=((ts.length:Int) != 1)) 161 (fun AQ=>?_) (fun AQ=>?_))
   ·have Zel:(ts.length:Int)≠1:=(ZO).1 AQ
    exact Zm 0 20 [4,5,6,7,8,9,10,11,12,13,14,15,16,17,18,19,20,21,22,23] (de (Y1 3 (Zp true AQ fl)))
   have Zem:¬((ts.length:Int)≠1):=ZZ ZO AQ
   refine Zm 19 20 [4] (dx 5 (JK (es:=Zi ts) (hv:=some v) (j:=0) (sz:=1) (y:=.i (gI ts 0)) kr om (Yc (Ec om)) rfl) (Y7 12 18 [6,7,8,9,10,11] [0] (db (b:=((gI ts 0) != s.num)) 169 (fun BF=>?_) (fun BF=>?_))))
   ·have Zen:(gI ts 0)≠s.num:=(ZO).1 BF
    exact Zm 0 12 [12,13,14,15,16,17,18,19,20,21,22,23] (de (Y1 3 (Zp true (And.intro AQ BF) fl)))
   have Zeo:¬((gI ts 0)≠s.num):=ZZ ZO BF
   refine Zm 11 12 [12] (dn 13 (.i ((((YG n.decls s.num).map (Y2 n.decls)).length:Nat):Int)) (.i (((Ub ((YG n.decls s.num).map (Y2 n.decls))).length:Nat):Int)) (li (by rw [E7])) (Zm 7 10 [14,15,16] (db (b:=(((((YG n.decls s.num).map (Y2 n.decls)).length:Nat):Int)==0)) 174 (fun CH=>?_) (fun CH=>?_))))
   ·have Zep:((((YG n.decls s.num).map (Y2 n.decls)).length:Nat):Int)=0:=(Zr).1 CH
    exact Zm 0 7 [17,18,19,20,21,22,23] (de (Y1 3 (Zp true (And.intro AQ (And.intro BF CH)) fl)))
   have Zeq:¬(((((YG n.decls s.num).map (Y2 n.decls)).length:Nat):Int)=0):=ZZ Zr CH
   exact Y7 5 7 [17,18] [0] (dw 19 (Ua s.kids) (Zm 3 4 [20] (dn 21 (.i ((((YG n.decls s.num).map (Y2 n.decls)).length:Nat):Int)) (.i (((Ub ((YG n.decls s.num).map (Y2 n.decls))).length:Nat):Int)) (li (by rw [E7])) (Zm 0 2 [22,23] (de (Y1 3 (Zp ((s.kids.length:Int) != ((((YG n.decls s.num).map (Y2 n.decls)).length:Nat):Int)) (And.intro AQ (And.intro BF CH)) fl)))))))
  refine ac (((ts.length:Int) != 1)||(((gI ts 0) != s.num)||((((((YG n.decls s.num).map (Y2 n.decls)).length:Nat):Int)==0)||((s.kids.length:Int) != ((((YG n.decls s.num).map (Y2 n.decls)).length:Nat):Int))))) (p:=((ts.length:Int)≠1)∨(((gI ts 0)≠s.num)∨((((((YG n.decls s.num).map (Y2 n.decls)).length:Nat):Int)=0)∨((s.kids.length:Int)≠((((YG n.decls s.num).map (Y2 n.decls)).length:Nat):Int))))) (Yg ZO (Yg ZO (Yg Zr ZO))) (fun T3=>?_) (fun T3=>?_)
  ·refine Zf ?_
   have hS0:=Ax (n:=n) hnn (A0 Zz om) (fun q=>Zw (JA.2 q))
   have hS:=Zc7 hS0 Yd Wc Vy T3
   exact ZG (r2 [] [.i (-1),.b false] ⟨(-1),rfl,rfl,(by intro _ h;rw [hS] at h;omega)⟩ (Zk.tup (.cons (lr _) (.cons (lb (by rw [hS];rfl)) .nil))))
  refine ak (ZB 5 [1,0] (ZC [] (NM n us s.kids ((YG n.decls s.num).map (Y2 n.decls)) (hnn:=hnn) (hm3:=(by intro m hm;first|(rw [C8 hm];simp;done)|(obtain ⟨c,_,rfl⟩:=Xb.1 hm;exact TU Ws c))) (hmn:=(by intro m hm f hf;first|(rw [C8 hm] at hf;simp at hf;done)|(obtain ⟨c,_,rfl⟩:=Xb.1 hm;exact hty.fields c f hf))) (ih:=(fun b us2 h1 h2 h3 h4=>ih b us2 om h2 h3 h4))) (Z0 ?_)))
  have hS0:=Ax (n:=n) hnn (A0 Zz om) (fun q=>Zw (JA.2 q))
  have hS:=Zc8 hS0 Yd Wc Vy T3
  exact ZG (r2 [] [.i (XL n us s.kids ((YG n.decls s.num).map (Y2 n.decls)) true 0),.b (decide (0<=XL n us s.kids ((YG n.decls s.num).map (Y2 n.decls)) true 0))] ⟨XL n us s.kids ((YG n.decls s.num).map (Y2 n.decls)) true 0,rfl,rfl,(fun _ _=>hS.symm)⟩ (Zk.tup (.cons (lr _) (.cons (lb (by rw [hS])) .nil))))
 refine ZB 2 [0] (iw (Ua s.kids) (Xz 33 [3,5,8] [(223,.b ((decide ((s.kids.length:Int)>0))||((s.op==10)&&((decide (s.num>=0))&&((decide (s.num<(((n.routines.map Xn).length:Nat):Int)))&&(decide (((((U4 n s.num).lnt).length:Nat):Int)>0)))))))] (fun gz=>gz) ?_ (fun hj6=>?_)))
 ·refine Yt ((decide ((s.kids.length:Int)>0))||((s.op==10)&&((decide (s.num>=0))&&((decide (s.num<(((n.routines.map Xn).length:Nat):Int)))&&(decide (((((U4 n s.num).lnt).length:Nat):Int)>0)))))) (p:=((s.kids.length:Int)>0)∨((s.op=10)/\((s.num>=0)/\((s.num<(((n.routines.map Xn).length:Nat):Int))/\(((((U4 n s.num).lnt).length:Nat):Int)>0))))) (Yg dq (Yy Zr (Yy dq (Yy dq dq)))) (fun To=>?_) (fun To=>?_)
  ·refine Zf ?_
   have hS0:=Ax (n:=n) hnn (A0 Zz om) (fun q=>Zw (JA.2 q))
   have hS:=stB hS0 Yd Wc Vy To
   exact ZG (r2 [] [.i (-1),.b false] ⟨(-1),rfl,rfl,(by intro _ h;rw [hS] at h;omega)⟩ (Zk.tup (.cons (lr _) (.cons (lb (by rw [hS];rfl)) .nil))))
  refine ak (ar (Ie 6 [(229,Ze ts)] [1,0,0] (ic [] (Z5i _ s.op s.num ts) ?_)))
  rintro _ _ ⟨t1,rfl,rfl,Z4d⟩
  refine Z0 ?_
  have hS0:=Ax (n:=n) hnn (A0 Zz om) (fun q=>Zw (JA.2 q))
  have hS:=stS hS0 Yd Wc Vy To
  exact ZG (r2 [] [.i t1,.b ((Xa n s.op s.num ts).isSome)] ⟨t1,rfl,rfl,(Zcc hS Z4d)⟩ (Zk.tup (.cons (lr _) (.cons (lb (Zcb hty hS)) .nil))))
 refine Z1 2 (ib (b:=(decide ((s.kids.length:Int)>0))) 195 (fun A9=>?_) (fun A9=>?_))
 ·have Zer:(s.kids.length:Int)>0:=(dq).1 A9
  exact Z1 28 (Yb (Y1 3 (Zp true A9 fl)) hj6)
 have Zes:¬((s.kids.length:Int)>0):=ZZ dq A9
 refine Y3 4 [0] (ib (b:=(s.op==10)) 199 (fun AR=>?_) (fun AR=>?_))
 ·have Zet:s.op=10:=(Zr).1 AR
  refine Y3 5 [0] (ib (b:=(decide (s.num>=0))) 204 (fun BG=>?_) (fun BG=>?_))
  ·have Zeu:s.num>=0:=(dq).1 BG
   refine Y3 4 [0,1] (io (.i (((n.routines.map Xn).length:Nat):Int)) (.i (((UQ (n.routines.map Xn)).length:Nat):Int)) (li (by rw [Cv])) (Z1 3 (ib (b:=(decide (s.num<(((n.routines.map Xn).length:Nat):Int)))) 212 (fun CI=>?_) (fun CI=>?_))))
   ·have Zev:s.num<(((n.routines.map Xn).length:Nat):Int):=(dq).1 CI
    exact Y3 4 [1,0] (Zg (JK (es:=UQ (n.routines.map Xn)) (hv:=none) (j:=s.num) (sz:=3) (y:=DC (U4 n s.num)) kr om (AP (PP om)) rfl) (Z1 2 (io (.i ((((U4 n s.num).lnt).length:Nat):Int)) (.i (((Zi ((U4 n s.num).lnt)).length:Nat):Int)) (li (by rw [Yk])) (Z1 3 (Yb (Y1 3 (Zp (decide (((((U4 n s.num).lnt).length:Nat):Int)>0)) (And.intro A9 (And.intro AR (And.intro BG CI))) fl)) hj6)))))
   have Zew:¬(s.num<(((n.routines.map Xn).length:Nat):Int)):=ZZ dq CI
   exact Z1 11 (Yb (Y1 3 (Zp false (And.intro A9 (And.intro AR (And.intro BG CI))) fl)) hj6)
  have Zex:¬(s.num>=0):=ZZ dq BG
  exact Z1 19 (Yb (Y1 3 (Zp false (And.intro A9 (And.intro AR BG)) fl)) hj6)
 have Zey:¬(s.op=10):=ZZ Zr AR
 exact Z1 24 (Yb (Y1 3 (Zp false (And.intro A9 AR) fl)) hj6)
theorem Z52 (n:Zl) (us:LI) (b:Zh) (hn:YY n) (hnn:∀t∈us,0<=t) (hb:us.length+4*b.sz<=1000000000) (hr:b.rng) (ih:∀(s:Z8) (us:LI),(s.sz<b.sz)->(us.length+4*s.sz<=1000000000)->(s.rng)->(∀t∈us,0<=t)->Za 208 [.agg [ZI n.decls,Yo n],Ze us,XO s] [] (fun r h=>∃(t:Int),r=.tup [.i t,.b (decide (0<=ZQ n us s))]/\h=[]/\(¬YU s.op=true->0<=ZQ n us s->t=ZQ n us s))):Za 154 [.agg [ZI n.decls,Yo n],Ze us,YC b] [] (ZP (.i (Ys n us b))):=by
 have hbz:=JL b
 have hbe:=DI n us b
 rw [b.rng_eq] at hr
 refine Zx 54 Tryz.func154 (ar (iA [ZI n.decls,Yo n] fun b1=>iA (Vz b) fun b2=>Z0 (ZM 1 (ic [] (Co us) ?_))))
 rintro _ _ ⟨v1,rfl,rfl⟩
 refine Z0 (Ym 2 [1] (iw (T2 b.steps) (Z0 (ab 0 (ZR (fun fz gz m F h=>∃(k:Nat) (vs:LI) (v:Value),(k<=b.steps.length)/\(vs.length<=us.length+k)/\(∀t∈vs,0<=t)/\(Xr n (b.steps.drop k) vs=Xr n b.steps us)/\F=sF [3,5,15,16] fz [(7,ZV vs v),(17,.i k)]/\h=[Zy gz 1,Zy gz 2,.tail v 1]/\m=b.steps.length-k) _ _ _ ⟨0,us,v1,ob,ob,ob,ob,rfl,rfl,rfl⟩ (wk [1,1,0] (fr (ZT fl))) ?_)))))
 rintro m F h ⟨k,vs,v,ZX,Z9,Zz,Y5,rfl,rfl,rfl⟩
 refine Zf (aq (Xf ((k:Int)<(b.steps.length:Int)) (fun Z5=>?_) (fun Z5=>?_)))
 ·refine ak (aq (ab 1 (ar ?_)))
  obtain ⟨x1,Z2⟩:=Zv b.steps k om
  have hss:=Ff Z2
  have hsr:=IH hr Z2
  refine Zg (Zq none (k:Int) 5 (U2 Z2)) (Z1 1 (iA [.i 0,.i 0,.i 0,nl,nl] fun b3=>Y0 0 b3 (WO x1) (ie (ar (Ie 3 [(23,Ze vs)] [2,0] (ic [] (ih x1 vs ob ob ob ob) ?_))))))
  rintro _ _ ⟨t1,rfl,rfl,Ya⟩
  refine Z0 (Yq (Yt (!decide (0<=ZQ n vs x1)) (p:=¬(decide (0<=ZQ n vs x1)=true)) (Yi Iff.rfl) (fun Zd=>?_) (fun Zd=>?_)))
  ·exact ar (Z7 (Zo (.i (-1)) (li (by rw [hbe,<-Y5,Zcw Z2 (fun q=>Zd (decide_eq_true q)) rfl]))))
  refine ak (ZB 2 [0] (ZC [] (Ep x1.op) (Z0 (DX (fun fz gz F h=>∃(w:Value),F=sF [3,5,15,16,17] fz [(7,ZV (if YU x1.op=true then vs else vs++[t1]) w)]/\h=[Zy gz 1,Zy gz 2,.tail w 1]) (fun _ _=>rfl) ?_ ?_))))
  ·refine ac (!YU x1.op) (p:=¬(YU x1.op=true)) (Yi Iff.rfl) (fun Zw=>?_) (fun Zw=>?_)
   ·exact az (Z1 2 (iL (Zi [t1]) 1 1 fun v2=>XX 0 [(36,Ze [t1])] (ip 4 (Zi (vs++[t1])) (Zi vs) (Zi [t1]) v none 1 (Wq _) (Wq _) (TY _) (by simp<;>omega) (by simp [TX,Zi]) fun v3=>Z0 (Xk ⟨v3,rfl,rfl⟩ (wk [3,3,0] (fc (x:=ZV (vs++[t1]) v3) (Zk.slh _ (Yp Zi (by first|rfl|(rw [Z6 Zw])|(rw [Z4 Zw])|(simp [Zw];done)|(rw [Wk];simp [Zw];done)|omega))) fl))))))
   exact ak (Xk ⟨v,rfl,rfl⟩ (wk [1,1,1] (fc (x:=ZV vs v) (Zk.slh _ (Yp Zi (by first|rfl|(rw [Z6 Zw])|(rw [Z4 Zw])|(simp [Zw];done)|(rw [Wk];simp [Zw];done)|omega))) fl)))
  rintro F h ⟨w,rfl,rfl⟩
  refine az (ZK k (Z0 ?_))
  have h0:0<=ZQ n vs x1:=of_decide_eq_true (Wr.1 Zd)
  exact ZJ ⟨k+1,(if YU x1.op=true then vs else vs++[t1]),w,ob,(by split<;>(try simp)<;>omega),(Z87 Zz (fun q=>by rw [Ya q h0];exact h0)),(Zcv Z2 h0 Ya Y5),rfl,rfl,rfl⟩ (Y1 3 (fr (ZL k fl)))
 refine ax 0 (Yq (W7 [5,7] [(48,.b ((decide (b.result<0))||(decide (b.result>=(vs.length:Int)))))] (fun gz=>gz) ?_ ?_))
 ·refine Y3 4 [0] (ib (b:=(decide (b.result<0))) 42 (fun Zb=>?_) (fun Zb=>?_))
  ·exact Z0 (Y1 3 (Zp true Zb fl))
  exact Y3 3 [0] (iw (Yk vs) (Z0 (Y1 3 (Zp (decide (b.result>=(vs.length:Int))) Zb fl))))
 refine ac ((decide (b.result<0))||(decide (b.result>=(vs.length:Int)))) (p:=(b.result<0)∨(b.result>=(vs.length:Int))) (Yg dq dq) (fun Yd=>?_) (fun Yd=>?_)
 ·exact ar (Z7 (Zo (.i (-1)) (li (by rw [hbe,<-Y5,YR om];show _=(YJ vs b.result).getD (-1);rw [QD om];rfl))))
 refine ak (ZB 3 [0] ?_)
 obtain ⟨x2,Zt⟩:=Zv vs b.result.toNat om
 exact Zg (Zq (some v) b.result 1 (Yc Zt)) (Z7 (Zo (.i x2) (li (by rw [hbe,<-Y5,YR om];show _=(YJ vs b.result).getD (-1);rw [Tx om Zt];rfl))))
theorem Z51 (n:Zl) (hn:YY n) (hty:Qx n) (m:Nat):∀(b:Zh) (us:LI),(b.sz<=m)->(us.length+4*b.sz<=1000000000)->(b.rng)->(∀t∈us,0<=t)->Za 154 [.agg [ZI n.decls,Yo n],Ze us,YC b] [] (ZP (.i (Ys n us b))):=by
 induction m with
 | zero=>intro b us h;have:=b.sz_pos;omega
 | succ m ih=>intro b us h1 h2 h3 h4;exact Z52 n us b hn h4 h2 h3 fun s us2 k1 k2 k3 k4=>NN n us2 s hn hty k4 k2 k3 fun b2 us3 q1 q2 q3 q4=>ih b2 us3 om q2 q3 q4
theorem NE (n:Zl) (us:LI) (b:Zh) (hn:YY n) (hty:Qx n) (hnn:∀t∈us,0<=t) (hb:us.length+4*b.sz<=1000000000) (hr:b.rng):Za 154 [.agg [ZI n.decls,Yo n],Ze us,YC b] [] (ZP (.i (Ys n us b))):=
 Z51 n hn hty b.sz b us (YX _) hb hr hnn
theorem NC (n:Zl) (hz:WI n:=by exact ob) (hr:∀r∈n.routines,r.body.rng):Za 92 [X3 n] [] (ZP (.b (XT n))):=by
 have hzl:=hz.len
 refine Zx 37 Tryz.func92 (ar (iA (W8 n) fun b1=>Z0 (ZB 1 [0] (ic [] (NK n) ?_))))
 rintro _ _ (⟨rfl,rfl,Ya⟩|⟨rfl,rfl,YT⟩)
 ·refine Z1 3 (iA [nl,nl] fun b2=>Y0 0 b2 [ZI n.decls,Yo n] (Z0 (Yq (Yt (!V5 n) (p:=¬(V5 n=true)) (Yi Iff.rfl) (fun Z5=>?_) (fun Z5=>?_)))))
  ·exact ar (Z7 (Zo (.b false) (lb (by rw [XT,Ja.2 Z5];rfl))))
  have hsg:V5 n=true:=by simpa using Z5
  have hok:=HP hz hsg
  have hty:=OO hsg
  refine ak (Ym 2 [1] (iw (UD n.routines) (Z0 (ab 0 (ZR (fun fz gz m F h=>∃(k:Nat),(k<=n.routines.length)/\(Tu n (n.routines.drop k)=Tu n n.routines)/\F=sF [3,15,16] fz [(17,.i k)]/\h=[Zy gz 0]/\m=n.routines.length-k) _ _ _ ⟨0,ob,ob,rfl,rfl,rfl⟩ (wk [0] (ZT fl)) ?_)))))
  rintro m F h ⟨k,ZX,Z9,rfl,rfl,rfl⟩
  refine Zf (aq (Xf ((k:Int)<(n.routines.length:Int)) (fun Zd=>?_) (fun Zd=>?_)))
  ·refine ak (aq (ab 1 (ar ?_)))
   obtain ⟨x1,Z2⟩:=Zv n.routines k om
   have hrm:=YA Z2
   have CJ:=hz.body _ hrm
   have hps:=hok.params_at Z2
   refine Zg (Zq none (k:Int) 5 (Um Z2)) (Z1 1 (iA [nl,nl,.i 0,nl,.i 0] fun b3=>Y0 0 b3 (TH x1) (ie (aD 15 (Y7 13 15 [0,1] [0] (ZF 2 (XY 2 [] [] [] (Z4w x1.body) (Jm [3,15,16,17] [(35,.b ((decide ((UG x1.body)<0))||((Ys n x1.params x1.body) != x1.result)))] (fun gz=>gz) ?_ ?_))))))))
   ·refine Zm 10 12 [3,4] (db (b:=(decide ((UG x1.body)<0))) 25 (fun Zb=>?_) (fun Zb=>?_))
    ·have Xy:(UG x1.body)<0:=(dq).1 Zb
     exact Zm 0 10 [5,6,7,8,9,10,11,12,13,14] (de (wk [0,0] (Zp true Zb fl)))
    have XE:¬((UG x1.body)<0):=ZZ dq Zb
    exact Y7 3 10 [5,6,7,8,9,11,12] [1,0,0,0] (ZF 10 (XY 10 [] [0] [b3] (NE n x1.params x1.body ob hty (hty.params _ hrm) ob (hr _ hrm)) (Zm 0 2 [13,14] (de (wk [0,0] (Zp ((Ys n x1.params x1.body) != x1.result) Zb fl))))))
   refine ac ((decide ((UG x1.body)<0))||((Ys n x1.params x1.body) != x1.result)) (p:=((UG x1.body)<0)∨((Ys n x1.params x1.body)≠x1.result)) (Yg dq ZO) (fun Zw=>?_) (fun Zw=>?_)
   ·refine Zf ?_
    rw [ZH Z2] at Z9
    exact ZG (Zo (.b false) (lb (by clear Z2;first|rfl|omega|grind [Tu,XT])))
   refine ak (az (ZK k (Z0 ?_)))
   have hdr:=ZH Z2
   exact ZJ ⟨k+1,ob,(by rw [hdr] at Z9;clear hdr Z2;grind [Tu]),rfl,rfl,rfl⟩ (wk [1] (ZL k fl))
  refine ax 0 (Zf ?_)
  try rw [YR (xs:=n.routines) (k:=k) om] at Z9
  exact ZG (Zo (.b true) (lb (by first|rfl|omega|grind [Tu,XT])))
 exact Z1 3 (iA [nl,nl] fun b4=>Y0 0 b4 [ZI [],BT []] (Z0 (Yj (W4 (ar (Z7 (Zo (.b false) (lb (by rw [XT,‹V5 n=false›];rfl)))))))))
theorem Z4y (a:YL) (hl:a.fds.length<=1000000:=by exact ob) (hf:0<=a.fst/\a.fst<=1000000000:=by exact ob):Za 292 [.agg [.i a.mat,.i a.fst,Ze a.fds,.b a.chg]] [] (ZP (Ze (VI a.fds a.fst))):=by
 refine Zx 25 Tryz.func292 (ar (iA [.i a.mat,.i a.fst,Ze a.fds,.b a.chg] fun b1=>?_))
 refine Z0 (Zf (Ym 2 [0] (iw (Yk a.fds) (Z0 (ab 0 (TP 1 (ZR (fun fz gz m F h=>∃(k:Nat) (acc:LI) (v:Value),(k<=a.fds.length)/\(acc.length<=k)/\(acc++VI (a.fds.drop k) (a.fst+k)=VI a.fds a.fst)/\F=sF [1,7,8] fz [(3,ZV acc v),(9,.i k)]/\h=[Zy gz 1,.tail v 1]/\m=a.fds.length-k) _ _ _ ⟨0,[],(.slice none 0 0),ob,ob,ob,rfl,rfl,rfl⟩ (wk [1,0] (fc (x:=nl) (Zk.slh _ (by first|rfl|(subst_vars;rfl))) (ZT fl))) ?_)))))))
 rintro m F h ⟨k,acc,v,ZX,Z9,Zz,rfl,rfl,rfl⟩
 refine Zf (aq (Xf ((k:Int)<(a.fds.length:Int)) (fun Z5=>?_) (fun Z5=>?_)))
 ·refine ak (aq (ab 1 (ZM 1 ?_)))
  obtain ⟨x1,Z2⟩:=Zv a.fds k om
  refine Zg (Zq none (k:Int) 1 (Yc Z2)) (Z0 (Zf (DX (fun fz gz F h=>∃(w:Value),F=sF [1,7,8,9] fz [(3,ZV (if x1≠0 then acc++[a.fst+k] else acc) w)]/\h=[Zy gz 0,.tail w 1]) (fun _ _=>rfl) ?_ ?_)))
  ·refine ac (x1 != 0) ZO (fun Zd=>?_) (fun Zd=>?_)
   ·exact az (Y3 4 [0] (ia ((a.fst+(k:Int))) ((a.fst)+((k:Int))) (iL (Zi [(a.fst+(k:Int))]) 1 1 fun v1=>XX 0 [(21,Ze [(a.fst+(k:Int))])] (ip 2 (Zi (acc++[(a.fst+(k:Int))])) (Zi acc) (Zi [(a.fst+(k:Int))]) v none 1 (Wq _) (Wq _) (TY _) (by simp<;>omega) (by simp [TX,Zi]) fun v2=>Z0 (Xk ⟨v2,rfl,rfl⟩ (wk [2,0] (fc (x:=ZV (acc++[(a.fst+(k:Int))]) v2) (Zk.slh _ (Yp Zi (by first|rfl|(rw [Z6 Zd])|(rw [Z4 Zd])|(simp [Zd];done)|(rw [Wk];simp [Zd];done)|omega))) fl)))))))
   exact ak (Xk ⟨v,rfl,rfl⟩ (wk [0,0] (fc (x:=ZV acc v) (Zk.slh _ (Yp Zi (by first|rfl|(rw [Z6 Zd])|(rw [Z4 Zd])|(simp [Zd];done)|(rw [Wk];simp [Zd];done)|omega))) fl)))
  rintro F h ⟨w,rfl,rfl⟩
  exact az (ZK k (Z0 (ZJ ⟨k+1,(if x1≠0 then acc++[a.fst+k] else acc),w,ob,(by split<;>(try simp)<;>omega),(Z3y Z2 Zz),rfl,rfl,rfl⟩ (wk [0,0] (fr (ZL k fl))))))
 exact ax 0 (ar (Z7 (Zo (ZV acc v) (Zk.sl _ (Yp Zi (Z3x om Zz))))))
theorem Bn (b:Nat) (ga:Hd) (gb:Hd) (gc:Hd) (n:Zl) (L:WH) (ln:LI) (am:List YL) (t:Int) (o:Int) (hlb:L.vars.length<=1000000000:=by exact ob) (hlk:W9 L:=by exact ob):Za 211 [.p b 0,.i t,.i o] [.obj b [ZI n.decls,Yo n,Ze ln,YO am,.h ga,.h gb,.h gc],rV ga L.vars,rV gb L.own,rV gc L.tok] (fun r h=>∃(wa:Hd) (wb:Hd) (wc:Hd),h=[.obj b [ZI n.decls,Yo n,Ze ln,YO am,.h wa,.h wb,.h wc],rV wa ((L.grow t o (-1)).vars),rV wb ((L.grow t o (-1)).own),rV wc ((L.grow t o (-1)).tok)]):=by
 have hlk0:=hlk
 obtain ⟨e1,e2,e3,e4,e5⟩:=hlk0
 exact Zx 35 Tryz.func211 (ZB 6 [0] (iL (Zi [t]) 1 1 fun v1=>XX 0 [(12,Ze [t])] (K9 2 ga L.vars [t] none fun v2=>Z1 2 (Y0 2 b [ZI n.decls,Yo n,Ze ln,YO am,.h v2,.h gb,.h gc] (ie (ZB 6 [0] (iL (Zi [o]) 1 1 fun v3=>XX 0 [(22,Ze [o])] (K9 4 gb L.own [o] none fun v4=>Z1 2 (Y0 2 b [ZI n.decls,Yo n,Ze ln,YO am,.h v2,.h v4,.h gc] (ie (az (Y3 5 [0] (iL (Zi [-1]) 1 1 fun v5=>XX 0 [(31,Ze [-1])] (K9 6 gc L.tok [-1] none fun v6=>Z1 2 (Y0 2 b [ZI n.decls,Yo n,Ze ln,YO am,.h v2,.h v4,.h v6] (ie (r2 [0,4,2,0] [] ⟨v2,v4,v6,rfl⟩ (lr _) (eq:=(rc (rv (xs:=(L.vars++[t])) ob (rv (xs:=(L.own++[o])) ob (rv (xs:=(L.tok++[-1])) ob rz))))))))))))))))))))))
theorem DG (b:Nat) (ga:Hd) (gb:Hd) (gc:Hd) (n:Zl) (L:WH) (ln:LI) (am:List YL) (i:Int) (hlk:W9 L:=by exact ob) (hi:0<=i/\i<L.vars.length:=by exact ob) (hq:∀x∈L.own,-1000000000<=x/\x<=1000000000):Za 214 [.p b 0,.i i] [.obj b [ZI n.decls,Yo n,Ze ln,YO am,.h ga,.h gb,.h gc],rV ga L.vars,rV gb L.own,rV gc L.tok] (fun r h=>r=.b (decide (1<=gI L.own i))/\h=[.obj b [ZI n.decls,Yo n,Ze ln,YO am,.h ga,.h gb,.h gc],rV ga ((Xc L i).vars),rV gb ((Xc L i).own),rV gc ((Xc L i).tok)]):=by
 have hlk0:=hlk
 obtain ⟨e1,e2,e3,e4,e5⟩:=hlk0
 refine Zx 22 Tryz.func214 (Zf (ZB 5 [0] (Zg (XB 2 gb L.own i i.toNat (hq:=rfl)) ?_)))
 obtain ⟨x1,Z2⟩:=Zv L.own i.toNat om
 have hxq:=hq _ (YA Z2)
 have hgi:=Vo Z2
 have hsl:(L.own.set i.toNat (x1-1)).length=L.own.length:=Qv
 refine Xu (WQ 2 gb L.own i.toNat x1 Z2) (ia ((x1-1)) ((x1)-(1)) (Zg (XB 2 gb L.own i i.toNat (hq:=rfl)) (BL 2 gb L.own i.toNat (x1-1) (ie (ZB 5 [1] (Zg (XB 0 gb (L.own.set i.toNat (x1-1)) i i.toNat (hq:=rfl)) ?_))))))
 obtain ⟨x2,Zt⟩:=Zv (L.own.set i.toNat (x1-1)) i.toNat om
 have hxe:x2=x1-1:=by rw [List.getElem?_set_self om] at Zt;exact (Ti Zt).symm
 exact Xu (WQ 0 gb (L.own.set i.toNat (x1-1)) i.toNat x2 Zt) (Z7 (r2 [1,1,0,0] [.b (decide (x2>=0))] ⟨rfl,rfl⟩ (lb (by rw [hxe,hgi,Wk];simp)) (eq:=(rc (rv (xs:=L.vars) ob (rv (xs:=(L.own.set i.toNat (x1-1))) (by rw [Xc,hgi]) (rv (xs:=L.tok) ob rz)))))))
theorem LU (b:Nat) (ga:Hd) (gb:Hd) (gc:Hd) (n:Zl) (L:WH) (ln:LI) (am:List YL) (hlb:L.vars.length<=1000000000:=by exact ob) (hlk:W9 L:=by exact ob):Za 293 [.p b 0] [.obj b [ZI n.decls,Yo n,Ze ln,YO am,.h ga,.h gb,.h gc],rV ga L.vars,rV gb L.own,rV gc L.tok] (fun r h=>∃(c:Nat) (wa:Hd) (wb:Hd) (wc:Hd),r=.p c 0/\h=[.obj c [ZI n.decls,Yo n,Ze ln,YO am,.h wa,.h wb,.h wc],rV wa L.vars,rV wb L.own,rV wc L.tok,.obj b [ZI n.decls,Yo n,Ze ln,YO am,.h ga,.h gb,.h gc],rV ga L.vars,rV gb L.own,rV gc L.tok]):=by
 have hlk0:=hlk
 obtain ⟨e1,e2,e3,e4,e5⟩:=hlk0
 refine Zx 25 Tryz.func293 (Zf (ZB 3 [0] (iA [nl,nl,nl,nl,nl,nl,nl] fun b1=>Y0 0 b1 [ZI n.decls,Yo n,Ze ln,YO am,.h ga,.h gb,.h gc] (ie (aD 21 (Y7 9 21 [0,1,2,3,5,6,7,8,10,11,12,13] [1,1,1] (ZF 4 (U9 4 [2] [1,1] [b,b] [rV ga L.vars] (Cp L.vars) QG (gL (v:=ga) 0 gN) (Vk VQ) ?_))))))))
 rintro _ _ ⟨v1,rfl,rfl⟩
 refine ZF 9 (U9 9 [4] [1] [b] [rV gb L.own] (Cp L.own) QG (gL (v:=gb) 0 gN) (Vk VQ) ?_)
 rintro _ _ ⟨v2,rfl,rfl⟩
 refine ZF 14 (U9 14 [6] [] [] [rV gc L.tok] (Cp L.tok) QG (gL (v:=gc) 0 gN) (Vk VQ) ?_)
 rintro _ _ ⟨v3,rfl,rfl⟩
 exact Zm 5 6 [15] (ZF 16 (Uw 16 6 [] [] b1 [ZI n.decls,Yo n,Ze ln,YO am,.h v1,.h gb,.h gc] (Zm 3 4 [17] (ZF 18 (Uw 18 0 [] [] b1 [ZI n.decls,Yo n,Ze ln,YO am,.h v1,.h v2,.h gc] (Zm 1 2 [19] (ZF 20 (Uw 20 0 [] [] b1 [ZI n.decls,Yo n,Ze ln,YO am,.h v1,.h v2,.h v3] (de (ar (Z7 (r1 [0,4,2,0,3,2,1,0] ⟨b1,v1,v2,v3,rfl,rfl⟩))))))))))))
theorem LT (b:Nat) (ga:Hd) (gb:Hd) (gc:Hd) (n:Zl) (L:WH) (ln:LI) (am:List YL) (i:Int) (hlk:W9 L) (har:Wx n.decls L am) (hln:ln.length<=4294967296) (hal:am.length<=1000000000) (hlb:L.vars.length<=1000000000) (hd:∀j:Int,0<=j->j<L.vars.length->gI L.par j<j) (hi:0<=i/\i<L.vars.length) (ih:∀(i2:Int),(0<=i2/\i2<i)->Za 290 [.p b 0,.i i2] [.obj b [ZI n.decls,Yo n,Ze ln,YO am,.h ga,.h gb,.h gc],rV ga L.vars,rV gb L.own,rV gc L.tok] (fun r h=>r=.b (XV L ln i2)/\h=[.obj b [ZI n.decls,Yo n,Ze ln,YO am,.h ga,.h gb,.h gc],rV ga L.vars,rV gb L.own,rV gc L.tok])):Za 290 [.p b 0,.i i] [.obj b [ZI n.decls,Yo n,Ze ln,YO am,.h ga,.h gb,.h gc],rV ga L.vars,rV gb L.own,rV gc L.tok] (fun r h=>r=.b (XV L ln i)/\h=[.obj b [ZI n.decls,Yo n,Ze ln,YO am,.h ga,.h gb,.h gc],rV ga L.vars,rV gb L.own,rV gc L.tok]):=by
 have hlk0:=hlk
 obtain ⟨e1,e2,e3,e4,e5⟩:=hlk0
 refine Zx 51 Tryz.func290 (Zf (Ym 5 [0] (Zg (XB 2 gb L.own i i.toNat (hq:=rfl)) ?_)))
 obtain ⟨x1,Z2⟩:=Zv L.own i.toNat om
 have hgi:=Vo Z2
 refine Xu (WQ 2 gb L.own i.toNat x1 Z2) (W7 [0,1] [(22,.b ((decide (x1>0))||(decide (i∈ln))))] (fun gz=>gz) ?_ ?_)
 ·refine Z1 2 (ib (b:=(decide (x1>0))) 15 (fun Zb=>?_) (fun Zb=>?_))
  ·have Ya:x1>0:=(dq).1 Zb
   exact Z0 (Y1 4 (Zp true Zb fl))
  have YT:¬(x1>0):=ZZ dq Zb
  exact Y3 5 [0] (ZC [] (ID ln i) (Z0 (Y1 4 (Zp (decide (i∈ln)) Zb fl))))
 refine ac ((decide (x1>0))||(decide (i∈ln))) (p:=(x1>0)∨(i∈ln)) (Yg dq dq) (fun Z5=>?_) (fun Z5=>?_)
 ·exact ar (Z7 (r2 [0,0,0,0] [.b true] ⟨rfl,rfl⟩ (lb (Sz (by rw [hgi];exact Z5)).symm)))
 refine ak (Ym 4 [0] (iw (Z2f am) (Z0 (ab 0 (ZR (fun fz gz m F h=>∃(k:Nat),(k<=am.length)/\(∀a∈am.take k,¬(a.fst<=i/\i<a.fst+a.fds.length))/\F=sF [0,1,26,27] fz [(28,.i k)]/\h=gz/\m=am.length-k) _ _ _ ⟨0,ob,ob,rfl,rfl,rfl⟩ (Y1 4 (ZT fl)) ?_)))))
 rintro m F h ⟨k,ZX,Z9,rfl,rfl,rfl⟩
 refine Zf (aq (Xf ((k:Int)<(am.length:Int)) (fun Zd=>?_) (fun Zd=>?_)))
 ·refine ak (aq (ab 1 (ar ?_)))
  obtain ⟨x2,Zt⟩:=Zv am k om
  have ham:=YA Zt
  have hrg:=har.rng _ ham
  refine Zg (Zq none (k:Int) 4 (Z2e Zt)) (Z1 1 (iA [.i 0,.i 0,nl,.b false] fun b1=>Y0 0 b1 [.i x2.mat,.i x2.fst,Ze x2.fds,.b x2.chg] (ie (ar (W7 [0,1,6,26,27,28] [(45,.b ((decide (i>=x2.fst))&&(decide (i<(x2.fst+(x2.fds.length:Int))))))] (fun gz=>gz) ?_ ?_)))))
  ·refine Y3 5 [0] (ib (b:=(decide (i>=x2.fst))) 36 (fun ZD=>?_) (fun ZD=>?_))
   ·have Xy:i>=x2.fst:=(dq).1 ZD
    exact Y3 5 [0,0] (iw (Yk x2.fds) (ia ((x2.fst+(x2.fds.length:Int))) ((x2.fst)+((x2.fds.length:Int))) (Z0 (Y1 5 (Zp (decide (i<(x2.fst+(x2.fds.length:Int)))) ZD fl)))))
   have XE:¬(i>=x2.fst):=ZZ dq ZD
   exact Z0 (Y1 5 (Zp false ZD fl))
  refine ac ((decide (i>=x2.fst))&&(decide (i<(x2.fst+(x2.fds.length:Int))))) (p:=(i>=x2.fst)/\(i<(x2.fst+(x2.fds.length:Int)))) (Yy dq dq) (fun Zw=>?_) (fun Zw=>?_)
  ·refine ZB 3 [0] (ZC [1,1,1,1] (ih x2.mat ob) (Z0 ?_))
   have hpa:=har.par _ ham i Zw.1 Zw.2
   exact ZG (r2 [0,0,0,0] [.b (XV L ln x2.mat)] ⟨rfl,rfl⟩ (lb (Sy hi hd (by rw [hgi];exact Z5) hpa hrg.1).symm))
  refine ak (az (ZK k (Z0 ?_)))
  have hdr:=ZH Zt
  exact ZJ ⟨k+1,ob,(by rw [WP Zt];exact fun a ha=>(Yv.1 ha).elim (Z9 a) (fun ha=>by rw [YH.1 ha];exact fun q=>Zw ⟨q.1,q.2⟩)),rfl,rfl,rfl⟩ (wk [1,1,1,1] (ZL k fl))
 refine ax 0 (Zf ?_)
 have hpn:gI L.par i<0:=Int.not_le.1 fun h=>by
  obtain ⟨a,ha,q⟩:=har.non i hi.1 hi.2 h
  exact Z9 a (by rw [W2 om];exact ha) q
 exact ZG (r2 [0,0,0,0] [.b false] ⟨rfl,rfl⟩ (lb (Sx (by rw [hgi];exact Z5) hpn).symm))
theorem FY (b:Nat) (ga gb gc:Hd) (n:Zl) (L:WH) (ln:LI) (am:List YL) (i:Int) (hlk:W9 L) (har:Wx n.decls L am) (hln:ln.length<=4294967296) (hal:am.length<=1000000000) (hlb:L.vars.length<=1000000000)
  (hd:∀j:Int,0<=j->j<L.vars.length->gI L.par j<j) (hi:0<=i/\i<L.vars.length):Za 290 [.p b 0,.i i] [.obj b [ZI n.decls,Yo n,Ze ln,YO am,.h ga,.h gb,.h gc],rV ga L.vars,rV gb L.own,rV gc L.tok] (fun r h=>r=.b (XV L ln i)/\h=[.obj b [ZI n.decls,Yo n,Ze ln,YO am,.h ga,.h gb,.h gc],rV ga L.vars,rV gb L.own,rV gc L.tok]):=by
 have key:∀m:Nat,∀j:Int,0<=j->j.toNat<=m->j<L.vars.length->Za 290 [.p b 0,.i j] [.obj b [ZI n.decls,Yo n,Ze ln,YO am,.h ga,.h gb,.h gc],rV ga L.vars,rV gb L.own,rV gc L.tok] (fun r h=>r=.b (XV L ln j)/\h=[.obj b [ZI n.decls,Yo n,Ze ln,YO am,.h ga,.h gb,.h gc],rV ga L.vars,rV gb L.own,rV gc L.tok]):=by
  intro m
  induction m with
  | zero=>intro j h1 h2 h3;exact LT b ga gb gc n L ln am j hlk har hln hal hlb hd ⟨h1,h3⟩ fun i2 q=>by omega
  | succ m ih=>intro j h1 h2 h3;exact LT b ga gb gc n L ln am j hlk har hln hal hlb hd ⟨h1,h3⟩ fun i2 q=>ih i2 q.1 om om
 exact key i.toNat i hi.1 (YX _) hi.2
end Go.Abs
section
namespace Go.Proofs
open Go.RowKit Go.Shelf
attribute [local go_sem] Oper.semAt_some
structure ArmV where
 m:Int
 f:Int
 sa:Option Addr
 sl:Nat
 sc:Nat
 c:Bool
 deriving Inhabited
def ArmV.enc (a:ArmV):Value:=.agg #[.int .i64 a.m,.int .i64 a.f,.slice a.sa a.sl a.sc,.bool a.c]
def WS (zs:List ArmV) (i:Nat):ArmV:=zs[i]?.getD default
def dn (zs:List ArmV) (k:Nat):List (Nat × ArmV):=(List.range k).map fun j=>(zs.length-1-j,WS zs (zs.length-1-j))
theorem Gz (zs:List ArmV) (k:Nat):dn zs (k+1)=dn zs k++[(zs.length-1-k,WS zs (zs.length-1-k))]:=by simp [dn,List.range_succ]
theorem Z28 (zs:List ArmV) (k:Nat):(dn zs k).length=k:=by simp [dn]
def AE (n₀:Nat) (W:World) (v:Value) (zs:List ArmV):Prop:=
 (∃a c,v=.slice a 0 c∧zs=[])∨∃b off cap,v=.slice (some ⟨b,off,none⟩) zs.length cap∧b<n₀∧∀j,j<zs.length →
  W.cell? ⟨b,off+j*4,none⟩=some (.int .i64 (WS zs j).m)∧W.cell? ⟨b,off+j*4+1,none⟩=some (.int .i64 (WS zs j).f) ∧
  W.cell? ⟨b,off+j*4+2,none⟩=some (.slice (WS zs j).sa (WS zs j).sl (WS zs j).sc)∧W.cell? ⟨b,off+j*4+3,none⟩=some (.bool (WS zs j).c)
theorem AE.below {n₀:Nat} {A B:World} {v:Value} {zs:List ArmV} (h:Below n₀ A B) (H:AE n₀ A v zs):AE n₀ B v zs:=by
 rcases H with H|⟨b,off,cap,e,hb,hc⟩
 ·exact .inl H
 ·refine .inr ⟨b,off,cap,e,hb,fun j hj=>?_⟩
  obtain ⟨h0,h1,h2,h3⟩:=hc j hj
  exact ⟨(h.cell (p:=⟨b,_,none⟩) hb).trans h0,(h.cell (p:=⟨b,_,none⟩) hb).trans h1,(h.cell (p:=⟨b,_,none⟩) hb).trans h2,(h.cell (p:=⟨b,_,none⟩) hb).trans h3⟩
set_option maxRecDepth 100000 in
set_option maxHeartbeats 2000000 in
theorem SR (F:Fence) (n:Nat) (h8:F.fn 343) (hro:F.round=none) (hn:1≤n) (l Bs n₀ b off cap:Nat) (zs:List ArmV) (hreach:zs.length≤1000000000) (hb:b<n₀) (J Jx:List (Nat × ArmV)→World→Prop)
  (hY:∀pre x W,J pre W→pre.length<zs.length→YieldAt F (n-1) Tryz.prog l #[.int .i64 ((x.1:Nat):Int),x.2.enc] W fun e W'=>
   (e=.returned (.bool true)∧J (pre++[x]) W'∧Below n₀ W W')∨(e=.returned (.bool false)∧Jx (pre++[x]) W'))
  (W:World) (hBn:Bs<n₀) (hBs:W.cell? ⟨Bs,0,none⟩=some (.slice (some ⟨b,off,none⟩) zs.length cap)) (hc:∀j,j<zs.length →
  W.cell? ⟨b,off+j*4,none⟩=some (.int .i64 (WS zs j).m)∧W.cell? ⟨b,off+j*4+1,none⟩=some (.int .i64 (WS zs j).f) ∧
  W.cell? ⟨b,off+j*4+2,none⟩=some (.slice (WS zs j).sa (WS zs j).sl (WS zs j).sc)∧W.cell? ⟨b,off+j*4+3,none⟩=some (.bool (WS zs j).c)) (h0:J [] W) :
  CallsIn F n Tryz.prog 343 #[.func (.yield l) #[] #[],.pointer (some ⟨Bs,0,none⟩)] W fun e W'=>(∃v,e=.returned v) ∧
   ((∃ys,ys=dn zs zs.length∧J ys W')∨(∃pre,(∃k,k≤zs.length∧pre=dn zs k)∧Jx pre W')):=by
 refine callsIn_of_wp Tryz.func343 rfl h8 ?_ hro
 simp only [Tryz.ntmps343,List.size_toArray,List.length_cons,List.length_nil,Nat.reduceAdd,Nat.reduceSub,Array.replicate_succ,Array.replicate_zero,List.push_toArray,List.append_toArray,List.nil_append,List.cons_append]
 gi_wp2
 gi_loopw [3] (fun i wr=>∃k:Nat,k≤zs.length∧i=.int .i64 ((zs.length:Int)-1-k)∧J (dn zs k) wr∧Below n₀ W wr)
  (fun i _=>(intOf i+1).toNat)
 case atStart=>exact ⟨0,Nat.zero_le _,by simp,h0,Below.refl _ _⟩
 case round=>
  obtain ⟨k,hk,rfl,hJs,hnx⟩:=hrel
  have hBx:wr.cell? ⟨Bs,0,none⟩=some (.slice (some ⟨b,off,none⟩) zs.length cap):=(hnx.cell (p:=⟨Bs,0,none⟩) hBn).trans hBs
  by_cases hlt:k<zs.length
  ·obtain ⟨q,hq⟩:∃q:Nat,(zs.length:Int)-1-k=(q:Int):=⟨zs.length-1-k,by omega⟩
   have hqk:zs.length-1-k=q:=by omega
   obtain ⟨g0,g1,g2,g3⟩:=hc q (by omega)
   have c0:=(hnx.cell (p:=⟨b,off+q*4,none⟩) hb).trans g0
   have c1:=(hnx.cell (p:=⟨b,off+q*4+1,none⟩) hb).trans g1
   have c2:=(hnx.cell (p:=⟨b,off+q*4+2,none⟩) hb).trans g2
   have c3:=(hnx.cell (p:=⟨b,off+q*4+3,none⟩) hb).trans g3
   obtain ⟨fn,tmps,assign,body,hy,hR⟩:=hY _ (q,WS zs q) wr hJs (by rw [Z28];exact hlt)
   dsimp only [ArmV.enc] at hy
   rw [hq]
   have hql:(q:Int)<zs.length:=by omega
   gi_wp2
   refine hR.mono ?_
   rintro e W3 (⟨rfl,hJ3,hk3⟩|⟨rfl,hJx3⟩)
   ·gi_wp2
    go_roundw
    case rel=>exact ⟨k+1,by omega,by congr 1;omega,by rw [Gz,hqk];exact hJ3,hnx.trans hk3⟩
    case measure=>simp [intOf]
   ·gi_wp2
    refine bodyPost_ret (results_none rfl _ _ _) rfl ?_
    exact ⟨⟨_,rfl⟩,.inr ⟨_,⟨k+1,by omega,by rw [Gz,hqk]⟩,hJx3⟩⟩
  ·obtain rfl:k=zs.length:=by omega
   have hneg:¬(0≤(zs.length:Int)-1-zs.length):=by omega
   gi_wp2
   go_end0
   first|exact ⟨⟨_,rfl⟩,.inl ⟨_,rfl,hJs⟩⟩|exact ⟨⟨_,rfl⟩,.inl hJs⟩
set_option maxRecDepth 100000 in
set_option maxHeartbeats 1000000 in
theorem SS (F:Fence) (n:Nat) (h8:F.fn 343) (hro:F.round=none) (l Bs:Nat) (a:Option Addr) (c:Nat) (J:List (Nat × ArmV)→World→Prop) (W:World) (hBs:W.cell? ⟨Bs,0,none⟩=some (.slice a 0 c)) (h0:J [] W) :
  CallsIn F n Tryz.prog 343 #[.func (.yield l) #[] #[],.pointer (some ⟨Bs,0,none⟩)] W fun e W'=>(∃v,e=.returned v)∧J [] W':=by
 refine callsIn_of_wp Tryz.func343 rfl h8 ?_ hro
 simp only [Tryz.ntmps343,List.size_toArray,List.length_cons,List.length_nil,Nat.reduceAdd,Nat.reduceSub,Array.replicate_succ,Array.replicate_zero,List.push_toArray,List.append_toArray,List.nil_append,List.cons_append]
 gi_wp2
 gi_loopw [3] (fun i wr=>i=.int .i64 (-1)∧J [] wr) (fun _ _=>0)
 case atStart=>exact ⟨rfl,h0⟩
 case round=>
  obtain ⟨rfl,hJs⟩:=hrel
  gi_wp2
  go_end0
  exact ⟨⟨_,rfl⟩,hJs⟩
set_option maxHeartbeats 1000000 in
theorem SU (F:Fence) (n:Nat) (h6:F.fn 326) (hro:F.round=none) (v:Value) (hv1:∃a l c,v=.slice a l c) (w:World) :
  CallsIn F n Tryz.prog 326 #[v] w fun e w'=>e=.returned (.func (.func 343) #[] #[.pointer (some ⟨w.heap.size,0,none⟩)])∧w'=w.alloc (.cells #[v] 247):=by
 obtain ⟨a,ll,c,rfl⟩:=hv1
 refine callsIn_of_wp Tryz.func326 rfl h6 ?_ hro
 simp only [Tryz.ntmps326,List.size_toArray,List.length_cons,List.length_nil,Nat.reduceAdd,Nat.reduceSub,Array.replicate_succ,Array.replicate_zero,List.push_toArray,List.append_toArray,List.nil_append,List.cons_append]
 gi_wp2
 go_ret
 exact ⟨rfl,rfl⟩
theorem SV (F:Fence) (n:Nat) (h8:F.fn 343) (hro:F.round=none) (hn:1≤n) (Bs n₀:Nat) (v:Value) (zs:List ArmV) (hreach:zs.length≤1000000000) (w:World) (hBs:Bs<n₀) (hn₀:n₀≤w.heap.size)
  (hc:w.cell? ⟨Bs,0,none⟩=some v) (hI:AE n₀ w v zs) :
  SeqStopsK F n Tryz.prog 343 #[.pointer (some ⟨Bs,0,none⟩)] (fun x:Nat × ArmV=>#[Value.int .i64 ((x.1:Nat):Int),x.2.enc]) (Below n₀) (fun ys=>ys=dn zs zs.length) (fun pre=>∃k,k≤zs.length∧pre=dn zs k) zs.length w:=by
 intro l J Jx W hW _ _ hY h0
 have hc':=(hW.cell (p:=⟨Bs,0,none⟩) (Nat.lt_of_lt_of_le hBs hn₀)).trans hc
 rcases hI.below (hW.mono hn₀) with ⟨a,c,rfl,rfl⟩|⟨b,off,cap,rfl,hb,hcs⟩
 ·exact (SS F n h8 hro l Bs a c J W hc' h0).mono fun e W' ⟨he,hj⟩=>⟨he,.inl ⟨_,rfl,hj⟩⟩
 ·exact SR F n h8 hro hn l Bs n₀ b off cap zs hreach hb J Jx hY W hBs hc' hcs h0
def VN (W:World) (B:Nat) (a:ArmV):Prop:=W.heap[B]? = some (.cells #[.int .i64 a.m,.int .i64 a.f,.slice a.sa a.sl a.sc,.bool a.c] 312 (0,0))
theorem G4 {β:Type} (B:Nat) (f:β→ArmV):Own (fun s W=>VN W B (f s)):=fun s X Y row hs hg hrow=>
 (grownBy_keeps_cells hg hrow hs rfl).trans hs
theorem VN.lt {W:World} {B:Nat} {a:ArmV} (h:VN W B a):B<W.heap.size:=(Array.getElem?_eq_some_iff.1 h).1
theorem VN.alloc {W:World} {B:Nat} {a:ArmV} (h:VN W B a) (o:Obj):VN (W.alloc o) B a:=(Below.heap_alloc W o B h.lt).trans h
theorem VN.other {W:World} {B B':Nat} {a:ArmV} (h:VN W B a) (hne:B≠B') (j:Nat) (u:Value):VN (W.setCell ⟨B',j,none⟩ u) B a:=(heap_setCell_other W ⟨B',j,none⟩ B u hne).trans h
theorem VN.cells {W:World} {B:Nat} {a:ArmV} (h:VN W B a):W.cell? ⟨B,0,none⟩=some (.int .i64 a.m)∧W.cell? ⟨B,1,none⟩=some (.int .i64 a.f)∧W.cell? ⟨B,2,none⟩=some (.slice a.sa a.sl a.sc)∧W.cell? ⟨B,3,none⟩=some (.bool a.c):=by
 have h':W.heap[B]? = _:=h
 refine ⟨?_,?_,?_,?_⟩<;>simp [World.cell?,h']
theorem VN.frozen {W:World} {B:Nat} {a:ArmV} (h:VN W B a) (j:Nat):W.frozen? ⟨B,j,none⟩=false:=by simp [World.frozen?,show W.heap[B]? = _ from h]
def w4 (W:World) (B:Nat) (a:ArmV):World:=(((W.setCell ⟨B,0,none⟩ (.int .i64 a.m)).setCell ⟨B,1,none⟩ (.int .i64 a.f)).setCell ⟨B,2,none⟩ (.slice a.sa a.sl a.sc)).setCell ⟨B,3,none⟩ (.bool a.c)
theorem VN.put {W:World} {B:Nat} {a:ArmV} (b:ArmV) (h:VN W B a):VN (w4 W B b) B b:=
 heap_setCell_same _ B 3 _ 312 _ (heap_setCell_same _ B 2 _ 312 _ (heap_setCell_same _ B 1 _ 312 _ (heap_setCell_same _ B 0 _ 312 _ h)))
theorem RR (W:World) (B:Nat) (a:ArmV) (k:Nat) (h:k≠B):(w4 W B a).heap[k]? = W.heap[k]?:=
 (heap_setCell_other _ ⟨B,3,none⟩ k _ h).trans ((heap_setCell_other _ ⟨B,2,none⟩ k _ h).trans ((heap_setCell_other _ ⟨B,1,none⟩ k _ h).trans (heap_setCell_other _ ⟨B,0,none⟩ k _ h)))
theorem RQ (W:World) (B:Nat) (a:ArmV):KeepsOthers W (w4 W B a):=(((KeepsOthers.setCell _ _ _).trans (KeepsOthers.setCell _ _ _)).trans (KeepsOthers.setCell _ _ _)).trans (KeepsOthers.setCell _ _ _)
theorem RP {n₀:Nat} {w W:World} {B:Nat} (a:ArmV) (h:Below n₀ w W) (hB:n₀≤B):Below n₀ w (w4 W B a):=
 (((h.setCell (p:=⟨B,0,none⟩) hB _).setCell (p:=⟨B,1,none⟩) hB _).setCell (p:=⟨B,2,none⟩) hB _).setCell (p:=⟨B,3,none⟩) hB _
set_option maxRecDepth 100000 in
set_option maxHeartbeats 4000000 in
theorem Z8f (F:Fence) (n:Nat) (h61:F.fn 291) (h122:F.fn 326) (h165:F.fn 343) (hro:F.round=none) (hn:6≤n) (v:Int) (av:Value) (zs:List ArmV) (hreach:zs.length≤1000000000) (w:World) (hav:∃a l c,av=.slice a l c) (hA:AE w.heap.size w av zs) :
  CallsIn F n Tryz.prog 291 #[av,.int .i64 v] w fun e W'=>((∃k,k<zs.length∧(WS zs (zs.length-1-k)).m=v∧(∀j,j<k→(WS zs (zs.length-1-j)).m≠v)∧e=.returned (.tuple #[(WS zs (zs.length-1-k)).enc,.bool true])) ∨
   ((∀j,j<zs.length→(WS zs (zs.length-1-j)).m≠v)∧e=.returned (.tuple #[.agg #[.int .i64 0,.int .i64 0,.slice none 0 0,.bool false],.bool false])))∧Below w.heap.size w W':=by
 have h1:1≤n:=by omega
 refine callsIn_of_wp_marks Tryz.func291 rfl h61 ?_ hro
 simp only [Tryz.ntmps291,List.size_toArray,List.length_cons,List.length_nil,Nat.reduceAdd,Nat.reduceSub,Array.replicate_succ,Array.replicate_zero,List.push_toArray,List.append_toArray,List.nil_append,List.cons_append]
 obtain ⟨aa,al,ac,rfl⟩:=hav
 gi_wp2_with (gi_at_call 326;refine (SU F (n-1) h122 hro _ ⟨_,_,_,rfl⟩ _).mono ?_;rintro e w' ⟨rfl,rfl⟩)
 obtain ⟨W0,hW0⟩:∃W0,(((w.alloc (.cells #[.int .i64 v] 3)).alloc (.cells #[.int .i64 0,.int .i64 0,.slice none 0 0,.bool false] 312)).alloc (.cells #[.bool false] 4)).alloc (.cells #[.slice aa al ac] 247)=W0:=⟨_,rfl⟩
 have hB0:Below w.heap.size w W0:=by rw [←hW0];exact ((((Below.refl _ w).alloc (Nat.le_refl _) _).alloc (by simp) _).alloc (by simp;omega) _).alloc (by simp;omega) _
 have hsz:W0.heap.size=w.heap.size+4:=by rw [←hW0];simp
 have bV:Boxed W0 w.heap.size 3 (.int .i64 v):=by rw [←hW0];exact (((Boxed.new w 3 (.int .i64 v)).alloc _).alloc _).alloc _
 have bR:VN W0 (w.heap.size+1) default:=by
  rw [←hW0]
  have h:VN ((w.alloc (.cells #[.int .i64 v] 3)).alloc (.cells #[.int .i64 0,.int .i64 0,.slice none 0 0,.bool false] 312)) (w.alloc (.cells #[.int .i64 v] 3)).heap.size default:=World.alloc_heap_new _ _
  rw [World.size_alloc] at h
  exact (h.alloc _).alloc _
 have bO:Boxed W0 (w.heap.size+1+1) 4 (.bool false):=by
  rw [←hW0]
  have h:=Boxed.new ((w.alloc (.cells #[.int .i64 v] 3)).alloc (.cells #[.int .i64 0,.int .i64 0,.slice none 0 0,.bool false] 312)) 4 (.bool false)
  simp only [World.size_alloc] at h
  exact h.alloc _
 have bA:Boxed W0 (w.heap.size+1+1+1) 247 (.slice aa al ac):=by
  rw [←hW0]
  have h:=Boxed.new (((w.alloc (.cells #[.int .i64 v] 3)).alloc (.cells #[.int .i64 0,.int .i64 0,.slice none 0 0,.bool false] 312)).alloc (.cells #[.bool false] 4)) 247 (.slice aa al ac)
  simp only [World.size_alloc] at h
  exact h
 have hA0:AE (w.heap.size+4) W0 (.slice aa al ac) zs:=by
  rcases hA.below hB0 with h|⟨b,off,cap,e,hb,hc⟩
  ·exact .inl h
  ·exact .inr ⟨b,off,cap,e,by omega,hc⟩
 rw [hW0]
 clear hW0
 refine wpIn_rangeFunc_ownH hro h1 (gf:=343) (lb:=#[.pointer (some ⟨w.heap.size+1+1+1,0,none⟩)]) rfl h165 (enters_of Tryz.func343 (by kernel_rfl) rfl)
  (SV F (n-1) h165 hro (by omega) (w.heap.size+1+1+1) (w.heap.size+4) _ zs hreach W0 (by omega) (by omega) bA.cell hA0) belowK_t (belowK_b (by omega)) (Below.refl _ _) (fun _=>rfl)
  (fun pre W=>(((((∀x∈pre,x.2.m≠v)∧Boxed W w.heap.size 3 (.int .i64 v))∧VN W (w.heap.size+1) default)∧Boxed W (w.heap.size+1+1) 4 (.bool false))∧Boxed W (w.heap.size+1+1+1) 247 (.slice aa al ac))∧Below w.heap.size w W)
  (fun c pre W=>((∃pre0 x,(c=.ret∧pre=pre0++[x]∧x.2.m=v∧∀y∈pre0,y.2.m≠v)∧VN W (w.heap.size+1) x.2)∧Boxed W (w.heap.size+1+1) 4 (.bool true))∧Below w.heap.size w W)
  (OwnFrom.and (OwnFrom.and (OwnFrom.and (OwnFrom.and (OwnFrom.and (ownFrom_pure _ _) (Own.from (boxed_own _ _ _) _)) (Own.from (G4 _ _) _)) (Own.from (boxed_own _ _ _) _)) (Own.from (boxed_own _ _ _) _)) (ownFrom_below (Nat.le_refl _) (by omega)))
  (fun c=>OwnFrom.and (OwnFrom.and (fun s X Y row hs hg hr=>by
   obtain ⟨pre0,x,h,hb⟩:=hs
   exact ⟨pre0,x,h,G4 (w.heap.size+1) (fun (_:Unit)=>x.2) () X Y row hb hg (fun r e=>(hr r e).2)⟩) (Own.from (boxed_own _ _ _) _)) (ownFrom_below (Nat.le_refl _) (by omega)))
  ⟨⟨⟨⟨⟨by simp,bV⟩,bR⟩,bO⟩,bA⟩,hB0⟩
  (fun x a' W=>∃Bx,w.heap.size+1+1<Bx∧VN W Bx x.2∧a'={ tmps:=#[.slice aa al ac,.int .i64 v,undef,.pointer (some ⟨w.heap.size,0,none⟩),.pointer (some ⟨w.heap.size+1,0,none⟩),.pointer (some ⟨w.heap.size+1+1,0,none⟩),undef,.pointer (some ⟨Bx,0,none⟩),.slice aa al ac,.func (.func 343) #[] #[.pointer (some ⟨w.heap.size+1+1+1,0,none⟩)],.int .i64 ((x.1:Nat):Int),x.2.enc,undef,undef,undef,undef,undef,undef],defers:=[] })
  (fun x a' _ X Y row hs hg hr=>by obtain ⟨Bx,e1,e2,e3⟩:=hs;exact ⟨Bx,e1,G4 Bx (fun (_:Unit)=>x.2) () X Y row e2 hg (fun r e=>(hr r e).2),e3⟩)
  ?assign ?body ?done ?stop
 case assign=>
  rintro l pre ⟨xi,x⟩ W K ⟨⟨⟨⟨⟨hp,bV1⟩,bR1⟩,bO1⟩,bA1⟩,hB1⟩ hK
  obtain ⟨xm,xf,xsa,xsl,xsc,xc⟩:=x
  dsimp only [ArmV.enc] at hK ⊢
  gi_wp2
  have hbA:=bA1.lt
  exact hK _ _ ((KeepsOthers.alloc _ _).from _) ((Below.refl _ W).alloc (by omega) _) ⟨⟨⟨⟨⟨hp,bV1.alloc _⟩,bR1.alloc _⟩,bO1.alloc _⟩,bA1.alloc _⟩,hB1.alloc hB1.size _⟩ ⟨W.heap.size,by omega,World.alloc_heap_new W _,rfl⟩
 case body=>
  rintro l pre ⟨xi,x⟩ a' W hl ⟨r,hr⟩ ⟨⟨⟨⟨⟨hp,bV1⟩,bR1⟩,bO1⟩,bA1⟩,hB1⟩ ⟨Bx,hBx,bX,rfl⟩ hlt
  obtain ⟨xm,xf,xsa,xsl,xsc,xc⟩:=x
  have cV:=bV1.cell
  obtain ⟨x0,x1,x2,x3⟩:=bX.cells
  dsimp only at x0 x1 x2 x3
  obtain ⟨r0,r1,r2,r3⟩:=bR1.cells
  have f0:=bR1.frozen 0
  have f1:=bR1.frozen 1
  have f2:=bR1.frozen 2
  have f3:=bR1.frozen 3
  have cO:=bO1.cell
  have fO:=bO1.frozen
  gi_wp2
  ·rename_i hxy
   have hxv:xm=v:=by first|exact hxy|exact eq_of_beq hxy|(simp at hxy;exact hxy)
   have b4:=bR1.put ⟨xm,xf,xsa,xsl,xsc,xc⟩
   have b5:Boxed (w4 W (w.heap.size+1) ⟨xm,xf,xsa,xsl,xsc,xc⟩) (w.heap.size+1+1) 4 (.bool false):=(RR W _ _ _ (by omega)).trans bO1
   have b6:VN ((w4 W (w.heap.size+1) ⟨xm,xf,xsa,xsl,xsc,xc⟩).setCell ⟨w.heap.size+1+1,0,none⟩ (.bool true)) (w.heap.size+1) ⟨xm,xf,xsa,xsl,xsc,xc⟩:=b4.other (by omega) 0 _
   exact ⟨((RQ W (w.heap.size+1) ⟨xm,xf,xsa,xsl,xsc,xc⟩).trans (KeepsOthers.setCell _ _ _)).from _,⟨⟨pre,xi,⟨xm,xf,xsa,xsl,xsc,xc⟩,⟨rfl,rfl,hxv,fun a b h=>hp (a,b) h⟩,b6⟩,b5.set _⟩,(RP ⟨xm,xf,xsa,xsl,xsc,xc⟩ hB1 (by omega)).setCell (p:=⟨w.heap.size+1+1,0,none⟩) (by simp;omega) _⟩
  ·rename_i hxy
   exact ⟨KeepsFrom.refl _ _,Below.refl _ _,⟨⟨⟨⟨fun a b h=>(List.mem_append.1 h).elim (hp (a,b)) (fun e=>by simp at e;obtain ⟨rfl,rfl⟩:=e;simpa using hxy),bV1⟩,bR1⟩,bO1⟩,bA1⟩,hB1⟩
 case done=>
  rintro D ys W hD rfl ⟨⟨⟨⟨⟨hp,bV1⟩,bR1⟩,bO1⟩,bA1⟩,hB1⟩ hK
  obtain ⟨r0,r1,r2,r3⟩:=bR1.cells
  have f0:=bR1.frozen 0
  have f1:=bR1.frozen 1
  have f2:=bR1.frozen 2
  have f3:=bR1.frozen 3
  have cO:=bO1.cell
  have fO:=bO1.frozen
  gi_wp2
  have hK':=((RQ W (w.heap.size+1) (⟨0,0,none,0,0,false⟩:ArmV)).trans (KeepsOthers.setCell _ ⟨w.heap.size+1+1,0,none⟩ (.bool false))).same D _ hK rfl
  refine ⟨by simp,.inl ⟨_,_,rfl,run_takeDeferred hK',?_⟩⟩
  have b4:=bR1.put (⟨0,0,none,0,0,false⟩:ArmV)
  have b5:Boxed (w4 W (w.heap.size+1) (⟨0,0,none,0,0,false⟩:ArmV)) (w.heap.size+1+1) 4 (.bool false):=(RR W _ _ _ (by omega)).trans bO1
  have b6:VN ((w4 W (w.heap.size+1) (⟨0,0,none,0,0,false⟩:ArmV)).setCell ⟨w.heap.size+1+1,0,none⟩ (.bool false)) (w.heap.size+1) (⟨0,0,none,0,0,false⟩:ArmV):=b4.other (by omega) 0 _
  have b7:=b5.set (.bool false)
  have n4:w.heap.size+1≠D:=by omega
  have n5:w.heap.size+1+1≠D:=by omega
  have b8:VN (((w4 W (w.heap.size+1) (⟨0,0,none,0,0,false⟩:ArmV)).setCell ⟨w.heap.size+1+1,0,none⟩ (.bool false)).putObj D (.deferred none)) (w.heap.size+1) (⟨0,0,none,0,0,false⟩:ArmV):=(World.putObj_heap_other n4).trans b6
  have b9:Boxed (((w4 W (w.heap.size+1) (⟨0,0,none,0,0,false⟩:ArmV)).setCell ⟨w.heap.size+1+1,0,none⟩ (.bool false)).putObj D (.deferred none)) (w.heap.size+1+1) 4 (.bool false):=(World.putObj_heap_other n5).trans b7
  obtain ⟨y0,y1,y2,y3⟩:=b8.cells
  have y4:=b9.cell
  dsimp only [w4] at y0 y1 y2 y3 y4
  refine ⟨.tuple #[.agg #[.int .i64 0,.int .i64 0,.slice none 0 0,.bool false],.bool false],?_,⟨.inr ⟨fun j hj=>hp (zs.length-1-j,WS zs (zs.length-1-j)) (List.mem_map.2 ⟨j,List.mem_range.2 hj,rfl⟩),rfl⟩,
   ((RP (⟨0,0,none,0,0,false⟩:ArmV) hB1 (by omega)).setCell (p:=⟨w.heap.size+1+1,0,none⟩) (by simp;omega) _).trans (belowK_b (w:=w) (Nat.le_refl _) _ D _ _ (by omega) hK' rfl rfl)⟩⟩
  simp [results,Tryz.f291,go_sem,y0,y1,y2,y3,y4]
 case stop=>
  rintro D c pre W hD hpre ⟨⟨⟨pre0,x,⟨rfl,he,hx,hy⟩,bR1⟩,bO1⟩,hB1⟩ hK
  gi_wp2
  refine ⟨by simp,.inl ⟨_,_,rfl,run_takeDeferred hK,?_⟩⟩
  have n4:w.heap.size+1≠D:=by omega
  have n5:w.heap.size+1+1≠D:=by omega
  have b8:VN (W.putObj D (.deferred none)) (w.heap.size+1) x.2:=(World.putObj_heap_other n4).trans bR1
  have b9:Boxed (W.putObj D (.deferred none)) (w.heap.size+1+1) 4 (.bool true):=(World.putObj_heap_other n5).trans bO1
  obtain ⟨y0,y1,y2,y3⟩:=b8.cells
  have y4:=b9.cell
  obtain ⟨k,hk,rfl⟩:=hpre
  obtain ⟨k',rfl⟩:∃k',k=k'+1:=by
   cases k with
   | zero=>simp [dn] at he
   | succ k'=>exact ⟨k',rfl⟩
  rw [Gz] at he
  obtain ⟨e1,e2⟩:=List.append_inj' he rfl
  have e3:x=(zs.length-1-k',WS zs (zs.length-1-k')):=(List.cons.inj e2).1.symm
  subst e3
  refine ⟨.tuple #[(WS zs (zs.length-1-k')).enc,.bool true],?_,⟨.inl ⟨k',by omega,hx,fun j hj=>hy (zs.length-1-j,WS zs (zs.length-1-j)) (e1▸List.mem_map.2 ⟨j,List.mem_range.2 hj,rfl⟩),rfl⟩,
   hB1.trans (belowK_b (w:=w) (Nat.le_refl _) W D _ _ (by omega) hK rfl rfl)⟩⟩
  simp [results,Tryz.f291,go_sem,y0,y1,y2,y3,y4,ArmV.enc]
end Go.Proofs
end
namespace Go.Abs
open Go.Proofs
theorem OU {v:Int}:∀{am:List YL} {i:Nat} {a:YL},am[i]? = some a->a.mat=v->(∀j b,i<j->am[j]? = some b->b.mat≠v)->Ud am v=some a
 | [],_,_,h,_,_=>by simp at h
 | x::r,0,a,h,hm,hl=>by
  simp at h
  subst h
  have:Ud r v=none:=CY fun b hb=>by
   obtain ⟨j,hj⟩:=Dv hb
   exact hl (j+1) b om (by simpa using hj)
  rw [Ud,this]
  simp [hm]
 | x::r,i+1,a,h,hm,hl=>by
  have:Ud r v=some a:=OU (by simpa using h) hm fun j b hj hb=>hl (j+1) b om (by simpa using hb)
  rw [Ud,this]
def Ld (w:World) (G:ZE) (b o:Nat) (a:YL) (z:ArmV):Prop:=
 w.cell? ⟨b,o,none⟩=some (.int .i64 z.m)/\w.cell? ⟨b,o+1,none⟩=some (.int .i64 z.f)/\w.cell? ⟨b,o+2,none⟩=some (.slice z.sa z.sl z.sc)/\w.cell? ⟨b,o+3,none⟩=some (.bool z.c) /\
  z.m=a.mat/\z.f=a.fst/\z.c=a.chg/\RV w G (Ze a.fds) (.slice z.sa z.sl z.sc)/\G b o
theorem Zax {w:World} {G:ZE} {es:List AV} {hv:Option Value} {u:Value} (h:RV w G (.sl es hv) u):∃a l c,u=.slice a l c:=by
 cases h with
 | nil _=>exact ⟨_,_,_,rfl⟩
 | sl _ _ _=>exact ⟨_,_,_,rfl⟩
theorem SM {w:World} {G:ZE} {b o:Nat} {a:YL} (h:Xi w G b o (Oc a)):∃z,Ld w G b o a z:=by
 cases h with
 | cons c0 g0 r0 t=>cases t with
  | cons c1 _ r1 t=>cases t with
   | cons c2 _ r2 t=>cases t with
    | cons c3 _ r3 t=>
     have e0:=r0.val_inv;subst e0
     have e1:=r1.val_inv;subst e1
     have e3:=r3.val_inv;subst e3
     have hs:∃sa sl sc,∃u,u=Value.slice sa sl sc/\w.cell? ⟨b,o+2,none⟩=some u/\RV w G (Ze a.fds) u:=by
      obtain ⟨sa,sl,sc,e⟩:=Zax r2
      exact ⟨sa,sl,sc,_,e,c2,r2⟩
     obtain ⟨sa,sl,sc,u,rfl,c2',r2'⟩:=hs
     exact ⟨⟨a.mat,a.fst,sa,sl,sc,a.chg⟩,c0,c1,c2',c3,rfl,rfl,rfl,r2',g0⟩
theorem LQ {w:World} {G:ZE} {b k:Nat}:∀{o:Nat} {am:List YL},XN w G k b o (Wp am)->∃zs:List ArmV,zs.length=am.length/\∀(j:Nat) a,am[j]? = some a->Ld w G b (o+j*4) a (WS zs j)
 | _,[],_=>⟨[],rfl,fun j a h=>by simp at h⟩
 | o,x::r,.cons hl h t=>by
  have hk:4=k:=hl
  subst hk
  obtain ⟨z,hz⟩:=SM h
  obtain ⟨zs,hlen,hzs⟩:=LQ t
  refine ⟨z::zs,by simp [hlen],fun j a hj=>?_⟩
  cases j with
  | zero=>simp at hj;subst hj;simpa [WS] using hz
  | succ j=>
   have:=hzs j a (by simpa using hj)
   rw [show o+(j+1)*4=o+4+j*4 by omega]
   simpa [WS] using this
theorem SO (am:List YL) (v:Int) (hal:am.length<=1000000000):Wg Tryz.prog 291 [YO am,.i v] [] (fun r h=>(∃(a:YL),r=.tup [.agg [.i a.mat,.i a.fst,Ze a.fds,.b a.chg],.b true]/\h=[]/\Ud am v=some a)∨(r=.tup [.agg [.i 0,.i 0,ZV [] (.slice none 0 0),.b false],.b false]/\h=[]/\Ud am v=none)):=by
 intro w G vs ha hh
 obtain ⟨u,rfl,hu⟩:∃u,vs=[u,.int .i64 v]/\RV w G (YO am) u:=by
  cases ha with
  | cons h1 t=>cases t with
   | cons h2 t=>cases t;have:=h2.val_inv;subst this;exact ⟨_,rfl,h1⟩
 obtain ⟨zs,hlen,hat,hav,hrel⟩:∃zs:List ArmV,zs.length=am.length/\AE w.heap.size w u zs/\(∃a l c,u=.slice a l c)/\∀(j:Nat) a,am[j]? = some a->(WS zs j).m=a.mat/\(WS zs j).f=a.fst/\(WS zs j).c=a.chg/\RV w G (Ze a.fds) (.slice (WS zs j).sa (WS zs j).sl (WS zs j).sc):=by
  have hu':RV w G (.sl (Wp am) none) u:=hu
  generalize hes:Wp am=es at hu'
  cases hu' with
  | nil _=>
   cases am with
   | nil=>exact ⟨[],rfl,.inl ⟨_,_,rfl,rfl⟩,⟨_,_,_,rfl⟩,fun j a h=>by simp at h⟩
   | cons _ _=>simp [Wp] at hes
  | @sl _ _ b o k cap _ hc hm=>
   subst hes
   obtain ⟨zs,hlen,hzs⟩:=LQ hm
   have hel:(Wp am).length=zs.length:=by simp [Wp,hlen]
   refine ⟨zs,hlen,?_,⟨_,_,_,rfl⟩,fun j a hj=>by obtain ⟨_,_,_,_,q1,q2,q3,q4,_⟩:=hzs j a hj;exact ⟨q1,q2,q3,q4⟩⟩
   cases am with
   | nil=>exact .inl ⟨_,_,rfl,List.eq_nil_of_length_eq_zero hlen⟩
   | cons x r=>
    refine .inr ⟨b,o,cap,by rw [hel],hh.lt b _ (hzs 0 x rfl).2.2.2.2.2.2.2.2,fun j hj=>?_⟩
    have hj2:j<(x::r).length:=by omega
    obtain ⟨q0,q1,q2,q3,_⟩:=hzs j _ (Qu hj2)
    exact ⟨q0,q1,q2,q3⟩
 refine (callsIn_wide.1 (Z8f Fence.wide 6 trivial trivial trivial rfl om v u zs om w hav hat)).mono ?_
 rintro e W' ⟨hres,hB⟩
 have hA:Vu G w W' G:=⟨fun b o hg=>hB.cell (p:=⟨b,o,none⟩) (hh.lt b o hg),fun _ _ h=>h⟩
 have hH:ZW W' G []:=⟨(fun r hr=>by cases hr),List.Pairwise.nil,(fun r hr=>by cases hr),fun b o hg=>Bj (hh.lt b o hg) hB.size⟩
 have hX:Yr w G [] W' G []:=⟨hB.os,hB.tape,hB.output,hB.size,fun _ _ h=>h,fun b hb=>.inl (hB.block b hb),fun _ _ _ h=>.inl h,fun _ _ _ h=>h⟩
 have hmn:∀j,j<zs.length->∃a,am[zs.length-1-j]? = some a:=fun j hj=>⟨_,Qu om⟩
 rcases hres with ⟨k,hk,hm,hlt,rfl⟩|⟨hno,rfl⟩
 ·obtain ⟨a,hga⟩:=hmn k hk
  obtain ⟨q1,q2,q3,q4⟩:=hrel _ a hga
  have hof:Ud am v=some a:=OU hga (q1▸hm) fun j b hj hb=>by
   have hjl:=(XZ.1 hb).1
   have:=hlt (zs.length-1-j) om
   rw [show zs.length-1-(zs.length-1-j)=j by omega,(hrel j b hb).1] at this
   exact this
  refine ⟨_,.tup [.agg [.i a.mat,.i a.fst,Ze a.fds,.b a.chg],.b true],[],G,rfl,.inl ⟨a,rfl,rfl,hof⟩,?_,hH,hX⟩
  refine .tup (.cons (.agg (cs:=[_,_,_,_]) (.cons ?_ (.cons ?_ (.cons (q4.mono hA) (.cons ?_ .nil))))) (.cons .val .nil))
  ·rw [q1];exact .val
  ·rw [q2];exact .val
  ·rw [q3];exact .val
 ·have hof:Ud am v=none:=CY fun a ha=>by
   obtain ⟨j,hj⟩:=Dv ha
   have hjl:=(XZ.1 hj).1
   have:=hno (zs.length-1-j) om
   rw [show zs.length-1-(zs.length-1-j)=j by omega,(hrel j a hj).1] at this
   exact this
  refine ⟨_,.tup [.agg [.i 0,.i 0,ZV [] (.slice none 0 0),.b false],.b false],[],G,rfl,.inr ⟨rfl,rfl,hof⟩,?_,hH,hX⟩
  exact .tup (.cons (.agg (cs:=[_,_,_,_]) (.cons .val (.cons .val (.cons (.nil (fun x hx=>(Ti hx).symm)) (.cons .val .nil))))) (.cons .val .nil))
theorem FZ (b:Nat) (ga:Hd) (gb:Hd) (gc:Hd) (n:Zl) (L:WH) (ln:LI) (am:List YL) (x:Zh) (mm:Nat) (hlk:W9 L:=by exact ob) (hlb:L.vars.length<=1000000000:=by exact ob) (hm:mm<=L.vars.length:=by exact ob) (hr:0<=x.result/\x.result<L.vars.length:=by exact ob) (hq:∀y∈L.own,-999999999<=y/\y<=1000000000):Za 160 [.p b 0,YC x,.i mm] [.obj b [ZI n.decls,Yo n,Ze ln,YO am,.h ga,.h gb,.h gc],rV ga L.vars,rV gb L.own,rV gc L.tok] (fun r h=>(r=.b true/\h=[.obj b [ZI n.decls,Yo n,Ze ln,YO am,.h ga,.h gb,.h gc],rV ga ((XG L x.result).vars),rV gb ((XG L x.result).own),rV gc ((XG L x.result).tok)]/\VH mm x.result L=some ((XG L x.result).take mm))∨(r=.b false/\h=[]/\VH mm x.result L=none)):=by
 have hlk0:=hlk
 obtain ⟨e1,e2,e3,e4,e5⟩:=hlk0
 have d1:(Xc L x.result).own.length=L.own.length:=Qv
 have d2:(Xc L x.result).tok.length=L.tok.length:=rfl
 have d3:(Xc L x.result).vars.length=L.vars.length:=rfl
 refine Zx 52 Tryz.func160 (ar (iA (Vz x) fun b1=>Z0 (aq (aD 16 (Y7 10 16 [0,1,2,3,4,5] [1,0] (dx 6 (XB 2 ga L.vars x.result x.result.toNat (hq:=rfl)) ?_))))))
 obtain ⟨x1,Z2⟩:=Zv L.vars x.result.toNat om
 have hgv:=Vo Z2
 refine Qh 7 (WQ 2 ga L.vars x.result.toNat x1 Z2) (Zm 6 8 [8,9] (db (b:=(x1 != 0)) 17 (fun Zb=>?_) (fun Zb=>?_)))
 ·have Ya:x1≠0:=(ZO).1 Zb
  refine Y7 3 6 [10,11,12] [0] (ZF 13 (XY 13 [1,1,1,1] [] [] (DG b ga gb gc n L ln am x.result (hq:=(fun y hy=>by have:=hq y hy;omega))) (Zm 0 2 [14,15] (de (ac (!decide (1<=gI L.own x.result)) (p:=¬(decide (1<=gI L.own x.result)=true)) (Yi Iff.rfl) (fun Z5=>?_) (fun Z5=>?_))))))
  ·exact ar (Z7 (r1 [] (.inr ⟨rfl,rfl,(Z31 (by rw [hgv];exact Ya) (fun q=>Z5 (decide_eq_true q)))⟩)))
  refine ak (Yj (ab 0 (ZR (fun fz gz m F h=>∃(k:Nat),(mm<=k/\k<=L.vars.length)/\(WF ((Xc L x.result).own.drop k) ((Xc L x.result).tok.drop k)=WF ((Xc L x.result).own.drop mm) ((Xc L x.result).tok.drop mm))/\F=sF [0] fz [(7,.i k)]/\h=[Zy gz 0,Zy gz 1,Zy gz 2,Zy gz 3]/\m=L.vars.length-k) _ _ _ ⟨mm,om,ob,rfl,rfl,rfl⟩ (Y1 4 fl) ?_)))
  rintro m F h ⟨k,ZX,Z9,rfl,rfl,rfl⟩
  refine Ym 5 [0] (Zg (KN 1 ga ((Xc L x.result).vars)) (ZN ((k:Int)<((((Xc L x.result).vars).length:Nat):Int)) (fun Zd=>?_) (fun Zd=>?_)))
  ·refine ak (aq (ab 1 (ZB 5 [0] (Zg (XB 2 gb ((Xc L x.result).own) (k:Int) k) ?_))))
   obtain ⟨x2,Zt⟩:=Zv ((Xc L x.result).own) k om
   refine Xu (WQ 2 gb ((Xc L x.result).own) k x2 Zt) (Z1 2 (ib (b:=(x2 != 0)) 42 (fun ZD=>?_) (fun ZD=>?_)))
   ·have YT:x2≠0:=(ZO).1 ZD
    refine Z0 (W4 (Zf ?_))
    have hE:XG L x.result=Xc L x.result:=Z6 (by rw [hgv];exact Ya)
    obtain ⟨y,hy⟩:=Zv ((Xc L x.result).tok) k om
    exact ZG (r1 [] (.inr ⟨rfl,rfl,(E9 (by rw [hE];exact Fs Zt hy (.inl YT) Z9))⟩))
   have Xy:¬(x2≠0):=ZZ ZO ZD
   refine Y3 5 [0] (Zg (XB 3 gc ((Xc L x.result).tok) (k:Int) k) ?_)
   obtain ⟨x3,YW⟩:=Zv ((Xc L x.result).tok) k om
   refine Xu (WQ 3 gc ((Xc L x.result).tok) k x3 YW) (ZN (x3>=0) (fun Zw=>?_) (fun Zw=>?_))
   ·refine Zf ?_
    have hE:XG L x.result=Xc L x.result:=Z6 (by rw [hgv];exact Ya)
    exact ZG (r1 [] (.inr ⟨rfl,rfl,(E9 (by rw [hE];exact Fs Zt YW (.inr Zw) Z9))⟩))
   exact ak (az (Z1 1 (ZK k (Z0 (ZJ ⟨k+1,ob,(by first|exact Ft Zt YW om Z9|exact Ft Te KG om Z9),rfl,rfl,rfl⟩ (Y1 4 (ZL k fl)))))))
  refine ax 0 (Zf ?_)
  have hE:XG L x.result=Xc L x.result:=Z6 (by rw [hgv];exact Ya)
  exact ZG (r1 [0,0,0,0] (.inl ⟨rfl,rfl,(N1 (fun _=>of_decide_eq_true (Wr.1 Z5)) (by rw [hE];exact S6 om Z9))⟩) (eq:=(rc (rv (xs:=(Xc L x.result).vars) (by rw [hE]) (rv (xs:=(Xc L x.result).own) (by rw [hE]) (rv (xs:=(Xc L x.result).tok) (by rw [hE]) rz))))))
 have XE:¬(x1≠0):=ZZ ZO Zb
 refine Zm 0 6 [10,11,12,13,14,15] (de (XC (ak (Yj (ab 0 (ZR (fun fz gz m F h=>∃(k:Nat),(mm<=k/\k<=L.vars.length)/\(WF (L.own.drop k) (L.tok.drop k)=WF (L.own.drop mm) (L.tok.drop mm))/\F=sF [0] fz [(7,.i k)]/\h=[Zy gz 1,Zy gz 2,Zy gz 3,Zy gz 4]/\m=L.vars.length-k) _ _ _ ⟨mm,om,ob,rfl,rfl,rfl⟩ (wk [1,1,1,1] fl) ?_))))))
 rintro m F h ⟨k,ZX,Z9,rfl,rfl,rfl⟩
 refine Ym 5 [0] (Zg (KN 1 ga L.vars) (ZN ((k:Int)<(L.vars.length:Int)) (fun Yd=>?_) (fun Yd=>?_)))
 ·refine ak (aq (ab 1 (ZB 5 [0] (Zg (XB 2 gb L.own (k:Int) k) ?_))))
  obtain ⟨x4,Te⟩:=Zv L.own k om
  refine Xu (WQ 2 gb L.own k x4 Te) (Z1 2 (ib (b:=(x4 != 0)) 42 (fun Yn=>?_) (fun Yn=>?_)))
  ·have VO:x4≠0:=(ZO).1 Yn
   refine Z0 (W4 (Zf ?_))
   have hE:XG L x.result=L:=Z4 (by rw [hgv];exact XE)
   obtain ⟨y,hy⟩:=Zv L.tok k om
   exact ZG (r1 [] (.inr ⟨rfl,rfl,(E9 (by rw [hE];exact Fs Te hy (.inl VO) Z9))⟩))
  have Up:¬(x4≠0):=ZZ ZO Yn
  refine Y3 5 [0] (Zg (XB 3 gc L.tok (k:Int) k) ?_)
  obtain ⟨x5,KG⟩:=Zv L.tok k om
  refine Xu (WQ 3 gc L.tok k x5 KG) (ZN (x5>=0) (fun Xm=>?_) (fun Xm=>?_))
  ·refine Zf ?_
   have hE:XG L x.result=L:=Z4 (by rw [hgv];exact XE)
   exact ZG (r1 [] (.inr ⟨rfl,rfl,(E9 (by rw [hE];exact Fs Te KG (.inr Xm) Z9))⟩))
  exact ak (az (Z1 1 (ZK k (Z0 (ZJ ⟨k+1,ob,(by first|exact Ft Zt YW om Z9|exact Ft Te KG om Z9),rfl,rfl,rfl⟩ (Y1 4 (ZL k fl)))))))
 refine ax 0 (Zf ?_)
 have hE:XG L x.result=L:=Z4 (by rw [hgv];exact XE)
 exact ZG (r1 [0,0,0,0] (.inl ⟨rfl,rfl,(N1 (fun q=>absurd (by rw [<-hgv];exact q) XE) (by rw [hE];exact S6 om Z9))⟩) (eq:=(rc (rv (xs:=L.vars) (by rw [hE]) (rv (xs:=L.own) (by rw [hE]) (rv (xs:=L.tok) (by rw [hE]) rz))))))
theorem Z04 (b:Nat) (ga:Hd) (gb:Hd) (gc:Hd) (n:Zl) (L:WH) (ln:LI) (am:List YL) (i:Int) (hlk:W9 L) (hi:0<=i/\i<L.vars.length) (hq:∀x∈L.own,-1000000000<=x/\x<=1000000000):Za 214 [.p b 0,.i i] [.obj b [ZI n.decls,Yo n,Ze ln,YO am,.h ga,.h gb,.h gc],rV ga L.vars,rV gb L.own,rV gc L.tok] (fun r h=>(r=.b true/\h=[.obj b [ZI n.decls,Yo n,Ze ln,YO am,.h ga,.h gb,.h gc],rV ga ((Xc L i).vars),rV gb ((Xc L i).own),rV gc ((Xc L i).tok)]/\1<=gI L.own i)∨(r=.b false/\h=[.obj b [ZI n.decls,Yo n,Ze ln,YO am,.h ga,.h gb,.h gc],rV ga ((Xc L i).vars),rV gb ((Xc L i).own),rV gc ((Xc L i).tok)]/\¬1<=gI L.own i)):=by
 refine (DG b ga gb gc n L ln am i hlk hi hq).mono fun r h q=>?_
 obtain ⟨rfl,rfl⟩:=q
 by_cases hc:1<=gI L.own i
 ·exact .inl ⟨by rw [decide_eq_true hc],rfl,hc⟩
 ·exact .inr ⟨by rw [decide_eq_false hc],rfl,hc⟩
theorem SY (b:Nat) (ga:Hd) (gb:Hd) (gc:Hd) (n:Zl) (L:WH) (ln:LI) (am:List YL) (op:Int) (v:Int) (q:Int) (hn:YY n:=by exact ob) (hk:YI n.decls L q:=by exact ob) (har:Wx n.decls L am:=by exact ob) (hln:ln.length<=4294967296:=by exact ob) (hal:am.length<=1000000000:=by exact ob) (hlb:L.vars.length<=1000000000:=by exact ob) (hi:0<=v/\v<L.vars.length:=by exact ob) (hq:0<=q/\q<=999999980:=by exact ob):Za 248 [.p b 0,.i op,.i v] [.obj b [ZI n.decls,Yo n,Ze ln,YO am,.h ga,.h gb,.h gc],rV ga L.vars,rV gb L.own,rV gc L.tok] (fun r h=>(∃(L':WH),r=.b true/\h=[.obj b [ZI n.decls,Yo n,Ze ln,YO am,.h ga,.h gb,.h gc],rV ga L'.vars,rV gb L'.own,rV gc L'.tok]/\Qe n ln L op v=some L')∨(r=.b false/\h=[]/\Qe n ln L op v=none)):=by
 have hlk:=hk.len
 obtain ⟨e1,e2,e3,e4,e5⟩:=hk.len
 have Ws:=hn.decls
 obtain ⟨xo,hxo⟩:=Zv L.own v.toNat om
 have hgo:=Vo hxo
 obtain ⟨xt,hxt⟩:=Zv L.tok v.toNat om
 have hgt:=Vo hxt
 have hob:=hk.bd xo (YA hxo)
 have hon:=hk.nn xo (YA hxo)
 have d1:(Xc L v).own.length=L.own.length:=Qv
 have d2:(Xc L v).tok.length=L.tok.length:=rfl
 have d3:(Xc L v).vars.length=L.vars.length:=rfl
 refine Zx 91 Tryz.func248 (Zf (Yj (ab 0 (ar (Yt (op==14) Zr (fun Z5=>?_) (fun Z5=>?_))))))
 ·refine Y8 2 (ZC [0,0,0,0] (FY b ga gb gc _ L ln am v ob ob ob ob ob hk.down ob) (Yt (!XV L ln v) (p:=¬(XV L ln v=true)) (Yi Iff.rfl) (fun Zd=>?_) (fun Zd=>?_)))
  ·exact ar (Z7 (r1 [] (.inr ⟨rfl,rfl,(Z16 Z5 Zd)⟩)))
  exact ak (ZB 5 [0] (Zg (XB 2 gb L.own v v.toNat (hq:=rfl)) (Xu (WQ 2 gb L.own v.toNat xo hxo) (ia ((xo+1)) ((xo)+(1)) (Zg (XB 2 gb L.own v v.toNat (hq:=rfl)) (BL 2 gb L.own v.toNat (xo+1) (ie (ar (Z7 (r1 [1,1,0,0] (.inl ⟨(Zc.mk L.vars (L.own.set v.toNat (xo+1)) L.par L.con L.fst L.tok),rfl,rfl,(Z17 Z5 (Wr.1 Zd) hgo)⟩) (eq:=(rc (rv (xs:=L.vars) ob (rv (xs:=(L.own.set v.toNat (xo+1))) ob (rv (xs:=L.tok) ob rz)))))))))))))))
 refine ar (Yt (op==15) Zr (fun Zw=>?_) (fun Zw=>?_))
 ·refine ZM 2 (ic [0,0,0,0] (Z04 b ga gb gc n L ln am v ob ob (fun y hy=>by have h1:=hk.nn y hy;have h2:=hk.bd y hy;omega)) ?_)
  rintro _ _ (⟨rfl,rfl,Ya⟩|⟨rfl,rfl,YT⟩)
  ·exact Z7 (r1 [0,0,0,0] (.inl ⟨(Xc L v),rfl,rfl,(Z19 Zw Ya)⟩))
  exact Z7 (r1 [] (.inr ⟨rfl,rfl,(Z18 Zw YT)⟩))
 refine ak (ZB 5 [0] (ic [] (SO am v ob) ?_))
 rintro _ _ (⟨a1,rfl,rfl,Xy⟩|⟨rfl,rfl,XE⟩)
 ·have hof:=Xy
  have hmem:=(OV hof).1
  have hrg:=har.rng _ hmem
  have hO:=(Mt (n:=n) (ln:=ln) Z5 Zw).trans (Z90 (op:=op) har hi hof hgt)
  have hfl:a1.fds.length<=3:=by
   have h:=har.off v hi.1 hi.2
   rw [hof] at h
   rw [h.2.2]
   exact TU Ws _
  have hhl:=Ns a1.fds a1.fst
  refine Z1 3 (iA [.i 0,.i 0,nl,.b false] fun b1=>Y0 0 b1 [.i a1.mat,.i a1.fst,Ze a1.fds,.b a1.chg] (Z0 (Y8 5 (ZC [1,1,1,1] (DG b ga gb gc n L ln am v (hlk:=hlk) (hq:=(fun y hy=>by have h1:=hk.nn y hy;have h2:=hk.bd y hy;omega))) (W7 [0,1,2,7] [(62,.b ((!decide (1<=gI L.own v))||((op==17)&&(decide (xt>=0)))))] (fun gz=>gz) ?_ ?_)))))
  ·refine Z1 3 (ib (b:=(!decide (1<=gI L.own v))) 49 (fun Zb=>?_) (fun Zb=>?_))
   ·have VO:¬(decide (1<=gI L.own v)=true):=((Yi Iff.rfl)).1 Zb
    exact Z0 (Y1 5 (Zp true Zb fl))
   have Up:¬(¬(decide (1<=gI L.own v)=true)):=ZZ (Yi Iff.rfl) Zb
   refine Z1 3 (ib (b:=(op==17)) 52 (fun ZD=>?_) (fun ZD=>?_))
   ·have UV:op=17:=(Zr).1 ZD
    exact Y3 5 [0] (Zg (XB 3 gc ((Xc L v).tok) v v.toNat (hq:=rfl)) (Xu (WQ 3 gc ((Xc L v).tok) v.toNat xt hxt) (Z0 (Y1 5 (Zp (decide (xt>=0)) (And.intro Zb ZD) fl)))))
   have Td:¬(op=17):=ZZ Zr ZD
   exact Z0 (Y1 5 (Zp false (And.intro Zb ZD) fl))
  refine ac ((!decide (1<=gI L.own v))||((op==17)&&(decide (xt>=0)))) (p:=(¬(decide (1<=gI L.own v)=true))∨((op=17)/\(xt>=0))) (Yg (Yi Iff.rfl) (Yy Zr dq)) (fun Yd=>?_) (fun Yd=>?_)
  ·exact ar (Z7 (r1 [] (.inr ⟨rfl,rfl,(by rw [hO,Z6 (Yd.imp (fun h g=>h (decide_eq_true g)) id)])⟩)))
  have hG:¬(¬1<=gI L.own v∨(op=17/\xt>=0)):=fun z=>Yd (z.imp (fun h g=>h (of_decide_eq_true g)) id)
  have hbd:=Z22 hk (Wr.1 fun z=>hG (.inl z)) hi
  refine ak (Ym 1 [4] (ZC [] (Z4y a1) (io (.i (((VI a1.fds a1.fst).length:Nat):Int)) (.i (((Zi (VI a1.fds a1.fst)).length:Nat):Int)) (li (by rw [Yk])) (Z0 (ab 1 (ZR (fun fz gz m F h=>∃(k:Nat) (o:LI),(k<=(VI a1.fds a1.fst).length)/\(o.length=L.vars.length)/\(∀y∈o,0<=y/\y<=q+k)/\(Br o ((VI a1.fds a1.fst).drop k)=UJ (Xc L v).own a1.fst a1.fds)/\F=sF [0,1,2,7,64,65] fz [(66,.i k)]/\h=[Zy gz 0,Zy gz 1,rV gb o,Zy gz 3,Zy gz 4]/\m=(VI a1.fds a1.fst).length-k) _ _ _ ⟨0,(Xc L v).own,ob,ob,(fun y hy=>by have:=hbd y hy;omega),(by rw [TM];exact Z0c),rfl,rfl,rfl⟩ (Y1 5 (ZT fl)) ?_))))))
  rintro m F h ⟨k,o,ZX,Z9,Zz,Y5,rfl,rfl,rfl⟩
  refine Zf (aq (Xf ((k:Int)<(((VI a1.fds a1.fst).length:Nat):Int)) (fun Xm=>?_) (fun Xm=>?_)))
  ·refine ak (aq (ab 2 (ar ?_)))
   obtain ⟨x1,Z2⟩:=Zv (VI a1.fds a1.fst) k om
   have hfm:=H9 (YA Z2)
   refine Zg (Zq none (k:Int) 1 (Yc Z2)) (Z0 (az (Y3 5 [0] (Zg (XB 2 gb o x1 x1.toNat (hq:=rfl)) ?_))))
   obtain ⟨x2,Zt⟩:=Zv o x1.toNat om
   have hy2:=Zz _ (YA Zt)
   have hgx:=Vo Zt
   exact Xu (WQ 2 gb o x1.toNat x2 Zt) (ia ((x2+1)) ((x2)+(1)) (Zg (XB 2 gb o x1 x1.toNat (hq:=rfl)) (BL 2 gb o x1.toNat (x2+1) (ie (az (ZK k (Z0 (ZJ ⟨k+1,(o.set x1.toNat (x2+1)),ob,(by simp [Z9]),(by intro y hy;rcases QK hy with hy|rfl<;>first|(have:=Zz y hy;omega)|omega),(Z0d Z2 hgx Y5),rfl,rfl,rfl⟩ (wk [1,1,0,0,0] (ZL k fl))))))))))
  refine ax 1 (Yq (Yt (op==17) Zr (fun Wc=>?_) (fun Wc=>?_)))
  ·refine aE 10 (Y7 3 10 [0,1,2,3,4,5,6] [0,4] (dw 7 (Yk a1.fds) (dx 8 (XB 3 gc ((Xc L v).tok) v v.toNat (hq:=rfl)) (ZF 9 (Jn 9 3 [] [] gc ((Xc L v).tok) v.toNat (a1.fds.length:Int) (de (Zf ?_)))))))
   have hE:=M6 om Y5
   exact ZG (r1 [1,1,1,0] (.inl ⟨(Zc.mk L.vars o L.par L.con L.fst (L.tok.set v.toNat a1.fds.length)),rfl,rfl,(by rw [hO,Z4 hG,Z6 Wc,hE];rfl)⟩) (eq:=(rc (rv (xs:=(Xc L v).vars) ob (rv (xs:=o) ob (rv (xs:=(((Xc L v).tok).set v.toNat (a1.fds.length:Int))) ob rz))))))
  refine ak (Zf ?_)
  have hE:=M6 om Y5
  exact ZG (r1 [0,0,0,0] (.inl ⟨(Zc.mk L.vars o L.par L.con L.fst L.tok),rfl,rfl,(by rw [hO,Z4 hG,Z4 Wc,hE];rfl)⟩) (eq:=(rc (rv (xs:=(Xc L v).vars) ob (rv (xs:=o) ob (rv (xs:=(Xc L v).tok) ob rz))))))
 exact Z1 3 (iA [.i 0,.i 0,nl,.b false] fun b2=>Y0 0 b2 [.i 0,.i 0,ZV [] (.slice none 0 0),.b false] (Z0 (Yj (W4 (ar (Z7 (r1 [] (.inr ⟨rfl,rfl,((Mt (n:=n) (ln:=ln) Z5 Zw).trans (Z91 har hi XE))⟩))))))))
end Go.Abs
section
namespace Go.Proofs
open Go.Shelf Go.RowKit Go.Lib
section
variable {P:Program}
theorem Ze8 (w:World) {o:Oper} {a:Act} {K:Act→World→Prop} {Q:Exit→Act→World→Prop} (d s:Operand) (t t':TypeId)
  (ho:o.op=.call { callee:=.builtin .copy,args:=#[d,s],argTypes:=#[t,t'] }) (v u:Value) (hd:a.eval d=v) (hs:a.eval s=u) {v':Value} {w':World}
  (hr:(Builtin.copy_ #[t,t'] o.type #[v,u]).run P w=.ok v' w') (h:K (a.put o.dst v') w'):o.wp P a w K Q:=by
 unfold Oper.wp execOp
 simp only [ho,resolve,invoke,builtin,Sem.run_bind,Sem.run_pure,Result.andThen_ok,List.map_toArray,List.map_cons,List.map_nil,hd,hs,hr]
 exact h
theorem L7 (w:World) {ops:Array Oper} {rest:List Oper} {o:Oper} {a:Act} {Q:Exit→Act→World→Prop} (hgd:o.guard=none) (d s:Operand) (t t':TypeId)
  (ho:o.op=.call { callee:=.builtin .copy,args:=#[d,s],argTypes:=#[t,t'] }) (v u:Value) (hd:a.eval d=v) (hs:a.eval s=u) {v':Value} {w':World}
  (hr:(Builtin.copy_ #[t,t'] o.type #[v,u]).run P w=.ok v' w') (h:wpList P ops Q rest (a.put o.dst v') w'):wpList P ops Q (o::rest) a w:=
 wpList_plain hgd fun _ hK=>Ze8 w d s t t' ho v u hd hs hr (hK _ _ h)
theorem Rs {ops:Array Oper} {o:Oper} {a:Act} {w:World} {K:Act→World→Prop} {Q:Exit→Act→World→Prop} {E:Prop}
  (hg:o.guard=none) (d x:Operand) (dT sT:TypeId) (hop:o.op=Op.call { callee:=Callee.builtin Builtin.copy,args:=#[d,x],argTypes:=#[dT,sT] })
  (v u:Value) (hd:a.eval d=v) (hx:a.eval x=u) {v':Value} {w':World} (hr:(Builtin.copy_ #[dT,sT] o.type #[v,u]).run P w=.ok v' w') (hK:K (a.put o.dst v') w') :
  if Region.wanted o (yielded ops a.tmps)=true then Oper.wp P o a w K Q else E:=by
 have hw:Region.wanted o (yielded ops a.tmps)=true:=by simp [Region.wanted,hg]
 rw [if_pos hw]
 unfold Oper.wp
 simp [execOp,hop,resolve,invoke,builtin,hd,hx,hr,Result.andThen]
 exact hK
theorem Ey (b:Nat) (vs:List Value) (o:Nat) (w:World) (h:∀j,j<vs.length→(w.cell? ⟨b,o+j,none⟩).isSome=true) (k:Nat) (hk:(w.cell? ⟨b,k,none⟩).isSome=true):((w.setCells b o vs).cell? ⟨b,k,none⟩).isSome=true:=by
 by_cases hin:o≤k∧k<o+vs.length
 ·have:=World.cell?_setCells_in b vs o w h (k-o) (by omega)
  rw [show o+(k-o)=k by omega] at this
  rw [this];rfl
 ·rw [World.cell?_setCells_out b vs o w ⟨b,k,none⟩ (fun _ _=>by show k<o∨o+vs.length≤k;omega)]
  exact hk
end
theorem i3:(Tryz.prog.info? 3).map (fun i=>(i.zero,i.size,i.bytes))=some (some (Value.int IntKind.i64 0),1,8):=by kernel_rfl
theorem z3 (w:World):(Go.sizeOf 3).run Tryz.prog w=.ok 1 w:=by
 obtain ⟨i0,hi0,h0,h1,h2⟩:=info_parts i3
 have e:=run_sizeOf (P:=Tryz.prog) w hi0
 rwa [show Tryz.prog.cellsOf 3=1 by kernel_rfl] at e
set_option maxHeartbeats 4000000 in
set_option maxRecDepth 100000 in
theorem Z6c (b off n c i vb voff m vc:Nat) (cs vs:List Value) (w:World) (hi:i<n) (hm:0<m) (hroom:n+m≤c) (hc63:n+m≤9223372036854775807) (hvb:vb≠b)
  (hcl:cs.length=n) (hvl:vs.length=m)
  (hcs:∀j v,cs[j]? = some v→w.cell? ⟨b,off+j,none⟩=some v) (hsp:∀j,j<n+m→(w.cell? ⟨b,off+j,none⟩).isSome=true) (hfz:∀j,j<n+m→w.frozen? ⟨b,off+j,none⟩=false)
  (hvs:∀j v,vs[j]? = some v→w.cell? ⟨vb,voff+j,none⟩=some v) (h1c:∀v∈cs,v.oneCell'=true) (h1v:∀v∈vs,v.oneCell'=true)
  (tA tB:TypeId) (kA kB:Nat) (hsa:w.shape? vb=some (tA,kA)) (hsb:w.shape? b=some (tB,kB)) (hkB:kB≠0) (hfa:w.frozen? ⟨vb,voff,none⟩=false) (hfe:w.frozen? ⟨vb,kA,none⟩=false) :
  Calls Tryz.prog 345 #[.slice (some ⟨b,off,none⟩) n c,.int .i64 i,.slice (some ⟨vb,voff,none⟩) m vc] w fun e w'=>
   e=.returned (.slice (some ⟨b,off,none⟩) (n+m) c)∧w'=(w.drew.setCells b (off+(i+m)) (cs.drop i)).setCells b (off+i) vs:=by
 have mixed:Tryz.prog.follows .mixedOrders=true:=by kernel_rfl
 have hz1:¬((m:Int)=0):=by omega
 have hz2:¬((i:Int)=(n:Int)):=by omega
 have hsz:(Tryz.prog.info? 3).map (·.size)=some 1:=by
  obtain ⟨i0,hi0,h0,h1,h2⟩:=info_parts i3
  rw [hi0];simp [h1]
 have hov:∀lb cb,(callFunc 359 #[.slice (some ⟨vb,voff,none⟩) m vc,.slice (some ⟨b,off+(i+m),none⟩) lb cb]).run Tryz.prog w=.ok (.value (.bool false)) w:=fun lb cb=>by
  rw [run_callFunc_extern Tryz.func359 (by kernel_rfl) (by kernel_rfl) (by kernel_rfl) (e:=Extern.SlicesOverlaps.overlaps #[23,23] #[4]) (by kernel_rfl),
   Lib.run_overlaps_apart w 23 4 3 Tryz.underlying23 1 z3 ⟨vb,voff,none⟩ ⟨b,off+(i+m),none⟩ m vc lb cb hvb tA tB kA kB hsa hsb hkB hfa hfe]
  rfl
 have hdl:(cs.drop i).length=n-i:=by rw [List.length_drop,hcl]
 have hw1:IntKind.i64.wrap ((i:Int)+(m:Int))=(i:Int)+(m:Int):=by rw [IntKind.wrap_i64];omega
 have hb1:(0:Int)≤(i:Int)+(m:Int):=by omega
 have hin:i≤n:=by omega
 have htn:((i:Int)+(m:Int)).toNat=i+m:=by omega
 have hb2:¬(c=i+m):=by omega
 have hb3:(i:Int)≤(n:Int)+(m:Int):=by omega
 have hb4:¬(c=i):=by omega
 have hcp1:∀ty dc sc,(Builtin.copy_ #[317,317] ty #[.slice (some ⟨b,off+(i+m),none⟩) (n+m-(i+m)) dc,.slice (some ⟨b,off+i,none⟩) (n+m-i) sc]).run Tryz.prog w.drew=.ok (goInt (cs.drop i).length) (w.drew.setCells b (off+(i+m)) (cs.drop i)):=fun ty dc sc=>
  run_copy_cells w.drew _ _ ty 3 b (off+(i+m)) (n+m-(i+m)) dc ⟨b,off+i,none⟩ (n+m-i) sc (cs.drop i) Tryz.underlying317 hsz (by rw [hdl];simp only [Nat.min_def];split<;>omega)
   (fun j v hj=>by rw [Addr.add_lit,Nat.add_assoc];exact hcs (i+j) v (by rwa [List.getElem?_drop] at hj))
   (fun j hj=>by rw [Nat.add_assoc];exact hsp _ (by omega)) (fun j hj=>by rw [Nat.add_assoc];exact hfz _ (by omega)) (fun v hv=>h1c v (List.mem_of_mem_drop hv))
 obtain ⟨W1,hW1⟩:∃W1,W1=w.drew.setCells b (off+(i+m)) (cs.drop i):=⟨_,rfl⟩
 have hsp1:∀k,k<n+m→(W1.cell? ⟨b,off+k,none⟩).isSome=true:=fun k hk=>by
  rw [hW1]
  exact Ey b _ _ _ (fun j hj=>by rw [Nat.add_assoc];exact hsp _ (by omega)) _ (hsp k hk)
 have hcp2:∀(W:World),(∀x,W.cell? x=W1.cell? x)→(∀x,W.frozen? x=W1.frozen? x)→∀ty dc,(Builtin.copy_ #[317,23] ty #[.slice (some ⟨b,off+i,none⟩) (n+m-i) dc,.slice (some ⟨vb,voff,none⟩) m vc]).run Tryz.prog W=.ok (goInt vs.length) (W.setCells b (off+i) vs):=fun W hWc hWf ty dc=>
  run_copy_cells W _ _ ty 3 b (off+i) (n+m-i) dc ⟨vb,voff,none⟩ m vc vs Tryz.underlying317 hsz (by rw [hvl];simp only [Nat.min_def];split<;>omega)
   (fun j v hj=>by
    rw [Addr.add_lit,hWc,hW1,World.cell?_setCells_out b _ _ _ _ (fun h _=>absurd h hvb)]
    exact hvs j v hj)
   (fun j hj=>by rw [hWc,Nat.add_assoc];exact hsp1 _ (by omega)) (fun j hj=>by rw [hWf,hW1,World.frozen?_setCells,Nat.add_assoc];exact hfz _ (by omega)) h1v
 rw [←hW1] at hcp1
 go_enter Tryz.func345,Tryz.ntmps345
 go_wp2_with (simp only [hov])
 go_region_law_o (refine Rs rfl _ _ 317 317 rfl _ _ (by simp [Act.eval,Act.put]) (by simp [Act.eval,Act.put]) (hcp1 _ _ _) ?_)
 go_wp2_with (at_builtin;refine L7 _ rfl _ _ 317 23 rfl _ _ rfl rfl (hcp2 _ (fun _=>rfl) (fun _=>rfl) _ _) ?_)
 go_ret
 first|exact ⟨rfl,rfl⟩|exact ⟨rfl,by rw [hW1]⟩
set_option maxHeartbeats 4000000 in
set_option maxRecDepth 100000 in
theorem Z68 (b off n c vb voff m vc:Nat) (vs:List Value) (w:World) (hm:0<m) (hroom:n+m≤c) (hc63:n+m≤9223372036854775807)
  (hvl:vs.length=m) (hsp:∀j,j<m→(w.cell? ⟨b,off+n+j,none⟩).isSome=true) (hfz:∀j,j<m→w.frozen? ⟨b,off+n+j,none⟩=false)
  (hvs:∀j v,vs[j]? = some v→w.cell? ⟨vb,voff+j,none⟩=some v) (h1v:∀v∈vs,v.oneCell'=true) :
  Calls Tryz.prog 345 #[.slice (some ⟨b,off,none⟩) n c,.int .i64 n,.slice (some ⟨vb,voff,none⟩) m vc] w fun e w'=>
   e=.returned (.slice (some ⟨b,off,none⟩) (n+m) c)∧w'=w.setCells b (off+n) vs:=by
 have mixed:Tryz.prog.follows .mixedOrders=true:=by kernel_rfl
 have hz1:¬((m:Int)=0):=by omega
 have hsrc:Src Tryz.prog 1 23 (.slice (some ⟨vb,voff,none⟩) m vc) m vs w:=Src.ofSlice w Tryz.underlying23 ⟨vb,voff,none⟩ m vc vs (by omega) (fun j u hj=>by rw [Addr.add_lit];exact hvs j u hj) h1v
 go_enter Tryz.func345,Tryz.ntmps345
 go_wp2_with (at_builtin;refine wpList_append_room1 _ rfl _ _ 317 23 rfl 3 _ _ Tryz.underlying317 i3 b off n c rfl _ rfl m vs hsrc hroom (by rw [hvl];exact hsp) (by rw [hvl];exact hfz) ?_)
 go_ret
 exact ⟨rfl,rfl⟩
set_option maxHeartbeats 4000000 in
set_option maxRecDepth 100000 in
theorem NV (base:Option Addr) (n c vb voff m vc:Nat) (cs vs:List Value) (w:World) (hm:0<m) (hnc:n≤c) (hroom:c<n+m) (hbig:(n+m)*8≤140737488355328)
  (hcl:cs.length=n) (hvl:vs.length=m) (hnil:base=none→n=0)
  (hcs:∀a,base=some a→∀j v,cs[j]? = some v→w.cell? (a.add j)=some v)
  (hvs:∀j v,vs[j]? = some v→w.cell? ⟨vb,voff+j,none⟩=some v) (h1v:∀v∈vs,v.oneCell'=true) :
  Calls Tryz.prog 345 #[.slice base n c,.int .i64 n,.slice (some ⟨vb,voff,none⟩) m vc] w fun e w'=>
   e=.returned (.slice (some ⟨w.heap.size,0,none⟩) (n+m) (grownCap w (n+m) c 3)) ∧
   w'=w.drew.alloc (.cells ((cs++vs).toArray++Builtin.zeroCells (Value.int .i64 0).cells (grownCap w (n+m) c 3-(n+m))) 3):=by
 obtain ⟨i0,hi0,hz0,hzs,hzb⟩:=info_parts i3
 have mixed:Tryz.prog.follows .mixedOrders=true:=by kernel_rfl
 have hz1:¬((m:Int)=0):=by omega
 have hsrc:Src Tryz.prog i0.size 23 (.slice (some ⟨vb,voff,none⟩) m vc) m vs w:=by
  rw [hzs]
  exact Src.ofSlice w Tryz.underlying23 ⟨vb,voff,none⟩ m vc vs (by omega) (fun j u hj=>by rw [Addr.add_lit];exact hvs j u hj) h1v
 have hold:(Builtin.firstCells i0.size n (.slice base n c)).run Tryz.prog w.drew=.ok cs.toArray w.drew:=by
  rw [hzs]
  cases base with
  | none=>
   have h0:=hnil rfl
   subst h0
   rw [List.length_eq_zero_iff.1 hcl]
   exact run_firstCells_none w.drew 1 0 0 c
  | some a=>exact run_firstCells_some w.drew 1 n a n c cs (by omega) (fun j v hj=>hcs a rfl j v hj)
 have hrun:∀ty,(Builtin.append_ #[317,23] ty #[.slice base n c,.slice (some ⟨vb,voff,none⟩) m vc]).run Tryz.prog w=_:=fun ty=>
  run_append_grow_src w 317 23 ty 3 i0 _ Tryz.underlying317 hi0 hz0 base n c cs hold _ m vs hsrc hroom (by omega) (by rw [hzb];exact growslice_fits hroom hbig)
 go_enter Tryz.func345,Tryz.ntmps345
 cases base with
 | none=>
  have h0:=hnil rfl
  subst h0
  go_wp2_with (at_builtin;refine Lib.wpList_append_run _ rfl _ _ _ _ rfl _ _ rfl rfl _ _ (hrun _) ?_)
  go_ret
  exact ⟨rfl,rfl⟩
 | some a=>
  obtain ⟨ab,ao,asp⟩:=a
  go_wp2_with (at_builtin;refine Lib.wpList_append_run _ rfl _ _ _ _ rfl _ _ rfl rfl _ _ (hrun _) ?_)
  all_goals (go_ret;exact ⟨rfl,rfl⟩)
set_option maxHeartbeats 4000000 in
set_option maxRecDepth 100000 in
theorem Z69 (b off n c i vb voff m vc:Nat) (cs vs:List Value) (w:World) (hi:i<n) (hm:0<m) (hnc:n≤c) (hroom:c<n+m) (hbig:(n+m)*8≤140737488355328)
  (hcl:cs.length=n) (hvl:vs.length=m)
  (hcs:∀j v,cs[j]? = some v→w.cell? ⟨b,off+j,none⟩=some v)
  (hvs:∀j v,vs[j]? = some v→w.cell? ⟨vb,voff+j,none⟩=some v) (h1c:∀v∈cs,v.oneCell'=true) (h1v:∀v∈vs,v.oneCell'=true) :
  Calls Tryz.prog 345 #[.slice (some ⟨b,off,none⟩) n c,.int .i64 i,.slice (some ⟨vb,voff,none⟩) m vc] w fun e w'=>
   e=.returned (.slice (some ⟨w.heap.size,0,none⟩) (n+m) (grownCap w (n+m) c 3)) ∧
   w'=(((w.alloc (.cells ((cs.take i).toArray++Builtin.zeroCells (Value.int .i64 0).cells (n+m-i)++Builtin.zeroCells (Value.int .i64 0).cells (grownCap w (n+m) c 3-(n+m))) 3)).drew.setCells w.heap.size i vs).drew).setCells w.heap.size (i+m) (cs.drop i):=by
 obtain ⟨i0,hi0,hz0,hzs,hzb⟩:=info_parts i3
 have mixed:Tryz.prog.follows .mixedOrders=true:=by kernel_rfl
 have hz1:¬((m:Int)=0):=by omega
 have hz2:¬((i:Int)=(n:Int)):=by omega
 have hz3:(c:Int)<(n:Int)+(m:Int):=by omega
 have hsz:(Tryz.prog.info? 3).map (·.size)=some 1:=by rw [hi0];simp [hzs]
 have hbw:b<w.heap.size:=block_lt_of_cell (hcs 0 _ (List.getElem?_eq_getElem (by omega)))
 have hvw:vb<w.heap.size:=block_lt_of_cell (hvs 0 _ (List.getElem?_eq_getElem (by omega)))
 have hkk:(n:Int)+(m:Int)-(i:Int)=((n+m-i:Nat):Int):=by omega
 have hik:i+(n+m-i)=n+m:=by omega
 have hold:(Builtin.firstCells i0.size i (.slice (some ⟨b,off,none⟩) i c)).run Tryz.prog w.drew=.ok (cs.take i).toArray w.drew:=by
  rw [hzs]
  exact run_firstCells_some w.drew 1 i ⟨b,off,none⟩ i c (cs.take i) (by rw [List.length_take];omega) (fun j v hj=>by
   rw [Addr.add_lit]
   rw [List.getElem?_take] at hj
   split at hj
   ·exact hcs j v hj
   ·cases hj)
 have hrz:∀ty,(Builtin.append_ #[317,3] ty #[.slice (some ⟨b,off,none⟩) i c,.int .i64 ((n:Int)+(m:Int)-(i:Int))]).run Tryz.prog w =
   .ok (.slice (some ⟨w.heap.size,0,none⟩) (n+m) (grownCap w (n+m) c 3)) (w.drew.alloc (.cells ((cs.take i).toArray++Builtin.zeroCells (Value.int .i64 0).cells (n+m-i)++Builtin.zeroCells (Value.int .i64 0).cells (grownCap w (n+m) c 3-(n+m))) 3)):=fun ty=>by
  have h:=Lib.run_append_grow_zeros w 317 3 ty 3 i0 _ .i64 .i64 Tryz.underlying317 Tryz.underlying3 hi0 hz0 (some ⟨b,off,none⟩) i c (cs.take i) hold (n+m-i) (by omega) (by omega) (by omega) (by omega) (by rw [hzb];omega) (by rw [hzb,hik];exact growslice_fits hroom hbig)
  rw [hik] at h
  rw [hkk]
  exact h
 obtain ⟨G,hG⟩:∃G,G=grownCap w (n+m) c 3:=⟨_,rfl⟩
 obtain ⟨ROW,hROW⟩:∃ROW:Array Value,ROW=(cs.take i).toArray++Builtin.zeroCells (Value.int .i64 0).cells (n+m-i)++Builtin.zeroCells (Value.int .i64 0).cells (G-(n+m)):=⟨_,rfl⟩
 rw [←hG] at hrz ⊢
 rw [←hROW] at hrz ⊢
 have hRl:n+m≤ROW.size:=by
  rw [hROW]
  simp [Builtin.zeroCells,Value.cells]
  omega
 obtain ⟨W1,hW1⟩:∃W1,W1=w.drew.alloc (.cells ROW 3):=⟨_,rfl⟩
 rw [←hW1] at hrz
 have hN:∀j,j<n+m→(W1.cell? ⟨w.heap.size,j,none⟩).isSome=true:=fun j hj=>by
  rw [hW1,World.cell?_alloc_at (w:=w.drew) ROW _ w.heap.size j rfl,Array.getElem?_eq_getElem (by omega)];rfl
 have hNf:∀j,W1.frozen? ⟨w.heap.size,j,none⟩=false:=fun j=>by rw [hW1];exact World.frozen?_alloc_at (w:=w.drew) ROW _ w.heap.size j rfl
 have hOb:∀j v,w.cell? ⟨b,j,none⟩=some v→W1.cell? ⟨b,j,none⟩=some v:=fun j v h=>by rw [hW1,World.cell?_alloc_past (w:=w.drew) _ b j hbw];exact h
 have hOv:∀j v,w.cell? ⟨vb,j,none⟩=some v→W1.cell? ⟨vb,j,none⟩=some v:=fun j v h=>by rw [hW1,World.cell?_alloc_past (w:=w.drew) _ vb j hvw];exact h
 have hcpA:∀(W:World),(∀x,W.cell? x=W1.cell? x)→(∀x,W.frozen? x=W1.frozen? x)→∀ty dc,(Builtin.copy_ #[317,23] ty #[.slice (some ⟨w.heap.size,i,none⟩) (n+m-i) dc,.slice (some ⟨vb,voff,none⟩) m vc]).run Tryz.prog W=.ok (goInt vs.length) (W.setCells w.heap.size i vs):=fun W hWc hWf ty dc=>
  run_copy_cells W _ _ ty 3 w.heap.size i (n+m-i) dc ⟨vb,voff,none⟩ m vc vs Tryz.underlying317 hsz (by rw [hvl];simp only [Nat.min_def];split<;>omega)
   (fun j v hj=>by rw [Addr.add_lit,hWc];exact hOv _ v (hvs j v hj))
   (fun j hj=>by rw [hWc];exact hN _ (by omega)) (fun j hj=>by rw [hWf];exact hNf _) h1v
 have hGn:n+m≤G:=by rw [hG];exact grownCap_ge w _ _ _
 have hG63:G≤9223372036854775807:=by
  have:=grownCap_le_maxLen w (n+m) c 3 (by unfold maxLen;omega)
  rw [←hG] at this
  unfold maxLen at this
  omega
 have hGi:¬(G=i):=by omega
 have hGim:¬(G=i+m):=by omega
 have hci:¬(c=i):=by omega
 have hbN:b≠w.heap.size:=by omega
 have hdl:(cs.drop i).length=n-i:=by rw [List.length_drop,hcl]
 have hcpB:∀(W:World),(∀x,W.cell? x=(W1.setCells w.heap.size i vs).cell? x)→(∀x,W.frozen? x=(W1.setCells w.heap.size i vs).frozen? x)→∀ty dc sc,(Builtin.copy_ #[317,317] ty #[.slice (some ⟨w.heap.size,i+m,none⟩) (n+m-(i+m)) dc,.slice (some ⟨b,off+i,none⟩) (n-i) sc]).run Tryz.prog W=.ok (goInt (cs.drop i).length) (W.setCells w.heap.size (i+m) (cs.drop i)):=fun W hWc hWf ty dc sc=>
  run_copy_cells W _ _ ty 3 w.heap.size (i+m) (n+m-(i+m)) dc ⟨b,off+i,none⟩ (n-i) sc (cs.drop i) Tryz.underlying317 hsz (by rw [hdl];simp only [Nat.min_def];split<;>omega)
   (fun j v hj=>by
    rw [Addr.add_lit,hWc,World.cell?_setCells_out _ _ _ _ _ (fun h _=>absurd h hbN),Nat.add_assoc]
    exact hOb _ v (hcs (i+j) v (by rwa [List.getElem?_drop] at hj)))
   (fun j hj=>by rw [hWc];exact Ey _ _ _ _ (fun t ht=>hN _ (by omega)) _ (hN _ (by omega)))
   (fun j hj=>by rw [hWf,World.frozen?_setCells];exact hNf _) (fun v hv=>h1c v (List.mem_of_mem_drop hv))
 subst hW1
 have hE1:∀x,((w.alloc (.cells ROW 3)).drew).cell? x=(w.drew.alloc (.cells ROW 3)).cell? x:=fun x=>rfl
 have hE2:∀x,((w.alloc (.cells ROW 3)).drew).frozen? x=(w.drew.alloc (.cells ROW 3)).frozen? x:=fun x=>rfl
 have hF1:∀x,(((w.alloc (.cells ROW 3)).drew.setCells w.heap.size i vs).drew).cell? x=((w.drew.alloc (.cells ROW 3)).setCells w.heap.size i vs).cell? x:=fun x=>rfl
 have hF2:∀x,(((w.alloc (.cells ROW 3)).drew.setCells w.heap.size i vs).drew).frozen? x=((w.drew.alloc (.cells ROW 3)).setCells w.heap.size i vs).frozen? x:=fun x=>rfl
 have hw1:IntKind.i64.wrap ((i:Int)+(m:Int))=(i:Int)+(m:Int):=by rw [IntKind.wrap_i64];omega
 have hb1:(0:Int)≤(i:Int)+(m:Int):=by omega
 have hin:i≤n:=by omega
 have htn:((i:Int)+(m:Int)).toNat=i+m:=by omega
 have hb3:(i:Int)≤(n:Int):=by omega
 clear hkk hik hold hROW hG hRl
 go_enter Tryz.func345,Tryz.ntmps345
 go_wp2_with (first
  | (at_builtin;refine Lib.wpList_append_run _ rfl _ _ _ _ rfl _ _ rfl rfl _ _ (hrz _) ?_)
  | (at_builtin;refine L7 _ rfl _ _ 317 23 rfl _ _ rfl rfl (hcpA _ hE1 hE2 _ _) ?_)
  | (at_builtin;refine L7 _ rfl _ _ 317 317 rfl _ _ rfl rfl (hcpB _ (fun _=>rfl) (fun _=>rfl) _ _ _) ?_))
 go_region_law_o (refine Rs rfl _ _ 317 317 rfl (.slice (some ⟨w.heap.size,i+m,none⟩) (n+m-(i+m)) (G-(i+m))) (.slice (some ⟨b,off+i,none⟩) (n-i) (c-i)) (by simp [Act.eval,Act.put]) (by simp [Act.eval,Act.put]) (hcpB _ hF1 hF2 3 (G-(i+m)) (c-i)) ?_)
 go_wp2
 go_ret
 exact ⟨rfl,rfl⟩
end Go.Proofs
end
namespace Go.Abs
open Go.Proofs
structure Tv (b:Nat) (w w':World):Prop where
 os:w'.os=w.os
 tape:w'.tape=w.tape
 output:w'.output=w.output
 size:w'.heap.size=w.heap.size
 other:∀c,c≠b->w'.heap[c]? = w.heap[c]?
 row:∀cs e,w.heap[b]? = some (.cells cs e (0,0))->∃cs',w'.heap[b]? = some (.cells cs' e (0,0))/\cs'.size=cs.size
theorem Tv.refl (b:Nat) (w:World):Tv b w w:=⟨rfl,rfl,rfl,rfl,fun _ _=>rfl,fun cs _ h=>⟨cs,h,rfl⟩⟩
theorem Tv.drew {b:Nat} {w w':World} (h:Tv b w w'):Tv b w w'.drew:=⟨h.os,h.tape,h.output,h.size,h.other,h.row⟩
theorem Tv.cell {b:Nat} {w w':World} (h:Tv b w w') (j:Nat) (v:Value):Tv b w (w'.setCell ⟨b,j,none⟩ v):=
 ⟨h.os,h.tape,h.output,by simp [World.setCell];exact h.size,fun c hc=>(heap_setCell_other w' ⟨b,j,none⟩ c v hc).trans (h.other c hc),fun cs e hb=>by
  obtain ⟨cs',h1,h2⟩:=h.row cs e hb
  exact ⟨_,heap_setCell_same w' b j cs' e v h1,by simpa using h2⟩⟩
theorem Tv.cells {b:Nat} {w:World}:∀(vs:List Value) (o:Nat) (w':World),Tv b w w'->Tv b w (w'.setCells b o vs)
 | [],_,_,h=>h
 | v::r,o,w',h=>Tv.cells r (o+1) _ (h.cell o v)
theorem I6 {w:World} {G:ZE}:∀ys:LI,Y9 w G (Zi ys) (ys.map (fun z=>Value.int .i64 z))
 | []=>.nil
 | _::r=>.cons .val (I6 r)
theorem NY {w:World} {G:ZE}:∀{ys:LI} {vs:List Value},Y9 w G (Zi ys) vs->vs=ys.map (fun z=>Value.int .i64 z)
 | [],_,.nil=>rfl
 | _::r,_,.cons h t=>by rw [Ww,<-NY (ys:=r) t,h.val_inv]
theorem RH {cs:Array Value} {ys:LI} (h:∀(j:Nat) z,ys[j]? = some z->cs[j]? = some (Value.int .i64 z)):cs.toList.take ys.length=ys.map (fun z=>Value.int .i64 z):=by
 apply List.ext_getElem?
 intro j
 rw [TN]
 split
 ·rename_i hj
  have hx:=Qu hj
  have:=h j _ hx
  rw [Bd,this,Th,hx]
  rfl
 ·rename_i hj
  simp [Fv (Nat.le_of_not_lt hj)]
theorem PA {w w':World} {G:ZE} {g len cap len':Nat} {ls:List AV} {ys:LI} {r:List Res} (hh:ZW w G (.row (.slice (some ⟨g,0,none⟩) len cap) 1 ls::r)) (hw:Tv g w w') (hlen:ys.length=len') (hle:len'<=cap)
  (hc:∀(j:Nat) z,ys[j]? = some z->w'.cell? ⟨g,j,none⟩=some (Value.int .i64 z)) :
  ZW w' G [.row (.slice (some ⟨g,0,none⟩) len' cap) 1 (Zi ys)]/\Yr w G (.row (.slice (some ⟨g,0,none⟩) len cap) 1 ls::r) w' G [.row (.slice (some ⟨g,0,none⟩) len' cap) 1 (Zi ys)]:=by
 have hmem:Res.row (.slice (some ⟨g,0,none⟩) len cap) 1 ls∈Res.row (.slice (some ⟨g,0,none⟩) len cap) 1 ls::r:=YV ..
 rcases hh.ok _ hmem with ⟨e,_⟩|⟨g',len2,cap2,cur,el,e,h1,h2,h3,h4,h5⟩
 ·cases e
 ·cases e
  obtain ⟨cs',k1,k2⟩:=hw.row cur el h1
  have hcell:∀j,w'.cell? ⟨g,j,none⟩=cs'[j]?:=fun j=>cell_of_row w' g j cs' el (0,0) k1
  refine ⟨⟨fun q hq=>?_,Kq _ _,fun q hq c j hf hg=>?_,fun c j hg=>?_⟩,
   ⟨hw.os,hw.tape,hw.output,by rw [hw.size];exact YX _,fun _ _ h=>h,fun c _=>?_,fun _ _ _ h=>.inl h,fun c j _ ⟨q,hq,hf⟩=>?_⟩⟩
  ·rw [YH.1 hq]
   refine .inr ⟨g,len',cap,cs',el,rfl,k1,hle,k2.trans h3,by simp [hlen],?_⟩
   rw [UI,<-hlen,RH fun j z hz=>by rw [<-hcell];exact hc j z hz]
   exact I6 ys
  ·rw [YH.1 hq] at hf
   exact hh.prot _ hmem c j hf hg
  ·rw [hw.size];exact hh.lt c j hg
  ·by_cases hcg:c=g
   ·subst hcg
    exact .ce ⟨cur,cs',el,(0,0),h1,k1,k2,fun o hn=>absurd ⟨_,hmem,rfl⟩ hn⟩
   ·exact .inl (hw.other c hcg)
  ·rw [YH.1 hq] at hf
   exact ⟨_,hmem,hf⟩
theorem Pz {w w':World} {G:ZE} {cap len':Nat} {h:List Res} {ys:LI} {cs':Array Value} {el:TypeId} (hh:ZW w G h) (os:w'.os=w.os) (tape:w'.tape=w.tape) (output:w'.output=w.output)
  (YD:w'.heap.size=w.heap.size+1) (hoth:∀c,c<w.heap.size->w'.heap[c]? = w.heap[c]?) (hb:w'.heap[w.heap.size]? = some (.cells cs' el (0,0))) (hcap:cs'.size=cap) (hlen:ys.length=len') (hle:len'<=cap)
  (hc:∀(j:Nat) z,ys[j]? = some z->w'.cell? ⟨w.heap.size,j,none⟩=some (Value.int .i64 z)) :
  ZW w' G [.row (.slice (some ⟨w.heap.size,0,none⟩) len' cap) 1 (Zi ys)]/\Yr w G h w' G [.row (.slice (some ⟨w.heap.size,0,none⟩) len' cap) 1 (Zi ys)]:=by
 have hcell:∀j,w'.cell? ⟨w.heap.size,j,none⟩=cs'[j]?:=fun j=>cell_of_row w' _ j cs' el (0,0) hb
 refine ⟨⟨fun q hq=>?_,Kq _ _,fun q hq c j hf hg=>?_,fun c j hg=>?_⟩,
  ⟨os,tape,output,by omega,fun _ _ h=>h,fun c hcl=>.inl (hoth c hcl),fun _ _ _ h=>.inl h,fun c j hcl ⟨q,hq,hf⟩=>?_⟩⟩
 ·rw [YH.1 hq]
  refine .inr ⟨_,len',cap,cs',el,rfl,hb,hle,by rw [hcap,UI],by simp [hlen],?_⟩
  rw [UI,<-hlen,RH fun j z hz=>by rw [<-hcell];exact hc j z hz]
  exact I6 ys
 ·rw [YH.1 hq] at hf
  have:c=w.heap.size:=hf
  have:=hh.lt c j hg
  omega
 ·have:=hh.lt c j hg;omega
 ·rw [YH.1 hq] at hf
  have:c=w.heap.size:=hf
  omega
def T5 (xs:LI) (p:Nat) (v:Int):LI:=xs.take p++v::xs.drop p
theorem BO (xs:LI) (p:Nat) (v:Int) (hp:p<=xs.length):(T5 xs p v).length=xs.length+1:=by simp [T5];omega
theorem Z61 {xs:LI} {p j:Nat} {v:Int} (h:j<p) (hp:p<=xs.length):(T5 xs p v)[j]? = xs[j]?:=by
 rw [T5,Du (by simp;omega),TN,Z6 h]
theorem Z5z {xs:LI} {p:Nat} {v:Int} (hp:p<=xs.length):(T5 xs p v)[p]? = some v:=by
 rw [T5,C9 (by simp;omega),Ko,AD hp,Nat.sub_self];rfl
theorem Z60 {xs:LI} {p j:Nat} {v:Int} (hp:p<=xs.length):(T5 xs p v)[p+1+j]? = xs[p+j]?:=by
 rw [T5,C9 (by simp;omega),Ko,AD hp,show p+1+j-p=j+1 by omega,List.getElem?_cons_succ,Ca]
theorem Hg {xs:LI} {p j:Nat} {v z:Int} (hp:p<=xs.length) (h:(T5 xs p v)[j]? = some z):(j<p/\xs[j]? = some z)∨(j=p/\z=v)∨∃i,j=p+1+i/\xs[p+i]? = some z:=by
 rcases Nat.lt_trichotomy j p with hj|hj|hj
 ·rw [Z61 hj hp] at h;exact .inl ⟨hj,h⟩
 ·subst hj;rw [Z5z hp] at h;exact .inr (.inl ⟨rfl,(Ti h).symm⟩)
 ·obtain ⟨i,rfl⟩:∃i,j=p+1+i:=⟨j-(p+1),by omega⟩
  rw [Z60 hp] at h;exact .inr (.inr ⟨i,rfl,h⟩)
theorem Zdx {xs:LI} {j:Nat} {u:Value} (h:(xs.map (fun z=>Value.int .i64 z))[j]? = some u):∃z,xs[j]? = some z/\u=.int .i64 z:=by
 rw [Th] at h
 cases hx:xs[j]? with
 | none=>rw [hx] at h;cases h
 | some z=>rw [hx] at h;exact ⟨z,rfl,(Ti h).symm⟩
theorem GU:∀xs:LI,Zu (Zi xs)=Zi xs
 | []=>rfl
 | x::r=>Yp (AV.i x::·) (GU r)
theorem Ew {w w':World} {G:ZE} {h:List Res} {u:Value} {ys:LI} (h1:ZW w' G [.row u 1 (Zi ys)]) (h2:Yr w G h w' G [.row u 1 (Zi ys)]) :
  ∃G',RV w' G' (ZV ys u) u/\ZW w' G' [.tail u 1]/\Yr w G h w' G' [.tail u 1]:=by
 have hf:Zu (Zi ys)=Zi ys:=GU ys
 rw [<-hf] at h1 h2
 obtain ⟨G',a,b,c⟩:=Ia h1 (Wq ys) om
 exact ⟨G',c,a,h2.trans b⟩
theorem SC (w:World) (o:Obj):(w.drew.alloc o).heap.size=w.heap.size+1:=Array.size_push ..
theorem NW {w:World} {G:ZE} {h:List Res} {ys:LI} {len' K:Nat} (hh:ZW w G h) (cs':Array Value) (YD:cs'.size=K) (hlen:ys.length=len') (hle:len'<=K)
  (hc:∀(j:Nat) z,ys[j]? = some z->cs'[j]? = some (Value.int .i64 z)) :
  ∃G',RV (w.drew.alloc (.cells cs' 3)) G' (ZV ys (.slice (some ⟨w.heap.size,0,none⟩) len' K)) (.slice (some ⟨w.heap.size,0,none⟩) len' K)/\ZW (w.drew.alloc (.cells cs' 3)) G' [.tail (.slice (some ⟨w.heap.size,0,none⟩) len' K) 1] /\
   Yr w G h (w.drew.alloc (.cells cs' 3)) G' [.tail (.slice (some ⟨w.heap.size,0,none⟩) len' K) 1]:=by
 have hN:(w.drew.alloc (.cells cs' 3)).heap[w.heap.size]? = some (.cells cs' 3 (0,0)):=Aa w.drew _
 obtain ⟨k1,k2⟩:=Pz (w':=w.drew.alloc (.cells cs' 3)) hh rfl rfl rfl (SC w _) (fun c hc=>KF w.drew _ hc) hN YD hlen hle (fun j z hz=>by
  rw [cell_of_row _ _ j _ 3 (0,0) hN];exact hc j z hz)
 exact Ew k1 k2
theorem Z6a (g hv:Hd) (xs:LI) (p:Nat) (v:Int) (hp:p<=xs.length) (hl:xs.length<=1000000000):Wg Tryz.prog 345 [.h g,.i p,ZV [v] hv.v] [.row g.v 1 (Zi xs),.tail hv.v 1] (fun r h=>∃u:Value,r=ZV (T5 xs p v) u/\h=[.tail u 1]):=by
 intro w G vs ha hh
 obtain ⟨gv,rfl,pv,rfl,sv,rfl,ra⟩:∃gv,gv=g.v/\∃pv,pv=Value.int .i64 p/\∃sv,sv=hv.v/\vs=[gv,pv,sv]/\RV w G (ZV [v] hv.v) sv:=by
  cases ha with
  | cons h1 t=>cases t with
   | cons h2 t=>cases t with
    | cons h3 t=>
     cases t
     exact ⟨_,h1.val_inv,_,h2.val_inv,_,h3.header,rfl,h3⟩
 obtain ⟨rfl,hsl⟩:=ra
 have hpw:=Vm.1 hh.apart
 have hmr:Res.row g.v 1 (Zi xs)∈[Res.row g.v 1 (Zi xs),.tail hv.v 1]:=YV ..
 have hmt:Res.tail hv.v 1∈[Res.row g.v 1 (Zi xs),.tail hv.v 1]:=Xv _ (YH.2 rfl)
 obtain ⟨hxa,hlx,hcx⟩:=hv
 obtain ⟨vb,vcur,vel,e1,hv1,hv2,hvd⟩:∃vb vcur vel,Hd.v ⟨hxa,hlx,hcx⟩=.slice (some ⟨vb,0,none⟩) 1 hcx/\w.heap[vb]? = some (.cells vcur vel (0,0))/\vcur[0]? = some (Value.int .i64 v)/\∀gb len cap,g.v=.slice (some ⟨gb,0,none⟩) len cap->vb≠gb:=by
  cases hsl with
  | sl hq hc hm=>
   rename_i b o k
   rcases hh.ok _ hmt with e|⟨g2,len,cap,cur,el,e,t1,t2,t3⟩
   ·cases e
   ·cases e
    refine ⟨b,cur,el,rfl,t1,?_,fun gb len cap he hb=>?_⟩
    ·cases hm with
     | cons hlk hm2 _=>cases hm2 with
      | cons hcell _ hrv _=>
       have:=hrv.val_inv
       subst this
       rw [<-cell_of_row w b 0 cur el (0,0) t1]
       exact hcell
    ·refine hpw.1 _ (YH.2 rfl) b 1 ?_ ⟨rfl,by simp⟩
     rw [he]
     exact hb
 have hvs:∀(j:Nat) u,[Value.int .i64 v][j]? = some u->w.cell? ⟨vb,0+j,none⟩=some u:=by
  intro j u hj
  cases j with
  | zero=>simp only [List.getElem?_cons_zero] at hj;rw [cell_of_row w vb _ vcur vel (0,0) hv1];exact hv2.trans hj
  | succ j=>simp at hj
 have h1v:∀u∈[Value.int .i64 v],u.oneCell'=true:=fun u hu=>by rw [YH.1 hu];rfl
 have hgc:∀w2 j,grownCap w2 (xs.length+1) j 3>=xs.length+1:=fun w2 j=>grownCap_ge w2 _ _ _
 have hh2:=hh
 rw [e1] at hh2 ⊢
 rcases hh.ok _ hmr with ⟨e,h0⟩|⟨gb,len,cap,cur,el,e,h1,h2,h3,h4,h5⟩
 ·
  have hx0:xs=[]:=by cases xs with|nil=>rfl|cons _ _=>simp [Zi] at h0
  subst hx0
  have hp0:p=0:=by simpa using hp
  subst hp0
  rw [e]
  have hg:∀w2 j,grownCap w2 (0+1) j 3>=0+1:=fun w2 j=>grownCap_ge w2 _ _ _
  refine (NV none 0 0 vb 0 1 hcx [] [.int .i64 v] w om om om om rfl rfl (fun _=>rfl) (fun a ha=>by cases ha) hvs h1v).mono ?_
  rintro e w' ⟨rfl,rfl⟩
  have hg0:=hg w 0
  revert hg0
  generalize grownCap w (0+1) 0 3=K
  intro hg0
  rw [e] at hh2
  obtain ⟨G',r1,r2,r3⟩:=NW (ys:=[v]) hh2 (([]++[Value.int .i64 v]).toArray++Builtin.zeroCells (Value.int .i64 0).cells (K-(0+1))) (by simp [Builtin.zeroCells,Value.cells];omega) rfl hg0 (fun j z hz=>by
    cases j with
    | zero=>simp only [List.getElem?_cons_zero] at hz;cases hz;rw [Fu (by simp)];rfl
    | succ j=>simp at hz)
  exact ⟨_,_,_,G',rfl,⟨_,rfl,rfl⟩,r1,r2,r3⟩
 ·have hlx2:len=xs.length:=by rw [Yk] at h4;omega
  subst hlx2
  rw [UI] at h3 h5
  have hcur:cur.toList.take xs.length=xs.map (fun z=>Value.int .i64 z):=NY h5
  have hcell:∀j z,xs[j]? = some z->w.cell? ⟨gb,j,none⟩=some (Value.int .i64 z):=by
   intro j z hz
   rw [cell_of_row w gb j cur el (0,0) h1]
   have hj:j<xs.length:=(XZ.1 hz).1
   have h6:(cur.toList.take xs.length)[j]? = some (Value.int .i64 z):=by rw [hcur,Th,hz];rfl
   rw [TN,Z6 hj,Bd] at h6
   exact h6
  have hcs:∀(j:Nat) u,(xs.map (fun z=>Value.int .i64 z))[j]? = some u->w.cell? ⟨gb,0+j,none⟩=some u:=by
   intro j u hj
   obtain ⟨z,hz,rfl⟩:=Zdx hj
   rw [Vf]
   exact hcell j z hz
  have h1c:∀u∈xs.map (fun z=>Value.int .i64 z),u.oneCell'=true:=fun u hu=>by obtain ⟨z,_,rfl⟩:=Xb.1 hu;rfl
  have hne:=hvd gb xs.length cap e
  have hsome:∀j,j<cap->(w.cell? ⟨gb,j,none⟩).isSome=true:=fun j hj=>by rw [cell_of_row w gb j cur el (0,0) h1,Array.getElem?_eq_getElem om];rfl
  have hfz:∀j,w.frozen? ⟨gb,j,none⟩=false:=fun j=>frozen_of_row w gb j cur el h1
  rw [e] at hh2 ⊢
  by_cases hroom:xs.length+1<=cap
  ·have Eh:xs.length+1<=9223372036854775807:=by omega
   by_cases hpn:p=xs.length
   ·subst hpn
    refine (Z68 gb 0 xs.length cap vb 0 1 hcx [.int .i64 v] w om hroom Eh rfl (fun j hj=>hsome _ om) (fun j _=>hfz _) hvs h1v).mono ?_
    rintro e w' ⟨rfl,rfl⟩
    have hin:=World.cell?_setCells_in gb [.int .i64 v] (0+xs.length) w (fun j hj=>hsome _ (by simp at hj;omega))
    obtain ⟨k1,k2⟩:=PA (ys:=T5 xs xs.length v) hh2 ((Tv.refl gb w).cells _ _ _) (BO xs _ v (YX _)) hroom (fun j z hz=>by
     rcases Hg (YX _) hz with ⟨h,h'⟩|⟨rfl,rfl⟩|⟨i,rfl,h'⟩
     ·rw [World.cell?_setCells_out gb _ _ _ _ fun _ _=>.inl (by show j<0+xs.length;omega)];exact hcell j z h'
     ·have:=hin 0 (by simp);simpa using this
     ·have:=(XZ.1 h').1;omega)
    obtain ⟨G',r1,r2,r3⟩:=Ew k1 k2
    exact ⟨_,_,_,G',rfl,⟨_,rfl,rfl⟩,r1,r2,r3⟩
   ·have hpl:p<xs.length:=by omega
    refine (Z6c gb 0 xs.length cap p vb 0 1 hcx (xs.map (fun z=>Value.int .i64 z)) [.int .i64 v] w hpl om hroom Eh hne (by simp) rfl hcs (fun j hj=>hsome _ om) (fun j _=>hfz _) hvs h1c h1v vel el vcur.size cur.size
     (by simp [World.shape?,hv1]) (by simp [World.shape?,h1]) om (frozen_of_row w vb _ vcur vel hv1) (frozen_of_row w vb _ vcur vel hv1)).mono ?_
    rintro e w' ⟨rfl,rfl⟩
    have hW:=(Tv.refl gb w).drew.cells ((xs.map (fun z=>Value.int .i64 z)).drop p) (0+(p+1)) _
    have hin1:=World.cell?_setCells_in gb ((xs.map (fun z=>Value.int .i64 z)).drop p) (0+(p+1)) w.drew (fun j hj=>by simp at hj;exact hsome _ om)
    have hs2:∀j,j<cap->((w.drew.setCells gb (0+(p+1)) ((xs.map (fun z=>Value.int .i64 z)).drop p)).cell? ⟨gb,j,none⟩).isSome=true:=fun j hj=>Ey gb _ _ _ (fun i hi=>by simp at hi;exact hsome _ om) j (hsome j hj)
    have hin2:=World.cell?_setCells_in gb [.int .i64 v] (0+p) _ (fun j hj=>hs2 _ (by simp at hj;omega))
    obtain ⟨k1,k2⟩:=PA (ys:=T5 xs p v) hh2 (hW.cells [.int .i64 v] (0+p) _) (BO xs _ v hp) hroom (fun j z hz=>by
     rcases Hg hp hz with ⟨h,h'⟩|⟨rfl,rfl⟩|⟨i,rfl,h'⟩
     ·rw [World.cell?_setCells_out gb _ _ _ _ fun _ _=>.inl (by show j<0+p;omega),World.cell?_setCells_out gb _ _ _ _ fun _ _=>.inl (by show j<0+(p+1);omega)];exact hcell j z h'
     ·have:=hin2 0 (by simp);simpa using this
     ·have hi:=(XZ.1 h').1
      rw [World.cell?_setCells_out gb _ _ _ _ fun _ _=>.inr (by show 0+p+1<=p+1+i;omega)]
      have h7:=hin1 i (by simp;omega)
      rw [show 0+(p+1)+i=p+1+i by omega] at h7
      rw [h7]
      have h8:((xs.map (fun z=>Value.int .i64 z)).drop p)[i]? = some (Value.int .i64 z):=by rw [Ca,Th,h'];rfl
      rw [<-h8]
      exact (Qu _).symm)
    obtain ⟨G',r1,r2,r3⟩:=Ew k1 k2
    exact ⟨_,_,_,G',rfl,⟨_,rfl,rfl⟩,r1,r2,r3⟩
  ·by_cases hpn:p=xs.length
   ·subst hpn
    refine (NV (some ⟨gb,0,none⟩) xs.length cap vb 0 1 hcx (xs.map (fun z=>Value.int .i64 z)) [.int .i64 v] w om h2 om om (by simp) rfl (fun h=>by cases h) (fun a ha j u hj=>by cases ha;rw [Addr.add_lit];exact hcs j u hj) hvs h1v).mono ?_
    rintro e w' ⟨rfl,rfl⟩
    have hg0:=hgc w cap
    revert hg0
    generalize grownCap w (xs.length+1) cap 3=K
    intro hg0
    obtain ⟨G',r1,r2,r3⟩:=NW (ys:=T5 xs xs.length v) hh2 ((xs.map (fun z=>Value.int .i64 z)++[Value.int .i64 v]).toArray++Builtin.zeroCells (Value.int .i64 0).cells (K-(xs.length+1))) (by simp [Builtin.zeroCells,Value.cells];omega) (BO xs _ v (YX _)) hg0 (fun j z hz=>by
      rw [Fu (by have:=(XZ.1 hz).1;rw [BO xs _ v (YX _)] at this;simp;omega)]
      have h9:T5 xs xs.length v=xs++[v]:=by simp [T5]
      rw [h9] at hz
      rw [List.getElem?_toArray,show xs.map (fun z=>Value.int .i64 z)++[Value.int .i64 v]=(xs++[v]).map (fun z=>Value.int .i64 z) by simp,Th,hz]
      rfl)
    exact ⟨_,_,_,G',rfl,⟨_,rfl,rfl⟩,r1,r2,r3⟩
   ·have hpl:p<xs.length:=by omega
    refine (Z69 gb 0 xs.length cap p vb 0 1 hcx (xs.map (fun z=>Value.int .i64 z)) [.int .i64 v] w hpl om h2 om om (by simp) rfl hcs hvs h1c h1v).mono ?_
    rintro e w' ⟨rfl,rfl⟩
    have hg0:=hgc w cap
    revert hg0
    generalize grownCap w (xs.length+1) cap 3=K
    intro hg0
    generalize hA:((xs.map (fun z=>Value.int .i64 z)).take p).toArray++Builtin.zeroCells (Value.int .i64 0).cells (xs.length+1-p)++Builtin.zeroCells (Value.int .i64 0).cells (K-(xs.length+1))=A
    have hAs:A.size=K:=by subst hA;simp [Builtin.zeroCells,Value.cells];omega
    have hAg:∀(j:Nat) z,j<p->xs[j]? = some z->A[j]? = some (Value.int .i64 z):=by
     intro j z hj hz
     subst hA
     rw [Fu (by simp [Builtin.zeroCells,Value.cells];omega),Fu (by simp;omega),List.getElem?_toArray,TN,Z6 hj,Th,hz]
     rfl
    have hN0:(w.alloc (.cells A 3)).heap[w.heap.size]? = some (.cells A 3 (0,0)):=Aa w _
    have hc0:∀j,(w.alloc (.cells A 3)).cell? ⟨w.heap.size,j,none⟩=A[j]?:=fun j=>cell_of_row _ _ j A 3 (0,0) hN0
    have hsm:∀j,j<K->((w.alloc (.cells A 3)).cell? ⟨w.heap.size,j,none⟩).isSome=true:=fun j hj=>by rw [hc0,Array.getElem?_eq_getElem om];rfl
    have hW:=((Tv.refl w.heap.size (w.alloc (.cells A 3))).drew.cells [.int .i64 v] p _).drew.cells ((xs.map (fun z=>Value.int .i64 z)).drop p) (p+1) _
    have hin1:=World.cell?_setCells_in w.heap.size [.int .i64 v] p (w.alloc (.cells A 3)).drew (fun j hj=>hsm _ (by simp at hj;omega))
    have hs2:∀j,j<K->(((w.alloc (.cells A 3)).drew.setCells w.heap.size p [.int .i64 v]).drew.cell? ⟨w.heap.size,j,none⟩).isSome=true:=fun j hj=>Ey w.heap.size _ _ _ (fun i hi=>by simp at hi;exact hsm _ om) j (hsm j hj)
    have hin2:=World.cell?_setCells_in w.heap.size ((xs.map (fun z=>Value.int .i64 z)).drop p) (p+1) _ (fun j hj=>hs2 _ (by simp at hj;omega))
    obtain ⟨cs',q1,q2⟩:=hW.row A 3 hN0
    obtain ⟨k1,k2⟩:=Pz (cap:=K) (len':=xs.length+1) (ys:=T5 xs p v) hh2 hW.os hW.tape hW.output (hW.size.trans (Array.size_push ..)) (fun c hc=>(hW.other c om).trans (KF w _ hc)) q1 (q2.trans hAs) (BO xs p v hp) hg0 (fun j z hz=>by
     rcases Hg hp hz with ⟨h,h'⟩|⟨rfl,rfl⟩|⟨i,rfl,h'⟩
     ·rw [World.cell?_setCells_out w.heap.size _ _ _ _ fun _ _=>.inl (by show j<p+1;omega)]
      show ((w.alloc (.cells A 3)).drew.setCells w.heap.size p [.int .i64 v]).cell? _=_
      rw [World.cell?_setCells_out w.heap.size _ _ _ _ fun _ _=>.inl (by show j<p;omega)]
      exact (hc0 j).trans (hAg j z h h')
     ·rw [World.cell?_setCells_out w.heap.size _ _ _ _ fun _ _=>.inl (by show j<j+1;omega)]
      have:=hin1 0 (by simp)
      simpa using this
     ·have hi:=(XZ.1 h').1
      have h7:=hin2 i (by simp;omega)
      rw [h7]
      have h8:((xs.map (fun z=>Value.int .i64 z)).drop p)[i]? = some (Value.int .i64 z):=by rw [Ca,Th,h'];rfl
      rw [<-h8]
      exact (Qu _).symm)
    obtain ⟨G',r1,r2,r3⟩:=Ew k1 k2
    exact ⟨_,_,_,G',rfl,⟨_,rfl,rfl⟩,r1,r2,r3⟩
end Go.Abs
section
namespace Go.Abs
section
variable {P:Program} {n:Nat} {ops:Array Oper} {B:Fr->List Res->Prop} {k:Nat} {F:Fr} {h:List Res}
def DV (P:Program) (ops:Array Oper) (F:Fr) (k:Nat):Option (IntKind × Int):=
 match (Zj ops k).op with
 | .convert s d x=>match P.underlying s,P.underlying d,F.ev x with
  | some (.int _),some (.int q),.val (.int _ z)=>some (q,z)
  | _,_,_=>none
 | _=>none
theorem O1 (q:IntKind) (z z':Int) (e:q.wrap z=z') (hc:DV P ops F k=some (q,z):=by kernel_rfl):X8 P (Zj ops k) F h [] (.val (.int q z')):=by
 unfold DV at hc
 generalize hoo:Zj ops k=o at hc
 obtain ⟨dst,op,type,pos,after,guard⟩:=o
 cases op<;>simp only at hc<;>try (cases hc)
 rename_i s d x
 split at hc
 ·rename_i q1 q2 q3 z2 h1 h2 h3
  cases hc
  intro n w G ac hF hh
  have v1:=hF.ev x
  rw [h3] at v1
  have v1:=v1.val_inv
  refine ⟨_,.val,fun w' _ _=>?_⟩
  simp only [execOp,v1]
  refine Vd ?_
  simp [convert,Vr h1,Vr h2,Conv.intToInt,e]
 ·cases hc
def PU (ops:Array Oper) (F:Fr) (k:Nat):Option Int:=
 match (Zj ops k).op with
 | .binOp .shr _ x y _=>match F.ev x,F.ev y with
  | .val (.int .u64 z),.val (.int _ 1)=>some z
  | _,_=>none
 | _=>none
theorem Z6j (n:Nat) (hc:PU ops F k=some (n:Int):=by kernel_rfl):X8 P (Zj ops k) F h [] (.val (.int .u64 ((n / 2:Nat):Int))):=by
 unfold PU at hc
 generalize hoo:Zj ops k=o at hc
 obtain ⟨dst,op,type,pos,after,guard⟩:=o
 cases op<;>simp only at hc<;>try (cases hc)
 rename_i bop t x y yt
 cases bop<;>simp only at hc<;>try (cases hc)
 split at hc
 ·rename_i z yk h1 h2
  cases hc
  intro n' w G ac hF hh
  have v1:=hF.ev x
  have v2:=hF.ev y
  rw [h1] at v1
  rw [h2] at v2
  have v1:=v1.val_inv
  have v2:=v2.val_inv
  refine ⟨_,.val,fun w' _ _=>?_⟩
  simp only [execOp,v1,v2]
  refine Vd ?_
  have e:(n:Int).fdiv 2=((n / 2:Nat):Int):=by rw [Int.fdiv_eq_ediv_of_nonneg _ om];omega
  simp [eqGuard,binOp,Op.shift,IntKind.bits,e]
 ·cases hc
theorem Z6l (n:Nat) (hn:n<=9223372036854775807) (hc:DV P ops F k=some (.u64,(n:Int)):=by kernel_rfl):X8 P (Zj ops k) F h [] (.val (.int .u64 (n:Int))):=
 O1 .u64 _ _ (by simp [IntKind.wrap,IntKind.signed,IntKind.bits];omega) hc
theorem Z6k (n:Nat) (hn:n<=9223372036854775807) (hc:DV P ops F k=some (.i64,(n:Int)):=by kernel_rfl):X8 P (Zj ops k) F h [] (.i n):=
 O1 .i64 _ _ (IntWalk.i64_in _ om) hc
end
open Go.Proofs in
theorem Z6b (g:Hd) (u:Value) (xs:LI) (p:Nat) (v:Int) (hp:p<=xs.length) (hl:xs.length<=1000000000):Wg Tryz.prog 345 [.h g,.i p,ZV [v] u] [.row g.v 1 (Zu (Zi xs)),.tail u 1] (fun r h=>∃w:Value,r=ZV (T5 xs p v) w/\h=[.tail w 1]):=by
 intro w G vs ha hh
 rw [GU] at hh ⊢
 have hu:∃hv:Hd,u=hv.v:=by
  rcases hh.ok (.tail u 1) (by simp) with rfl|⟨g,len,cap,cur,e,rfl,_⟩
  ·exact ⟨⟨none,0,0⟩,rfl⟩
  ·exact ⟨⟨_,len,cap⟩,rfl⟩
 obtain ⟨hv,rfl⟩:=hu
 exact Z6a g hv xs p v hp hl w G vs ha hh
theorem Z62 {xs:LI} {p:Nat} {v:Int}:∀x,x∈T5 xs p v↔x∈xs∨x=v:=by
 intro x
 have h:=Lb p xs
 constructor
 ·intro hx
  rcases Yv.1 hx with hx|hx
  ·exact .inl (Cc hx)
  ·rcases Yw.1 hx with rfl|hx
   ·exact .inr rfl
   ·exact .inl (List.mem_of_mem_drop hx)
 ·rintro (hx|rfl)
  ·rw [<-h] at hx
   rcases Yv.1 hx with hx|hx
   ·exact Yv.2 (.inl hx)
   ·exact Yv.2 (.inr (Xv _ hx))
  ·exact Yv.2 (.inr (YV ..))
end Go.Abs
end
namespace Go.Abs
open Go.Proofs
theorem Z12 (x:Int) :Za 301 [.i x] [] (ZP (.b false)):=by
 exact Zx 6 Tryz.func301 (Zf (ar (Z7 (Zo (.b (x != x)) (lb (by simp))))))
theorem Zb1 (x:Int) :Za 358 [.i x] [] (ZP (.b false)):=by
 exact Zx 6 Tryz.func358 (Zf (ar (Z7 (Zo (.b (x != x)) (lb (by simp))))))
theorem Z11 (x:Int) (y:Int) :Za 258 [.i x,.i y] [] (ZP (.b (decide (x<y)))):=by
 exact Zx 17 Tryz.func258 (Zf (ZM 1 (ZC [] (Z12 x) (Z7 (T8)))))
theorem Z08 (xs:LI) (v:Int) (hl:xs.length<=1000000000:=by exact ob):Za 344 [Ze xs,.i v] [] (fun r h=>∃(q:Nat) (f:Bool),r=.tup [.i q,.b f]/\h=[]/\(q<=xs.length/\(f=true->v∈xs))):=by
 refine Zx 54 Tryz.func344 (Zf (ZM 1 (iw (Yk xs) (Z0 (Zf (aq (ab 0 (ZR (fun fz gz m F h=>∃(lo:Nat) (hi:Nat),(lo<=hi)/\(hi<=xs.length)/\F=sF [0,1,6] fz [(7,.i lo),(8,.i hi)]/\h=gz/\m=hi-lo) _ _ _ ⟨0,xs.length,ob,ob,rfl,rfl,rfl⟩ (wk [] (ZT fl)) ?_))))))))
 rintro m F h ⟨lo,hi,ZX,Z9,rfl,rfl,rfl⟩
 refine Yq (ZN ((lo:Int)<(hi:Int)) (fun Z5=>?_) (fun Z5=>?_))
 ·refine ak (ab 1 (ZM 2 (ia (((lo+hi:Nat):Int)) (((lo:Int))+((hi:Int))) (Zg (Z6l (lo+hi) om) (Zg (Z6j (lo+hi)) (Zg (Z6k ((lo+hi) / 2) om) (Z0 (ZM 2 ?_))))))))
  obtain ⟨x1,Z2⟩:=Zv xs ((lo+hi) / 2) om
  refine Zg (Zq none (((lo+hi) / 2:Nat):Int) 1 (Yc Z2)) (Z1 2 (ZC [] (Z11 x1 v) (ie (Xf (x1<v) (fun Zd=>?_) (fun Zd=>?_)))))
  ·exact az (Z1 1 (ia ((((lo+hi) / 2+1:Nat):Int)) (((((lo+hi) / 2:Nat):Int))+(1)) (Z0 (ZJ ⟨(lo+hi) / 2+1,hi,ob,ob,rfl,rfl,rfl⟩ (wk [] (fc (x:=.i (((lo+hi) / 2+1:Nat):Int)) li fl))))))
  exact Qj (ZJ ⟨lo,(lo+hi) / 2,ob,ob,rfl,rfl,rfl⟩ (wk [] (fr (fc (x:=.i (((lo+hi) / 2:Nat):Int)) li fl))))
 refine ax 0 (ZM 5 (ib (b:=(decide ((lo:Int)<(xs.length:Int)))) 35 (fun Zb=>?_) (fun Zb=>?_)))
 ·have Ya:(lo:Int)<(xs.length:Int):=(dq).1 Zb
  refine Z1 2 ?_
  obtain ⟨x2,Zt⟩:=Zv xs lo om
  refine Zg (Zq none (lo:Int) 1 (Yc Zt)) (Z1 4 (ib (b:=(x2==v)) 42 (fun ZD=>?_) (fun ZD=>?_)))
  ·have YT:x2=v:=(Zr).1 ZD
   exact Z7 (r2 [] [.i lo,.b true] ⟨lo,true,rfl,rfl,⟨by omega,fun _=>YT▸YA Zt⟩⟩ (lr _))
  have Xy:¬(x2=v):=ZZ Zr ZD
  exact Z1 2 (Zg (Zq none (lo:Int) 1 (Yc Zt)) (Z1 1 (ZC [] (Zb1 x2) (Z7 (r2 [] [.i lo,.b false] ⟨lo,false,rfl,rfl,⟨by omega,fun q=>by cases q⟩⟩ (lr _))))))
 have XE:¬((lo:Int)<(xs.length:Int)):=ZZ dq Zb
 exact Z7 (r2 [] [.i lo,.b false] ⟨lo,false,rfl,rfl,⟨by omega,fun q=>by cases q⟩⟩ (lr _))
theorem Z0z (xs:LI) (hl_xs:xs.length<=4294967296:=by exact ob):Za 346 [Ze xs] [] (fun r h=>∃(g:Hd),r=.h g/\h=[rK g 1 (Zu (Zi xs))]):=by
 refine Zx 8 Tryz.func346 (Zf (Y8 1 (iN (Zi xs) (fun hz1=>?_) ?_)))
 ·have hz1:=GK hz1
  refine ie (W4 (Zf (Wl (IT (k:=1)) ?_)))
  subst hz1
  exact ZG (r2 [0] [nl] ⟨hN,rfl,rfl⟩ (Zk.hd (v:=hN)) (eq:=(rr (ls:=[]) rfl rz)))
 exact ie (XC (ak (ar (Hc 1 fun g1=>Z1 1 (Hb 0 g1 1 (Zi xs) none (Wq _) (by simp<;>omega) fun v1=>Z7 (r1 [0] ⟨v1,rfl,rfl⟩))))))
theorem Zdy (u:Value) (xs:LI) (v:Int) (hl:xs.length<=1000000000):Za 328 [ZV xs u,.i v] [.tail u 1] (fun r h=>∃(wu:Value) (ys:LI),r=ZV ys wu/\h=[.tail wu 1]/\(ys.length<=xs.length+1/\∀x,x∈ys↔x∈xs∨x=v)):=by
 refine Zx 21 Tryz.func328 (Zf (ar (XX 2 [(8,Ze xs)] (ic [] (Z08 xs v) ?_))))
 rintro _ _ ⟨q1,f1,rfl,rfl,Ya⟩
 have hb:=Ya
 refine Z0 (Yq (Yt f1 Iff.rfl (fun Z5=>?_) (fun Z5=>?_)))
 ·exact ar (Z7 (r1 [0] ⟨u,xs,rfl,rfl,⟨by omega,fun x=>⟨.inl,fun q=>q.elim id fun e=>e▸hb.2 Z5⟩⟩⟩))
 refine ak (ar (XX 1 [(15,Ze xs)] (ic [] (Z0z xs) ?_)))
 rintro _ _ ⟨g1,rfl,rfl⟩
 refine Z1 2 (iL (Zi [v]) 1 1 fun v1=>ic [1,0] (Z6b g1 v1 xs q1 v ob ob) ?_)
 rintro _ _ ⟨w1,rfl,rfl⟩
 exact Z7 (r1 [0] ⟨w1,(T5 xs q1 v),rfl,rfl,⟨by rw [BO _ _ _ hb.1];exact YX _,Z62⟩⟩)
theorem Z5j (n:Zl) (us:LI) (s:Z8) (hn:YY n:=by exact ob) (ha:∀a∈s.args,0<=a/\a<us.length) (hnum:s.op=9->0<=s.num/\s.num<n.routines.length:=by exact ob) (hal:s.args.length<=1000000000:=by exact ob) (hlt:∀(i:Nat) (a:Int),s.args[i]? = some a->VK n s.op s.num i=true->gI us a≠0):Za 295 [.agg [ZI n.decls,Yo n],Ze us,XO s] [] (fun r h=>∃(vp:Value) (vl:Value) (ls:LI),r=.tup [ZV (WE n us s.op s.num s.args 0) vp,ZV ls vl]/\h=[.tail vp 1,.tail vl 1]/\(ls.length<=s.args.length/\∀x,x∈ls↔∃i,s.args[i]? = some x/\VK n s.op s.num i=true)):=by
 have hsl:=Zal hn s.num
 have hLA:=fun k=>Z7f (n:=n) (op:=s.op) (num:=s.num) (k:=k)
 refine Zx 53 Tryz.func295 (ar (iA [ZI n.decls,Yo n] fun b1=>iA (WO s) fun b2=>Z0 (Ym 2 [0] (ZC [] (NJ s.op) (Yt (!Qf s.op) (p:=¬(Qf s.op=true)) (Yi Iff.rfl) (fun Z5=>?_) (fun Z5=>?_))))))
 ·exact Zf (TP 1 (TP 1 (ZG (r2 [0,0] [nl,nl] ⟨(.slice none 0 0),(.slice none 0 0),[],rfl,rfl,⟨by simp,fun x=>by simp only [List.not_mem_nil,false_iff];rintro ⟨i,_,q⟩;exact Oq Z5 i q⟩⟩ (Zk.tup (.cons (Zk.slh _ (by rw [I3 Z5];rfl)) (.cons (Zk.slh _ (by first|rfl|(subst_vars;rfl))) .nil)))))))
 refine ak (Ym 2 [0] (iw (Yk s.args) (Z0 (ab 0 (TP 1 (TP 1 (ZR (fun fz gz m F h=>∃(k:Nat) (ps:LI) (v:Value) (u:Value) (ls:LI),(k<=s.args.length)/\(ps.length<=k)/\(ps++WE n us s.op s.num (s.args.drop k) k=WE n us s.op s.num s.args 0)/\(ls.length<=k)/\(JV n s.op s.num s.args k ls)/\F=sF [1,3,5,15,16] fz [(6,ZV ps v),(7,ZV ls u),(17,.i k)]/\h=[Zy gz 2,Zy gz 3,.tail u 1,.tail v 1]/\m=s.args.length-k) _ _ _ ⟨0,[],(.slice none 0 0),(.slice none 0 0),[],ob,ob,rfl,ob,Z7i,rfl,rfl,rfl⟩ (wk [2,2,0,0] (fc (x:=nl) (Zk.slh _ (by first|rfl|(subst_vars;rfl))) (fc (x:=nl) (Zk.slh _ (by first|rfl|(subst_vars;rfl))) (ZT fl)))) ?_)))))))
 rintro m F h ⟨k,ps,v,u,ls,ZX,Z9,Zz,Y5,XD,rfl,rfl,rfl⟩
 refine Zf (aq (Xf ((k:Int)<(s.args.length:Int)) (fun Zd=>?_) (fun Zd=>?_)))
 ·refine ak (aq (ab 1 (ZM 1 ?_)))
  obtain ⟨x1,Z2⟩:=Zv s.args k om
  have hxa:=ha x1 (YA Z2)
  refine Zg (Zq none (k:Int) 1 (Yc Z2)) (Z0 (ab 2 (ZM 2 ?_)))
  obtain ⟨x2,Zt⟩:=Zv us x1.toNat om
  have hgx:=Vo Zt
  refine Zg (Zq none x1 1 (Yc Zt)) (Z0 (DX (fun fz gz F h=>∃(w:Value) (ps2:LI) (w3:Value) (ls2:LI),(ps2.length<=k+1)/\(ps2++WE n us s.op s.num (s.args.drop (k+1)) (k+1)=WE n us s.op s.num s.args 0)/\(ls2.length<=k+1)/\(JV n s.op s.num s.args (k+1) ls2)/\F=sF [1,3,5,15,16,17] fz [(6,ZV ps2 w),(7,ZV ls2 w3)]/\h=[Zy gz 0,Zy gz 1,.tail w 1,.tail w3 1]) (fun _ _=>rfl) ?_ ?_))
  ·refine ac (x2==0) Zr (fun Zw=>?_) (fun Zw=>?_)
   ·exact ak (Xk ⟨v,ps,u,ls,ob,(Pf Z2 (by rw [TV,hgx,Zw];simp) Zz),ob,(On XD (fun q=>hlt k x1 Z2 q (by rw [hgx];exact Zw))),rfl,rfl⟩ (wk [0,0,1,0] fl))
   refine ar (Xz 14 [1,3,5,6,7,8,9,15,16,17] [(46,.b ((s.op==9)&&(decide ((k:Int)∈((U4 n s.num).lnt)))))] (fun gz=>gz) ?_ (fun hj1=>?_))
   ·refine Yt ((s.op==9)&&(decide ((k:Int)∈((U4 n s.num).lnt)))) (p:=(s.op=9)/\((k:Int)∈((U4 n s.num).lnt))) (Yy Zr dq) (fun Yd=>?_) (fun Yd=>?_)
    ·refine az (Z1 2 (ic [2] (Zdy u ls x1 ob) ?_))
     rintro _ _ ⟨wu1,ys1,rfl,rfl,Ya⟩
     have hy:=Ya
     exact Z0 (Xk ⟨v,ps,wu1,ys1,ob,(Pf Z2 (by rw [TV,(hLA k).2 Yd];simp) Zz),(by have:=hy.1;omega),(Z7g Z2 XD ((hLA k).2 Yd) hy.2),rfl,rfl⟩ (wk [1,1,1,0] fl))
    exact az (Z1 2 (iL (Zi [(k:Int)]) 1 1 fun v1=>XX 0 [(24,Ze [(k:Int)])] (ip 4 (Zi (ps++[(k:Int)])) (Zi ps) (Zi [(k:Int)]) v none 1 (Wq _) (Wq _) (TY _) (by simp<;>omega) (by simp [TX,Zi]) fun v2=>Z0 (Xk ⟨v2,(ps++[(k:Int)]),u,ls,ob,(Z9b Z2 (by have h1:Qf s.op=true:=Wr.1 Z5;have h2:VK n s.op s.num k=false:=Ja.2 (fun q=>Yd ((hLA k).1 q));rw [TV,hgx,h1,h2];simp [Zw]) Zz),ob,(On XD (fun q=>Yd ((hLA k).1 q))),rfl,rfl⟩ (wk [2,2,0,1] fl)))))
   refine Y3 4 [0] (ib (b:=(s.op==9)) 36 (fun Zb=>?_) (fun Zb=>?_))
   ·have YT:s.op=9:=(Zr).1 Zb
    exact Y3 4 [1,0] (Zg (JK (es:=UQ (n.routines.map Xn)) (hv:=none) (j:=s.num) (sz:=3) (y:=DC (U4 n s.num)) kr (by have:=hnum (by assumption);omega) (AP (PP (by have:=hnum (by assumption);rw [Uh];omega))) rfl) (Z1 3 (ZC [] (ID ((U4 n s.num).lnt) (k:Int)) (Z1 1 (Yb (Y1 4 (Zp (decide ((k:Int)∈((U4 n s.num).lnt))) Zb fl)) hj1)))))
   have Xy:¬(s.op=9):=ZZ Zr Zb
   exact Z1 10 (Yb (Y1 4 (Zp false Zb fl)) hj1)
  rintro F h ⟨w,ps2,w3,ls2,Zf1,Zf2,Zf3,Zf4,rfl,rfl⟩
  exact az (ZK k (Z0 (ZJ ⟨k+1,ps2,w,w3,ls2,ob,ob,ob,ob,ob,rfl,rfl,rfl⟩ (wk [0,0,1,0] (fw (ZL k fl))))))
 exact ax 0 (ar (Z7 (r2 [3,2] [ZV ps v,ZV ls u] ⟨v,u,_,rfl,rfl,⟨by omega,Z7h XD om⟩⟩ (Zk.tup (.cons (Zk.slh _ (Yp Zi (Z9a om Zz))) (.cons (Zk.slh _ (Yp Zi ob)) .nil))))))
theorem SX (b:Nat) (ga:Hd) (gb:Hd) (gc:Hd) (n:Zl) (L:WH) (ln:LI) (am:List YL) (s:Z8) (q:Int) (hn:YY n:=by exact ob) (hk:YI n.decls L q:=by exact ob) (har:Wx n.decls L am:=by exact ob) (hln:ln.length<=4294967296:=by exact ob) (hal:am.length<=1000000000:=by exact ob) (hlb:L.vars.length<=1000000000:=by exact ob) (hf:Jf n L.vars s:=by exact ob) (hlt:∀(i:Nat) (a:Int),s.args[i]? = some a->VK n s.op s.num i=true->gI L.vars a≠0) (hsl:s.args.length<=1000000000:=by exact ob) (hq:0<=q/\q<=999999980:=by exact ob):Za 251 [.p b 0,XO s] [.obj b [ZI n.decls,Yo n,Ze ln,YO am,.h ga,.h gb,.h gc],rV ga L.vars,rV gb L.own,rV gc L.tok] (fun r h=>(∃(L':WH),r=.b true/\h=[.obj b [ZI n.decls,Yo n,Ze ln,YO am,.h ga,.h gb,.h gc],rV ga L'.vars,rV gb L'.own,rV gc L'.tok]/\Uo n ln L s.op s.num s.into s.args=some L')∨(r=.b false/\h=[]/\Uo n ln L s.op s.num s.into s.args=none)):=by
 have hlk:=hk.len
 obtain ⟨e1,e2,e3,e4,e5⟩:=hk.len
 have hpl:=Pe (n:=n) (us:=L.vars) (op:=s.op) (num:=s.num) s.args 0
 refine Zx 74 Tryz.func251 (ar (iA (WO s) fun b1=>Z0 (aD 15 (Y7 6 15 [0,1,2,3,4,5,6,7,8] [1,1,0] (ZF 9 (U9 9 [2] [] [] [rV ga L.vars] (Z5j n L.vars s (ha:=hf.args) (hnum:=hf.num) (hlt:=hlt)) clS (gS (gL (v:=ga) 0 (gS gN))) (Vk VQ) ?_))))))
 rintro _ _ ⟨vp1,vl1,ls1,rfl,rfl,Ya⟩
 have hls:=Ya
 refine Zm 0 5 [10,11,12,13,14] (de (Y8 1 (io (.i (((WE n L.vars s.op s.num s.args 0).length:Nat):Int)) (.i (((Zi (WE n L.vars s.op s.num s.args 0)).length:Nat):Int)) (li (by rw [Yk])) (Z0 (ab 0 (ZR (fun fz gz m F h=>∃(k:Nat) (L2:WH),(k<=(WE n L.vars s.op s.num s.args 0).length)/\(YI n.decls L2 q)/\(L2.vars=L.vars)/\(L2.par=L.par/\L2.con=L.con/\L2.fst=L.fst)/\(Qq s.args ((WE n L.vars s.op s.num s.args 0).drop k) L2=Qq s.args (WE n L.vars s.op s.num s.args 0) L)/\F=sF [0,3,6,24,25] fz [(26,.i k)]/\h=[rV ga L2.vars,Zy gz 3,Zy gz 4,rV gb L2.own,rV gc L2.tok,Zy gz 1,Zy gz 0]/\m=(WE n L.vars s.op s.num s.args 0).length-k) _ _ _ ⟨0,L,ob,hk,rfl,⟨rfl,rfl,rfl⟩,rfl,rfl,rfl,rfl⟩ (wk [2,2,2,2,2,1,0] (ZT fl)) ?_))))))
 rintro m F h ⟨k,L2,ZX,Z9,Zz,Y5,XD,rfl,rfl,rfl⟩
 refine Zf (aq (Xf ((k:Int)<(((WE n L.vars s.op s.num s.args 0).length:Nat):Int)) (fun Z5=>?_) (fun Z5=>?_)))
 ·refine ak (aq (ab 1 (ar ?_)))
  obtain ⟨x1,Z2⟩:=Zv (WE n L.vars s.op s.num s.args 0) k om
  have hpm:=I2 (YA Z2)
  refine Zg (Zq (some vp1) (k:Int) 1 (Yc Z2)) (Z0 (ZB 4 [1] ?_))
  obtain ⟨x2,Zt⟩:=Zv s.args x1.toNat om
  have hgx:=Vo Zt
  have hxa:=hf.args x2 (YA Zt)
  refine Zg (Zq none x1 1 (Yc Zt)) (Z1 1 (ZC [2,0,1,1] (DG b ga gb gc n L2 ln am x2 (hlk:=Z9.len) (hi:=(by rw [Zz];exact hxa)) (hq:=(fun y hy=>by have h1:=Z9.nn y hy;have h2:=Z9.bd y hy;omega))) (Yt (!decide (1<=gI L2.own x2)) (p:=¬(decide (1<=gI L2.own x2)=true)) (Yi Iff.rfl) (fun Zd=>?_) (fun Zd=>?_))))
  ·exact ar (Z7 (r1 [] (.inr ⟨rfl,rfl,(Z3q (Zd8 Z2 hgx (fun z=>Zd (decide_eq_true z)) XD))⟩)))
  have ht:=of_decide_eq_true (Wr.1 Zd)
  exact ak (az (ZK k (Z0 (ZJ ⟨k+1,(Xc L2 x2),ob,(Z9.take (by rw [JO,Z6 ht])),Zz,Y5,(Zd7 Z2 hgx ht XD),rfl,rfl,rfl⟩ (wk [1,3,0,0,0,0,0] (ZL k fl))))))
 have hT:=Zd6 om XD
 have har2:=har.same (M:=L2) (by rw [Zz]) Y5.1 Y5.2.1 Y5.2.2
 have hvl:L2.vars.length=L.vars.length:=by rw [Zz]
 obtain ⟨f1,f2,f3,f4,f5⟩:=Z9.len
 refine ax 0 (Y8 1 (iw (Yk ls1) (Z0 (ab 2 (ZR (fun fz gz m F h=>∃(j:Nat),(j<=ls1.length)/\(∀x∈ls1.take j,XV L2 ln x=true)/\F=sF [0,3,39,40] fz [(41,.i j)]/\h=[Zy gz 0,Zy gz 1,Zy gz 2,Zy gz 3,Zy gz 4,Zy gz 5]/\m=ls1.length-j) _ _ _ ⟨0,ob,(by simp),rfl,rfl,rfl⟩ (Y1 6 (ZT fl)) ?_)))))
 rintro m F h ⟨j,T0,Xh,rfl,rfl,rfl⟩
 refine Zf (aq (Xf ((j:Int)<(ls1.length:Int)) (fun Zw=>?_) (fun Zw=>?_)))
 ·refine ak (aq (ab 3 (ar ?_)))
  obtain ⟨x3,YW⟩:=Zv ls1 j om
  have hxm:=YA YW
  obtain ⟨i0,hi0,_⟩:=(hls.2 _).1 hxm
  have hxl:=hf.args _ (YA hi0)
  refine Zg (Zq (some vl1) (j:Int) 1 (Yc YW)) (Z0 (ZM 2 (ZC [2,0,1,1] (FY b ga gb gc _ L2 ln am x3 Z9.len har2 ob ob ob Z9.down (by rw [Zz];exact hxl)) (Yt (!XV L2 ln x3) (p:=¬(XV L2 ln x3=true)) (Yi Iff.rfl) (fun Yd=>?_) (fun Yd=>?_)))))
  ·exact ar (Z7 (r1 [] (.inr ⟨rfl,rfl,((Nr hT hls.2).2 ⟨x3,hxm,Yd⟩)⟩)))
  exact ak (az (ZK j (Z0 (ZJ ⟨j+1,ob,(by rw [WP YW];exact fun x hx=>(Yv.1 hx).elim (Xh x) (fun hx=>by rw [YH.1 hx];exact Wr.1 Yd)),rfl,rfl,rfl⟩ (wk [1,3,0,0,0,0] (ZL j fl))))))
 have hH:=(Nr (into:=s.into) hT hls.2).1 (fun x hx=>Xh x (by rw [W2 om];exact hx))
 have hin:=hf.into
 refine ax 2 (Yq (Vq [1] (ac (s.into != 0) ZO (fun Xm=>?_) (fun Xm=>?_))))
 ·refine aq (aD 13 (Y7 7 13 [0,1,2,3,4,5] [2,1] (da 6 ((s.into-1)) ((s.into)-(1)) (dx 7 (XB 4 gc L2.tok (s.into-1) ((s.into-1).toNat) (hq:=rfl)) ?_))))
  obtain ⟨x4,Te⟩:=Zv L2.tok ((s.into-1).toNat) om
  have hgt:=Vo Te
  refine Qh 8 (WQ 4 gc L2.tok ((s.into-1).toNat) x4 Te) (Y7 2 4 [9,10] [1] (dw 11 (Yk s.args) (Zm 0 1 [12] (de (ac (x4 != (s.args.length:Int)) ZO (fun Wc=>?_) (fun Wc=>?_))))))
  ·exact ar (Z7 (r1 [] (.inr ⟨rfl,rfl,(by rw [hH,K5,Z6 om,hgt,Z6 Wc])⟩)))
  exact ak (aE 9 (Y7 3 9 [0,1,2,3,4,5] [2,1] (da 6 ((s.into-1)) ((s.into)-(1)) (dx 7 (XB 4 gc L2.tok (s.into-1) ((s.into-1).toNat) (hq:=rfl)) (ZF 8 (Jn 8 4 [] [] gc L2.tok ((s.into-1).toNat) (-1) (de (ar (Z7 (r1 [3,1,2,0] (.inl ⟨(Zc.mk L2.vars L2.own L2.par L2.con L2.fst (L2.tok.set (s.into-1).toNat (-1))),rfl,rfl,(by rw [hH,K5,Z6 om,hgt,Z4 Wc])⟩) (eq:=(rc (rv (xs:=L2.vars) ob (rv (xs:=L2.own) ob (rv (xs:=(L2.tok.set ((s.into-1).toNat) (-1))) ob rz)))))))))))))))
 exact ak (ar (Z7 (r1 [2,0,1,1] (.inl ⟨L2,rfl,rfl,(by rw [hH,K5,Z4 om])⟩))))
theorem Z02 (b:Nat) (ga:Hd) (gb:Hd) (gc:Hd) (n:Zl) (L:WH) (ln:LI) (am:List YL) (xs:List Z8) (q:Int) (vs:LI) (hn:YY n:=by exact ob) (hk:YI n.decls L q:=by exact ob) (har:Wx n.decls L am:=by exact ob) (ht:Xr n xs L.vars=some vs:=by exact ob) (hnn:∀t∈L.vars,0<=t) (hb:L.vars.length+am.length+4*Y6 xs<=900000000:=by exact ob) (hq:0<=q/\q+4*Y6 xs<=999999980:=by exact ob) (hr:VV xs:=by exact ob) (ih:∀(s2:Z8) (c:Nat) (ra:Hd) (rb:Hd) (rc:Hd) (M:WH) (a2:List YL) (p:Int),(s2.sz<=Y6 xs)->(YI n.decls M p)->(Wx n.decls M a2)->(0<=ZQ n M.vars s2)->(∀t∈M.vars,0<=t)->(M.vars.length+a2.length+4*s2.sz<=900000000)->(0<=p/\p+4*s2.sz<=999999980)->(s2.rng)->Za 213 [.p c 0,XO s2] [.obj c [ZI n.decls,Yo n,Ze ln,YO a2,.h ra,.h rb,.h rc],rV ra M.vars,rV rb M.own,rV rc M.tok] (fun r h=>(∃(wa:Hd) (wb:Hd) (wc:Hd) (M':WH),r=.b true/\h=[.obj c [ZI n.decls,Yo n,Ze ln,YO a2,.h wa,.h wb,.h wc],rV wa M'.vars,rV wb M'.own,rV wc M'.tok]/\UW n ln M s2=some M')∨(r=.b false/\h=[]/\UW n ln M s2=none))):Za 159 [.p b 0,VR xs] [.obj b [ZI n.decls,Yo n,Ze ln,YO am,.h ga,.h gb,.h gc],rV ga L.vars,rV gb L.own,rV gc L.tok] (fun r h=>(∃(wa:Hd) (wb:Hd) (wc:Hd) (L':WH),r=.b true/\h=[.obj b [ZI n.decls,Yo n,Ze ln,YO am,.h wa,.h wb,.h wc],rV wa L'.vars,rV wb L'.own,rV wc L'.tok]/\V0 n ln L xs=some L')∨(r=.b false/\h=[]/\V0 n ln L xs=none)):=by
 have hxl:=Ri xs
 refine Zx 18 Tryz.func159 (Zf (Y8 1 (iw (T2 xs) (Z0 (ab 0 (ZR (fun fz gz m F h=>∃(k:Nat) (q2:Int) (L2:WH) (ka:Hd) (kb:Hd) (kc:Hd),(k<=xs.length)/\(YI n.decls L2 q2)/\(0<=q2/\q2+4*Y6 (xs.drop k)<=999999980)/\(L2.vars.length+am.length+4*Y6 (xs.drop k)<=900000000)/\(Xr n (xs.drop k) L2.vars=some vs)/\(V0 n ln L2 (xs.drop k)=V0 n ln L xs)/\(Wx n.decls L2 am)/\(∀t∈L2.vars,0<=t)/\F=sF [0,7,8] fz [(9,.i k)]/\h=[.obj b [ZI n.decls,Yo n,Ze ln,YO am,.h ka,.h kb,.h kc],rV ka L2.vars,rV kb L2.own,rV kc L2.tok]/\m=xs.length-k) _ _ _ ⟨0,q,L,ga,gb,gc,ob,hk,(by rw [TM];omega),(by rw [TM];omega),ht,rfl,har,hnn,rfl,rfl,rfl⟩ (Y1 4 (ZT fl)) ?_))))))
 rintro m F h ⟨k,q2,L2,ka,kb,kc,ZX,Z9,Zz,Y5,XD,KW,G8,M7,rfl,rfl,rfl⟩
 refine Zf (aq (Xf ((k:Int)<(xs.length:Int)) (fun Z5=>?_) (fun Z5=>?_)))
 ·obtain ⟨s1,hs1⟩:=Zv xs k om
  have hdr:=ZH hs1
  have hz:Y6 (xs.drop k)=s1.sz+Y6 (xs.drop (k+1)):=by rw [hdr,Y6]
  have YD:=Dd hs1
  have hsr:=IH hr hs1
  rw [hdr] at XD KW
  obtain ⟨g1,g2⟩:=C4 XD
  refine ak (aq (ab 1 (ar (Zg (Zq none (k:Int) 5 (U2 hs1)) (Z1 1 (iA [.i 0,.i 0,.i 0,nl,nl] fun b1=>Y0 0 b1 (WO s1) (ie (ZB 2 [0] (ic [1,1,1,1] (ih s1 b ka kb kc L2 am q2 ob Z9 G8 g1 M7 om om hsr) ?_)))))))))
  rintro _ _ (⟨wa1,wb1,wc1,M'1,rfl,rfl,Ya⟩|⟨rfl,rfl,YT⟩)
  ·have hP:=Ya
   have kx:=IM hn Z9 Zz.1 g1 hP
   exact Z0 (XC (ak (az (ZK k (Z0 (ZJ ⟨k+1,(q2+4*s1.sz),M'1,wa1,wb1,wc1,ob,kx.1,om,(by rw [kx.2];have:=C1 n L2.vars s1;omega),(by rw [kx.2];exact g2),(by rw [<-KW,V0,hP];rfl),(Rr hn Z9 Zz.1 g1 hP G8),(by rw [kx.2];exact Zae M7 g1),rfl,rfl,rfl⟩ (Y1 4 (ZL k fl))))))))
  have hP:=YT
  exact Z0 (W4 (ar (Z7 (r1 [] (.inr ⟨rfl,rfl,(by rw [<-KW,V0,hP];rfl)⟩)))))
 exact ax 0 (ar (Z7 (r1 [0,0,0,0] (.inl ⟨ka,kb,kc,L2,rfl,rfl,(by rw [<-KW,YR om];rfl)⟩))))
theorem Mg (am:List YL) (hl:am.length<=1000000000:=by exact ob):Za 327 [YO am] [] (fun r h=>∃(v:Value),r=HQ am v/\h=[.tail v 4]):=by
 refine Zx 8 Tryz.func327 (Zf (Y8 1 (iN (Wp am) (fun hz1=>?_) ?_)))
 ·have hz1:=Z2g hz1
  exact ie (W4 (Zf (TP 4 (ZG (r2 [0] [nl] ⟨(.slice none 0 0),rfl,rfl⟩ (Zk.slh _ (by first|rfl|(subst_vars;rfl))))))))
 exact ie (XC (ak (ar (iL (Wp []) 0 4 fun v1=>Z1 1 (ip 0 (Wp am) (Wp []) (Wp am) v1 none 4 (Bw _) (Bw _) (GD _) (by simp<;>omega) (by simp [Wp]) fun v2=>Z7 (r1 [0] ⟨v2,rfl,rfl⟩))))))
theorem LR (am:List YL) (a:YL) (hl:am.length<=900000000:=by exact ob):Za 294 [YO am,.agg [.i a.mat,.i a.fst,Ze a.fds,.b a.chg]] [] (ZP (YO (am++[a]))):=by
 refine Zx 10 Tryz.func294 (ar (iA [.i a.mat,.i a.fst,Ze a.fds,.b a.chg] fun b1=>?_))
 refine Z0 (aD 6 (Y7 4 6 [0,2] [0] (Gr (fun fz gz F h=>∃(v3:Value),F=sF [] fz [(4,HQ (am++[a]) v3)]/\h=gz) ?_ ?_)))
 ·refine Gu 1 3 ?_ ?_
  ·refine dc 1 [] [0] [b1] (Mg am) ?_
   rintro _ _ ⟨v1,rfl,rfl⟩
   exact ZF 3 (dL 3 [] [] (Wp [a]) 1 4 fun v2=>UN 2 2 [] [(8,YO [a])] (ZF 4 (dp 4 1 [] [] (Wp (am++[a])) (Wp am) (Wp [a]) v1 none 4 (Bw _) (Bw _) (GD _) (by simp<;>omega) (by simp [MH,Wp]) fun v3=>Zm 0 1 [5] (de (Xk ⟨v3,rfl,rfl⟩ (wk [2] fl))))))
  refine dL 3 [] [] (Wp [a]) 1 4 fun v4=>ZF 1 (dc 1 [] [] [] (Mg am) ?_)
  rintro _ _ ⟨v5,rfl,rfl⟩
  exact UN 2 2 [] [(8,YO [a])] (ZF 4 (dp 4 0 [] [] (Wp (am++[a])) (Wp am) (Wp [a]) v5 none 4 (Bw _) (Bw _) (GD _) (by simp<;>omega) (by simp [MH,Wp]) fun v6=>Zm 0 1 [5] (de (Xk ⟨v6,rfl,rfl⟩ (wk [2] fl)))))
 rintro F h ⟨v3,rfl,rfl⟩
 exact ZG (Zo (HQ (am++[a]) v3) (Zk.forget _ _))
theorem SW (b:Nat) (ga:Hd) (gb:Hd) (gc:Hd) (n:Zl) (L:WH) (ln:LI) (am:List YL) (s:Z8) (q:Int) (hn:YY n:=by exact ob) (hty:Qx n:=by exact ob) (hlt:AF n:=by exact ob) (hk:YI n.decls L q:=by exact ob) (har:Wx n.decls L am:=by exact ob) (hln:ln.length<=4294967296:=by exact ob) (hf:Jf n L.vars s:=by exact ob) (hop:s.op=7∨s.op=8:=by exact ob) (hnn:∀t∈L.vars,0<=t) (hb:L.vars.length+am.length+4*s.sz<=900000000:=by exact ob) (hq:0<=q/\q+4*s.sz<=999999980:=by exact ob) (hr:s.rng:=by exact ob) (ih:∀(ys:List Z8) (c:Nat) (ra:Hd) (rb:Hd) (rc:Hd) (M:WH) (a2:List YL) (p:Int) (vs:LI),(Y6 ys<s.sz)->(YI n.decls M p)->(Wx n.decls M a2)->(Xr n ys M.vars=some vs)->(∀t∈M.vars,0<=t)->(M.vars.length+a2.length+4*Y6 ys<=900000000)->(0<=p/\p+4*Y6 ys<=999999980)->(VV ys)->Za 159 [.p c 0,VR ys] [.obj c [ZI n.decls,Yo n,Ze ln,YO a2,.h ra,.h rb,.h rc],rV ra M.vars,rV rb M.own,rV rc M.tok] (fun r h=>(∃(wa:Hd) (wb:Hd) (wc:Hd) (M':WH),r=.b true/\h=[.obj c [ZI n.decls,Yo n,Ze ln,YO a2,.h wa,.h wb,.h wc],rV wa M'.vars,rV wb M'.own,rV wc M'.tok]/\V0 n ln M ys=some M')∨(r=.b false/\h=[]/\V0 n ln M ys=none))):Za 249 [.p b 0,XO s] [.obj b [ZI n.decls,Yo n,Ze ln,YO am,.h ga,.h gb,.h gc],rV ga L.vars,rV gb L.own,rV gc L.tok] (fun r h=>(∃(wa:Hd) (wb:Hd) (wc:Hd) (L':WH),r=.b true/\h=[.obj b [ZI n.decls,Yo n,Ze ln,YO am,.h wa,.h wb,.h wc],rV wa L'.vars,rV wb L'.own,rV wc L'.tok]/\Kw n ln L s=some L')∨(r=.b false/\h=[]/\Kw n ln L s=none)):=by
 have hlk:=hk.len
 obtain ⟨e1,e2,e3,e4,e5⟩:=hk.len
 have Ws:=hn.decls
 have hkz:=Ql s
 have haz:=A1 s
 obtain ⟨hk1,hk2,hk3⟩:=hf.kids hop
 obtain ⟨kd,hkd⟩:=Zv s.kids 0 om
 obtain ⟨x,hxa⟩:=hf.one om
 have ha:s.args[0]? = some x:=by rw [hxa];rfl
 have hx:=hf.args x (by rw [hxa];simp)
 have hgx:=J1 ha
 have hal0:=(XZ.1 ha).1
 have hr2:=hr
 rw [s.rng_eq] at hr2
 refine Zx 156 Tryz.func249 (ar (iA (WO s) fun b1=>Z0 (Yq (W7 [0,3] [(24,.b ((s.op==8)&&(!XV L ln x)))] (fun gz=>[Zy gz 1,Zy gz 2,Zy gz 3,Zy gz 4,Zy gz 0]) ?_ ?_))))
 ·refine Y3 4 [0] (ib (b:=(s.op==8)) 16 (fun Zb=>?_) (fun Zb=>?_))
  ·have Ya:s.op=8:=(Zr).1 Zb
   exact Y3 3 [0] (Zg (Zq none 0 1 (Yc ha)) (Z1 1 (ZC [1,1,1,1] (FY b ga gb gc n L ln am x ob ob ob ob ob hk.down ob) (Z0 (Y1 5 (Zp (!XV L ln x) Zb fl))))))
  have YT:¬(s.op=8):=ZZ Zr Zb
  exact Z0 (wk [1,1,1,1,0] (Zp false Zb fl))
 refine ac ((s.op==8)&&(!XV L ln x)) (p:=(s.op=8)/\(¬(XV L ln x=true))) (Yy Zr (Yi Iff.rfl)) (fun Z5=>?_) (fun Z5=>?_)
 ·exact ar (Z7 (r1 [] (.inr ⟨rfl,rfl,(Z0w Z5.1 (by rw [hgx];exact Z5.2))⟩)))
 have hgo:=Mf (n:=n) (ln:=ln) (L:=L) (s:=s) (by rw [hgx];exact Z5) hkd
 refine ak (ZB 2 [4] (iw (Ua s.kids) (iMN s.kids.length s.kids.length fun v1=>?_)))
 refine Z0 (Yq (Vq [5] (Tz (fun fz gz F h=>F=sF [0,3] fz [(5,Ak (YF n.decls s.op s.num))]/\h=[Zy gz 1,Zy gz 2,Zy gz 3,Zy gz 4,Zy gz 5]) ?_ ?_)))
 ·refine ac (s.op==8) Zr (fun Zd=>?_) (fun Zd=>?_)
  ·exact aE 8 (Y7 2 8 [0,1,2,3,4,5] [1,5] (ZF 6 (XY 6 [] [] [] (NL _ s.num) (Zm 0 1 [7] (de (Xk ⟨rfl,rfl⟩ (wk [1,1,1,1,1] (fc (x:=Ak ((YG n.decls s.num).map (Y2 n.decls))) (Zk.sl _ (Yp Ub (by rw [YF,Z4 om]))) fl))))))))
  exact ak (Xk ⟨rfl,rfl⟩ (wk [1,1,1,1,1] (fc (x:=CV (List.replicate s.kids.length []) v1) (Zk.sl _ (Yp Ub (by rw [show s.kids.length=2 by rw [hk1,YF,Z6 om];rfl,YF,Z6 om];rfl))) fl)))
 rintro F h ⟨rfl,rfl⟩
 refine ZB 4 [0] (Zg (KN 1 ga L.vars) (Z0 (Zf (Ym 2 [4] (iw (Ua s.kids) (Z0 (ab 0 (ZR (fun fz gz m F h=>(∃(k:Nat),(k=0)/\F=sF [0,3,5,6,7,45,46] fz [(47,.i k)]/\h=gz/\m=s.kids.length-k)∨(∃(k:Nat) (c0:Nat) (ua:Hd) (ub:Hd) (uc:Hd) (O:WH) (aO:List YL),(1<=k/\k<=s.kids.length)/\(WL n ln (Vb n.decls L s.op s.num s.args 0) L.vars.length kd=some (O.take L.vars.length))/\(L.vars.length<=O.own.length/\O.own.length<=1000000000/\L.vars.length<=O.tok.length/\O.tok.length<=1000000000)/\(QI n ln L s.op s.num s.args (O.take L.vars.length) (s.kids.drop k) k=QI n ln L s.op s.num s.args (O.take L.vars.length) (s.kids.drop 1) 1)/\F=sF [0,3,5,6,45,46] fz [(7,.p c0 0),(47,.i k)]/\h=[.obj c0 [ZI n.decls,Yo n,Ze ln,YO aO,.h ua,.h ub,.h uc],rV ua O.vars,rV ub O.own,rV uc O.tok,Zy gz 0,Zy gz 1,Zy gz 2,Zy gz 3,Zy gz 4]/\m=s.kids.length-k)) _ _ _ (.inl ⟨0,rfl,rfl,rfl,rfl⟩) (Y1 5 (ZT fl)) ?_))))))))
 rintro m F h (⟨k,ZX,rfl,rfl,rfl⟩|⟨k,c0,ua,ub,uc,O,aO,d0_0,d0_1,d0_2,d0_3,rfl,rfl,rfl⟩)
 ·refine Zf (aq (Xf ((k:Int)<(s.kids.length:Int)) (fun Zw=>?_) (fun Zw=>?_)))
  ·obtain ⟨ke,hke⟩:=Zv s.kids k om
   obtain ⟨mk,hmk⟩:=Zv (YF n.decls s.op s.num) k om
   have hK:=BQ hk hq.1 hf hop hmk
   have hmk3:=Bm Ws hmk
   have hks:=Ka hke
   have hbt:=hk3 k ke mk hke hmk
   obtain ⟨vs,rt,hvs,hres,hrt⟩:=Bp hbt
   have hri:=QX hres
   have hsrr:VV ke.steps:=by
    have h:=DJ hr2.2 hke
    rwa [Zh.rng_eq] at h
   have hbz:=ke.sz_eq
   have hak:=LO hn har hlk hop (by rw [hgx];exact hx) hmk
   have hsl:=Fg hvs
   rw [Yz] at hsl
   have hkl:=LN (L:=L) (am:=am) (s:=s) (m:=mk)
   refine ak (aq (ab 1 (ZM 1 (Zg (Zq none (k:Int) 2 (TA hke)) (Z1 1 (iA [nl,.i 0] fun b2=>Z1 1 (Y0 0 b2 (Vz ke) (ie (ZM 1 (ic [1,1,1,1] (LU b ga gb gc n L ln am) ?_))))))))))
   rintro _ _ ⟨c1,wa1,wb1,wc1,rfl,rfl⟩
   refine Z0 (Yq (Vq [9] (Tz (fun fz gz F h=>F=sF [0,3,5,6,7,8,9,10,45,46,47] fz []/\h=[.obj c1 [ZI n.decls,Yo n,Ze ln,YO (UZ L am s mk),.h wa1,.h wb1,.h wc1],Zy gz 1,Zy gz 2,Zy gz 3,Zy gz 4,Zy gz 5,Zy gz 6,Zy gz 7,Zy gz 8,Zy gz 9]) ?_ ?_)))
   ·refine ac (s.op==8) Zr (fun Yd=>?_) (fun Yd=>?_)
    ·exact aE 19 (Y7 12 19 [0,1,2,3,4,5,6] [4,9] (dx 7 (Zq none 0 1 (Yc ha)) (Zm 7 11 [8,9,10,11] (dx 12 (Zq none (k:Int) 1 (AO hmk)) (Zm 4 6 [13,14] (ZF 15 (XY 15 [] [] [] (LR am (YL.mk x (L.vars.length:Int) mk false)) (Zm 1 3 [16,17] (ZF 18 (Uw 18 0 [] [] c1 [ZI n.decls,Yo n,Ze ln,YO (am++[(YL.mk x (L.vars.length:Int) mk false)]),.h wa1,.h wb1,.h wc1] (de (Xk ⟨rfl,rfl⟩ (Y1 10 fl (e:=(ro (ls:=[ZI n.decls,Yo n,Ze ln,YO (am++[(YL.mk x (L.vars.length:Int) mk false)]),.h wa1,.h wb1,.h wc1]) (by rw [UZ,Z6 ‹s.op=8›,hgx]) (rc (rc (rc (rc (rc (rc (rc (rc (rc rz))))))))))))))))))))))))
    exact ak (Xk ⟨rfl,rfl⟩ (Y1 10 fl (e:=(ro (ls:=[ZI n.decls,Yo n,Ze ln,YO am,.h wa1,.h wb1,.h wc1]) (by rw [UZ,Z4 ‹¬s.op=8›]) (rc (rc (rc (rc (rc (rc (rc (rc (rc rz)))))))))))))
   rintro F h ⟨rfl,rfl⟩
   refine Y8 2 (Zg (Zq none (k:Int) 1 (AO hmk)) (Z1 1 (iw (Yk mk) (Z0 (ab 2 (ZR (fun fz gz m F h=>∃(j:Nat) (L3:WH) (ka:Hd) (kb:Hd) (kc:Hd),(j<=mk.length)/\(W9 L3)/\(L3.vars.length=L.vars.length+j)/\(K2 L3 (gI s.args 0) (mk.drop j)=Vb n.decls L s.op s.num s.args k)/\F=sF [0,3,5,6,7,9,10,45,46,47,78,79] fz [(80,.i j)]/\h=[.obj c1 [ZI n.decls,Yo n,Ze ln,YO (UZ L am s mk),.h ka,.h kb,.h kc],Zy gz 4,Zy gz 5,Zy gz 6,Zy gz 7,Zy gz 8,Zy gz 9,rV ka L3.vars,rV kb L3.own,rV kc L3.tok]/\m=mk.length-j) _ _ _ ⟨0,(Kg n L s k),wa1,wb1,wc1,ob,(Rq hlk),(by rw [Av];rfl),(by rw [TM];exact Rp hop hmk),rfl,rfl,rfl⟩ (wk [0,3,3,3,3,3,3,0,0,0] (ZT fl) (e:=(rc (rc (rc (rc (rc (rc (rc (rv (xs:=L.vars) (by first|rw [Av]|rw [C2]|rw [C3]) (rv (xs:=L.own) (by first|rw [Av]|rw [C2]|rw [C3]) (rv (xs:=L.tok) (by first|rw [Av]|rw [C2]|rw [C3]) rz)))))))))))) ?_))))))
   rintro m F h ⟨j,L3,ka,kb,kc,T0,Xh,U7,AM,rfl,rfl,rfl⟩
   refine Zf (aq (Xf ((j:Int)<(mk.length:Int)) (fun Xm=>?_) (fun Xm=>?_)))
   ·obtain ⟨xm,hxm⟩:=Zv mk j om
    refine ak (aq (ab 3 (ar (Zg (Zq none (j:Int) 1 (Yc hxm)) (Z0 (az (Z1 2 (ic [0,6,6,6] (Bn c1 ka kb kc n L3 ln (UZ L am s mk) xm 0 (hlk:=Xh)) ?_))))))))
    rintro _ _ ⟨wa2,wb2,wc2,rfl⟩
    exact ie (az (ZK j (Z0 (ZJ ⟨j+1,(L3.grow xm 0 (gI s.args 0)),wa2,wb2,wc2,ob,(W9.grow Xh),(by simp [Zc.grow];omega),(by rw [ZH hxm,K2] at AM;exact AM),rfl,rfl,rfl⟩ (wk [0,3,3,3,3,3,3,0,0,0] (ZL j fl) (e:=(rc (rc (rc (rc (rc (rc (rc (rv (xs:=(L3.grow xm 0 (-1)).vars) ob (rv (xs:=(L3.grow xm 0 (-1)).own) ob (rv (xs:=(L3.grow xm 0 (-1)).tok) ob rz))))))))))))))))
   have hE:L3=Vb n.decls L s.op s.num s.args k:=by rw [<-AM,YR om];rfl
   have hL3v:L3.vars=L.vars++mk:=by rw [hE];exact hK.2
   have hL3l:L3.vars.length=L.vars.length+mk.length:=by rw [hL3v,Yz]
   refine ax 2 (Ym 3 [5] (ic [0,6,6,6] (ih ke.steps c1 ka kb kc L3 (UZ L am s mk) q vs ob (by rw [hE];exact hK.1) (by rw [hE];exact hak) (by rw [hL3v];exact hvs) (by rw [hL3v];exact CU hnn (LP hty hmk)) om om hsrr) ?_))
   rintro _ _ (⟨wa3,wb3,wc3,M'1,rfl,rfl,Xy⟩|⟨rfl,rfl,XE⟩)
   ·have hP:=Xy
    have kx:=Fh hn (by rw [hE];exact hK.1) hq.1 (by rw [hE];exact hak) (by rw [hL3v];exact hvs) hP
    have kl:=kx.1.len
    have hm1:(XG M'1 ke.result).own.length=vs.length:=by rw [E8.1,kl.own,kx.2.1]
    have hm2:(XG M'1 ke.result).tok.length=vs.length:=by rw [E8.2.1,kl.tok,kx.2.1]
    refine Y3 5 [8] (ic [0,0,0,0] (FZ c1 wa3 wb3 wc3 n M'1 ln (UZ L am s mk) ke L.vars.length (hlk:=kl) (hlb:=(by rw [kx.2.1];omega)) (hm:=(by rw [kx.2.1];omega)) (hr:=(by rw [kx.2.1];omega)) (hq:=(fun y hy=>by have h1:=kx.1.nn y hy;have h2:=kx.1.bd y hy;omega))) ?_)
    rintro _ _ (⟨rfl,rfl,VO⟩|⟨rfl,rfl,Up⟩)
    ·have hB:=VO
     rw [<-Fk (f:=VH L.vars.length ke.result) hP,hE,<-Ku] at hB
     exact Z0 (XC (ak (ab 4 (ZM 1 (iQ true (Z0 (W4 (Qj (az (ZK k (Z0 (ZJ (.inr ⟨k+1,c1,wa3,wb3,wc3,(XG M'1 ke.result),(UZ L am s mk),om,(by subst ZX;have e:=Ti (hkd.symm.trans hke);subst e;exact hB),om,(by subst ZX;rfl),rfl,rfl,rfl⟩) (wk [0,0,0,0,0,0,0,0,1] (fr (ZL k fl)))))))))))))))
    have hB:=Up
    rw [<-Fk (f:=VH L.vars.length ke.result) hP,hE,<-Ku] at hB
    exact Z0 (W4 (ar (Z7 (r1 [] (.inr ⟨rfl,rfl,(by subst ZX;have e:=Ti (hkd.symm.trans hke);subst e;rw [hgo,hB];rfl)⟩)))))
   have hB:WL n ln (Vb n.decls L s.op s.num s.args k) L.vars.length ke=none:=by rw [Ku,<-hE,XE];rfl
   exact Z0 (W4 (ar (Z7 (r1 [] (.inr ⟨rfl,rfl,(by subst ZX;have e:=Ti (hkd.symm.trans hke);subst e;rw [hgo,hB];rfl)⟩)))))
  exact absurd hk2 om
 refine Zf (aq (Xf ((k:Int)<(s.kids.length:Int)) (fun Wc=>?_) (fun Wc=>?_)))
 ·obtain ⟨ke,hke⟩:=Zv s.kids k om
  obtain ⟨mk,hmk⟩:=Zv (YF n.decls s.op s.num) k om
  have hK:=BQ hk hq.1 hf hop hmk
  have hmk3:=Bm Ws hmk
  have hks:=Ka hke
  have hbt:=hk3 k ke mk hke hmk
  obtain ⟨vs,rt,hvs,hres,hrt⟩:=Bp hbt
  have hri:=QX hres
  have hsrr:VV ke.steps:=by
   have h:=DJ hr2.2 hke
   rwa [Zh.rng_eq] at h
  have hbz:=ke.sz_eq
  have hak:=LO hn har hlk hop (by rw [hgx];exact hx) hmk
  have hsl:=Fg hvs
  rw [Yz] at hsl
  have hkl:=LN (L:=L) (am:=am) (s:=s) (m:=mk)
  refine ak (aq (ab 1 (ZM 1 (Zg (Zq none (k:Int) 2 (TA hke)) (Z1 1 (iA [nl,.i 0] fun b3=>Z1 1 (Y0 0 b3 (Vz ke) (ie (ZM 1 (ic [5,5,5,5] (LU b ga gb gc n L ln am) ?_))))))))))
  rintro _ _ ⟨c2,wa4,wb4,wc4,rfl,rfl⟩
  refine Z0 (Yq (Vq [13] (Tz (fun fz gz F h=>F=sF [0,3,5,6,7,8,9,10,45,46,47] fz []/\h=[.obj c2 [ZI n.decls,Yo n,Ze ln,YO (UZ L am s mk),.h wa4,.h wb4,.h wc4],Zy gz 1,Zy gz 2,Zy gz 3,Zy gz 4,Zy gz 5,Zy gz 6,Zy gz 7,Zy gz 8,Zy gz 9,Zy gz 10,Zy gz 11,Zy gz 12,Zy gz 13]) ?_ ?_)))
  ·refine ac (s.op==8) Zr (fun UU=>?_) (fun UU=>?_)
   ·exact aE 19 (Y7 12 19 [0,1,2,3,4,5,6] [4,13] (dx 7 (Zq none 0 1 (Yc ha)) (Zm 7 11 [8,9,10,11] (dx 12 (Zq none (k:Int) 1 (AO hmk)) (Zm 4 6 [13,14] (ZF 15 (XY 15 [] [] [] (LR am (YL.mk x (L.vars.length:Int) mk false)) (Zm 1 3 [16,17] (ZF 18 (Uw 18 0 [] [] c2 [ZI n.decls,Yo n,Ze ln,YO (am++[(YL.mk x (L.vars.length:Int) mk false)]),.h wa4,.h wb4,.h wc4] (de (Xk ⟨rfl,rfl⟩ (Y1 14 fl (e:=(ro (ls:=[ZI n.decls,Yo n,Ze ln,YO (am++[(YL.mk x (L.vars.length:Int) mk false)]),.h wa4,.h wb4,.h wc4]) (by rw [UZ,Z6 ‹s.op=8›,hgx]) (rc (rc (rc (rc (rc (rc (rc (rc (rc (rc (rc (rc (rc rz))))))))))))))))))))))))))))
   exact ak (Xk ⟨rfl,rfl⟩ (Y1 14 fl (e:=(ro (ls:=[ZI n.decls,Yo n,Ze ln,YO am,.h wa4,.h wb4,.h wc4]) (by rw [UZ,Z4 ‹¬s.op=8›]) (rc (rc (rc (rc (rc (rc (rc (rc (rc (rc (rc (rc (rc rz)))))))))))))))))
  rintro F h ⟨rfl,rfl⟩
  refine Y8 2 (Zg (Zq none (k:Int) 1 (AO hmk)) (Z1 1 (iw (Yk mk) (Z0 (ab 2 (ZR (fun fz gz m F h=>∃(j:Nat) (L3:WH) (ka:Hd) (kb:Hd) (kc:Hd),(j<=mk.length)/\(W9 L3)/\(L3.vars.length=L.vars.length+j)/\(K2 L3 (gI s.args 0) (mk.drop j)=Vb n.decls L s.op s.num s.args k)/\F=sF [0,3,5,6,7,9,10,45,46,47,78,79] fz [(80,.i j)]/\h=[.obj c2 [ZI n.decls,Yo n,Ze ln,YO (UZ L am s mk),.h ka,.h kb,.h kc],Zy gz 4,Zy gz 5,Zy gz 6,Zy gz 7,Zy gz 8,Zy gz 9,Zy gz 10,Zy gz 11,Zy gz 12,Zy gz 13,rV ka L3.vars,rV kb L3.own,rV kc L3.tok]/\m=mk.length-j) _ _ _ ⟨0,(Kg n L s k),wa4,wb4,wc4,ob,(Rq hlk),(by rw [Av];rfl),(by rw [TM];exact Rp hop hmk),rfl,rfl,rfl⟩ (wk [0,3,3,3,3,3,3,3,3,3,3,0,0,0] (ZT fl) (e:=(rc (rc (rc (rc (rc (rc (rc (rc (rc (rc (rc (rv (xs:=L.vars) (by first|rw [Av]|rw [C2]|rw [C3]) (rv (xs:=L.own) (by first|rw [Av]|rw [C2]|rw [C3]) (rv (xs:=L.tok) (by first|rw [Av]|rw [C2]|rw [C3]) rz)))))))))))))))) ?_))))))
  rintro m F h ⟨j,L3,ka,kb,kc,T0,Xh,U7,AM,rfl,rfl,rfl⟩
  refine Zf (aq (Xf ((j:Int)<(mk.length:Int)) (fun Vy=>?_) (fun Vy=>?_)))
  ·obtain ⟨xm,hxm⟩:=Zv mk j om
   refine ak (aq (ab 3 (ar (Zg (Zq none (j:Int) 1 (Yc hxm)) (Z0 (az (Z1 2 (ic [0,10,10,10] (Bn c2 ka kb kc n L3 ln (UZ L am s mk) xm 0 (hlk:=Xh)) ?_))))))))
   rintro _ _ ⟨wa5,wb5,wc5,rfl⟩
   exact ie (az (ZK j (Z0 (ZJ ⟨j+1,(L3.grow xm 0 (gI s.args 0)),wa5,wb5,wc5,ob,(W9.grow Xh),(by simp [Zc.grow];omega),(by rw [ZH hxm,K2] at AM;exact AM),rfl,rfl,rfl⟩ (wk [0,3,3,3,3,3,3,3,3,3,3,0,0,0] (ZL j fl) (e:=(rc (rc (rc (rc (rc (rc (rc (rc (rc (rc (rc (rv (xs:=(L3.grow xm 0 (-1)).vars) ob (rv (xs:=(L3.grow xm 0 (-1)).own) ob (rv (xs:=(L3.grow xm 0 (-1)).tok) ob rz))))))))))))))))))))
  have hE:L3=Vb n.decls L s.op s.num s.args k:=by rw [<-AM,YR om];rfl
  have hL3v:L3.vars=L.vars++mk:=by rw [hE];exact hK.2
  have hL3l:L3.vars.length=L.vars.length+mk.length:=by rw [hL3v,Yz]
  refine ax 2 (Ym 3 [5] (ic [0,10,10,10] (ih ke.steps c2 ka kb kc L3 (UZ L am s mk) q vs ob (by rw [hE];exact hK.1) (by rw [hE];exact hak) (by rw [hL3v];exact hvs) (by rw [hL3v];exact CU hnn (LP hty hmk)) om om hsrr) ?_))
  rintro _ _ (⟨wa6,wb6,wc6,M'2,rfl,rfl,UV⟩|⟨rfl,rfl,Td⟩)
  ·have hP:=UV
   have kx:=Fh hn (by rw [hE];exact hK.1) hq.1 (by rw [hE];exact hak) (by rw [hL3v];exact hvs) hP
   have kl:=kx.1.len
   have hm1:(XG M'2 ke.result).own.length=vs.length:=by rw [E8.1,kl.own,kx.2.1]
   have hm2:(XG M'2 ke.result).tok.length=vs.length:=by rw [E8.2.1,kl.tok,kx.2.1]
   refine Y3 5 [8] (ic [0,0,0,0] (FZ c2 wa6 wb6 wc6 n M'2 ln (UZ L am s mk) ke L.vars.length (hlk:=kl) (hlb:=(by rw [kx.2.1];omega)) (hm:=(by rw [kx.2.1];omega)) (hr:=(by rw [kx.2.1];omega)) (hq:=(fun y hy=>by have h1:=kx.1.nn y hy;have h2:=kx.1.bd y hy;omega))) ?_)
   rintro _ _ (⟨rfl,rfl,Qk⟩|⟨rfl,rfl,K8⟩)
   ·have hB:=Qk
    rw [<-Fk (f:=VH L.vars.length ke.result) hP,hE,<-Ku] at hB
    refine Z0 (XC (ak (ab 4 (ZM 1 (iQ false (Z0 (XC (aD 31 (Y7 26 31 [0,1,2,3,4] [0] (dx 5 (Qr 2 wb6 ((XG M'2 ke.result).own) L.vars.length) (Y7 20 25 [6,7,8,9,10] [9] (dx 11 (Qr 11 ub O.own L.vars.length) (ZF 12 (U9 12 [2,10] [] [] [rV wb6 ((XG M'2 ke.result).own),rV ub O.own] (B4 (((XG M'2 ke.result).own).take L.vars.length) (O.own.take L.vars.length)) A3 (gC (v:=wb6) (ys:=(XG M'2 ke.result).own) 0 L.vars.length (gC (v:=ub) (ys:=O.own) 1 L.vars.length gN)) (Vk (Vk VQ)) ?_))))))))))))))
    rintro _ _ ⟨rfl,rfl⟩
    refine Jm [0,3,5,6,7,45,46,47] [(104,.b ((!(decide ((((XG M'2 ke.result).own).take L.vars.length)=(O.own.take L.vars.length))))||(!(decide ((((XG M'2 ke.result).tok).take L.vars.length)=(O.tok.take L.vars.length))))))] (fun gz=>gz) ?_ ?_
    ·refine Zm 16 18 [13,14] (db (b:=(!(decide ((((XG M'2 ke.result).own).take L.vars.length)=(O.own.take L.vars.length))))) 119 (fun ZD=>?_) (fun ZD=>?_))
     ·have Jw:¬((((XG M'2 ke.result).own).take L.vars.length)=(O.own.take L.vars.length)):=((Yi dq)).1 ZD
      exact Zm 0 16 [15,16,17,18,19,20,21,22,23,24,25,26,27,28,29,30] (de (Y1 14 (Zp true ZD fl)))
     have Ab:¬(¬((((XG M'2 ke.result).own).take L.vars.length)=(O.own.take L.vars.length))):=ZZ (Yi dq) ZD
     refine Y7 11 16 [15,16,17,18,19] [2] (dx 20 (Qr 4 wc6 ((XG M'2 ke.result).tok) L.vars.length) (Y7 5 10 [21,22,23,24,25] [10] (dx 26 (Qr 12 uc O.tok L.vars.length) (ZF 27 (U9 27 [4,11] [] [] [rV wc6 ((XG M'2 ke.result).tok),rV uc O.tok] (B4 (((XG M'2 ke.result).tok).take L.vars.length) (O.tok.take L.vars.length)) A3 (gC (v:=wc6) (ys:=(XG M'2 ke.result).tok) 0 L.vars.length (gC (v:=uc) (ys:=O.tok) 1 L.vars.length gN)) (Vk (Vk VQ)) ?_)))))
     rintro _ _ ⟨rfl,rfl⟩
     exact Zm 0 3 [28,29,30] (de (wk [2,2,2,2,0,1,1,1,1,1,1,1,0,0] (Zp (!(decide ((((XG M'2 ke.result).tok).take L.vars.length)=(O.tok.take L.vars.length)))) ZD fl)))
    refine ac ((!(decide ((((XG M'2 ke.result).own).take L.vars.length)=(O.own.take L.vars.length))))||(!(decide ((((XG M'2 ke.result).tok).take L.vars.length)=(O.tok.take L.vars.length))))) (p:=(¬((((XG M'2 ke.result).own).take L.vars.length)=(O.own.take L.vars.length)))∨(¬((((XG M'2 ke.result).tok).take L.vars.length)=(O.tok.take L.vars.length)))) (Yg (Yi dq) (Yi dq)) (fun T3=>?_) (fun T3=>?_)
    ·exact ar (Z7 (r1 [] (.inr ⟨rfl,rfl,(by rw [hgo,d0_1];exact CS (by rw [<-d0_3,CM hke,hB];exact PI (T3.imp (fun h g=>h g.symm) (fun h g=>h g.symm))))⟩)))
    exact ak (az (ZK k (Z0 (ZJ (.inr ⟨k+1,c0,ua,ub,uc,O,aO,om,d0_1,d0_2,(by rw [CM hke,hB,PJ (fun z=>T3 (z.imp (fun h g=>h g.symm) (fun h g=>h g.symm)))] at d0_3;exact d0_3),rfl,rfl,rfl⟩) (wk [10,10,1,9,4,4,4,4,5] (fr (ZL k fl)))))))
   have hB:=K8
   rw [<-Fk (f:=VH L.vars.length ke.result) hP,hE,<-Ku] at hB
   exact Z0 (W4 (ar (Z7 (r1 [] (.inr ⟨rfl,rfl,(by rw [hgo,d0_1];exact CS (by rw [<-d0_3,CM hke,hB];rfl))⟩)))))
  have hB:WL n ln (Vb n.decls L s.op s.num s.args k) L.vars.length ke=none:=by rw [Ku,<-hE,Td];rfl
  exact Z0 (W4 (ar (Z7 (r1 [] (.inr ⟨rfl,rfl,(by rw [hgo,d0_1];exact CS (by rw [<-d0_3,CM hke,hB];rfl))⟩)))))
 refine ax 0 (aD 22 (Y7 15 22 [0,1,2,3,4,5,6] [0] (dx 7 (Qr 2 ub O.own L.vars.length) (Y7 9 14 [9,10,11,12,13] [0] (dx 14 (Qr 3 uc O.tok L.vars.length) (ZF 8 (U9 8 [2] [0] [c0] [rV ub O.own] (Cp (O.own.take L.vars.length)) QG (gC (v:=ub) (ys:=O.own) 0 L.vars.length gN) (Vk VQ) ?_)))))))
 rintro _ _ ⟨v2,rfl,rfl⟩
 refine ZF 15 (U9 15 [4] [] [] [rV uc O.tok] (Cp (O.tok.take L.vars.length)) QG (gC (v:=uc) (ys:=O.tok) 0 L.vars.length gN) (Vk VQ) ?_)
 rintro _ _ ⟨v3,rfl,rfl⟩
 exact Zm 4 6 [16,17] (ZF 18 (Uw 18 6 [] [] b [ZI n.decls,Yo n,Ze ln,YO am,.h ga,.h v2,.h gc] (Zm 1 3 [19,20] (ZF 21 (Uw 21 0 [] [] b [ZI n.decls,Yo n,Ze ln,YO am,.h ga,.h v2,.h v3] (de (ar (Z7 (r1 [0,6,2,0] (.inl ⟨ga,v2,v3,(Zc.mk L.vars (O.own.take L.vars.length) L.par L.con L.fst (O.tok.take L.vars.length)),rfl,rfl,(by rw [hgo,d0_1];exact OC (by rw [<-d0_3,YR om];rfl))⟩) (eq:=(rc (rv (xs:=L.vars) ob (rv (xs:=(O.own.take L.vars.length)) ob (rv (xs:=(O.tok.take L.vars.length)) ob rz))))))))))))))
theorem Hf (n:Zl) (us:LI) (s:Z8) (hn:YY n) (hty:Qx n) (hnn:∀t∈us,0<=t) (hb:us.length+4*s.sz<=1000000000) (hr:s.rng):Za 208 [.agg [ZI n.decls,Yo n],Ze us,XO s] [] (fun r h=>∃(t:Int),r=.tup [.i t,.b (decide (0<=ZQ n us s))]/\h=[]/\(¬YU s.op=true->0<=ZQ n us s->t=ZQ n us s)):=
 NN n us s hn hty hnn hb hr fun b us2 _ h2 h3 h4=>NE n us2 b hn hty h4 h2 h3
theorem Z00 (b:Nat) (ga:Hd) (gb:Hd) (gc:Hd) (n:Zl) (L:WH) (ln:LI) (am:List YL) (s:Z8) (q:Int) (hn:YY n:=by exact ob) (hty:Qx n:=by exact ob) (hlt:AF n:=by exact ob) (hk:YI n.decls L q:=by exact ob) (har:Wx n.decls L am:=by exact ob) (hln:ln.length<=4294967296:=by exact ob) (ht:0<=ZQ n L.vars s:=by exact ob) (hnn:∀t∈L.vars,0<=t) (hb:L.vars.length+am.length+4*s.sz<=900000000:=by exact ob) (hq:0<=q/\q+4*s.sz<=999999980:=by exact ob) (hr:s.rng:=by exact ob) (ih:∀(ys:List Z8) (c:Nat) (ra:Hd) (rb:Hd) (rc:Hd) (M:WH) (a2:List YL) (p:Int) (vs:LI),(Y6 ys<s.sz)->(YI n.decls M p)->(Wx n.decls M a2)->(Xr n ys M.vars=some vs)->(∀t∈M.vars,0<=t)->(M.vars.length+a2.length+4*Y6 ys<=900000000)->(0<=p/\p+4*Y6 ys<=999999980)->(VV ys)->Za 159 [.p c 0,VR ys] [.obj c [ZI n.decls,Yo n,Ze ln,YO a2,.h ra,.h rb,.h rc],rV ra M.vars,rV rb M.own,rV rc M.tok] (fun r h=>(∃(wa:Hd) (wb:Hd) (wc:Hd) (M':WH),r=.b true/\h=[.obj c [ZI n.decls,Yo n,Ze ln,YO a2,.h wa,.h wb,.h wc],rV wa M'.vars,rV wb M'.own,rV wc M'.tok]/\V0 n ln M ys=some M')∨(r=.b false/\h=[]/\V0 n ln M ys=none))):Za 213 [.p b 0,XO s] [.obj b [ZI n.decls,Yo n,Ze ln,YO am,.h ga,.h gb,.h gc],rV ga L.vars,rV gb L.own,rV gc L.tok] (fun r h=>(∃(wa:Hd) (wb:Hd) (wc:Hd) (L':WH),r=.b true/\h=[.obj b [ZI n.decls,Yo n,Ze ln,YO am,.h wa,.h wb,.h wc],rV wa L'.vars,rV wb L'.own,rV wc L'.tok]/\UW n ln L s=some L')∨(r=.b false/\h=[]/\UW n ln L s=none)):=by
 have hlk:=hk.len
 obtain ⟨e1,e2,e3,e4,e5⟩:=hk.len
 have hf:=B6 ht
 have hkz:=Ql s
 have haz:=A1 s
 have hlh:=Z7j hlt ht
 refine Zx 58 Tryz.func213 (ar (iA (WO s) fun b1=>Z0 (aq (ab 0 (ZB 2 [0] (ZC [] (Ep s.op) (Yt (YU s.op) Iff.rfl (fun Z5=>?_) (fun Z5=>?_))))))))
 ·obtain ⟨x,hxa⟩:=hf.one (.inr (.inr (by simpa [YU] using Z5)))
  have ha:s.args[0]? = some x:=by rw [hxa];rfl
  have hx:=hf.args x (by rw [hxa];simp)
  have hgx:=J1 ha
  have hal:=(XZ.1 ha).1
  refine aD 9 (Y7 4 9 [0,1,2,3,4] [0,0] (dx 5 (Zq none 0 1 (Yc ha)) (Zm 2 3 [6] (ZF 7 (dc 7 [1,1,1,1] [] [] (SY b ga gb gc n L ln am s.op x q) ?_)))))
  rintro _ _ (⟨L'1,rfl,rfl,Ya⟩|⟨rfl,rfl,YT⟩)
  ·exact Zm 0 1 [8] (de (ZG (r1 [0,0,0,0] (.inl ⟨ga,gb,gc,L'1,rfl,rfl,(by rw [Rt Z5 hgx];exact Ya)⟩))))
  exact Zm 0 1 [8] (de (ZG (r1 [] (.inr ⟨rfl,rfl,(by rw [Rt Z5 hgx];exact YT)⟩))))
 refine ar (Xz 8 [0,3] [(27,.b ((s.op==7)||(s.op==8)))] (fun gz=>gz) ?_ (fun hj1=>?_))
 ·refine Yt ((s.op==7)||(s.op==8)) (p:=(s.op=7)∨(s.op=8)) (Yg Zr Zr) (fun Zd=>?_) (fun Zd=>?_)
  ·refine ZB 2 [0] (ic [1,1,1,1] (SW b ga gb gc n L ln am s q (hnn:=ob) (ih:=ih)) ?_)
   rintro _ _ (⟨wa1,wb1,wc1,L'2,rfl,rfl,Xy⟩|⟨rfl,rfl,XE⟩)
   ·have hP:=(EU (n:=n) (ln:=ln) (L:=L) Zd).trans Xy
    obtain ⟨kx,hxv⟩:=An hn hk hq.1 hf hP
    refine Z0 (XC (ak (aD 15 (Y7 6 15 [0,1,2,3,4,5,6,7,8] [0,0,4] (ZF 9 (U9 9 [1] [] [] [rV wa1 L'2.vars] (Hf n L'2.vars s ob ob (by rw [hxv];exact hnn) (by rw [hxv];omega) ob) Gj (gS (gL (v:=wa1) 0 (gS gN))) (Vk VQ) ?_))))))
    rintro _ _ ⟨t1,rfl,rfl,VO⟩
    rw [hxv] at VO
    have hte:=VO Z5 ht
    refine Zm 0 5 [10,11,12,13,14] (de (ZM 3 (iI t1 1 (ic [1,0,0,0] (Bn b wa1 wb1 wc1 n L'2 ln am t1 (min t1 1) (hlb:=(by rw [hxv];omega)) (hlk:=kx.len)) ?_))))
    rintro _ _ ⟨wa2,wb2,wc2,rfl⟩
    exact ie (ar (Z7 (r1 [0,0,0,0] (.inl ⟨wa2,wb2,wc2,(L'2.grow t1 (min t1 1) (-1)),rfl,rfl,(IN hP ht Z5 hte)⟩))))
   have hP:=(EU (n:=n) (ln:=ln) (L:=L) Zd).trans XE
   exact Z0 (W4 (ar (Z7 (r1 [] (.inr ⟨rfl,rfl,(Ru hP)⟩)))))
  refine ZB 2 [0] (ZC [] (NJ s.op) (Yt (Qf s.op) Iff.rfl (fun Zw=>?_) (fun Zw=>?_)))
  ·refine ZB 2 [0] (ic [1,1,1,1] (SX b ga gb gc n L ln am s q (hlt:=hlh)) ?_)
   rintro _ _ (⟨L'3,rfl,rfl,Up⟩|⟨rfl,rfl,UV⟩)
   ·have hP:=(I1 (n:=n) (ln:=ln) (L:=L) Z5 Zd).trans Up
    obtain ⟨kx,hxv⟩:=An hn hk hq.1 hf hP
    refine Z0 (XC (ak (aD 15 (Y7 6 15 [0,1,2,3,4,5,6,7,8] [0,0,4] (ZF 9 (U9 9 [1] [] [] [rV ga L'3.vars] (Hf n L'3.vars s ob ob (by rw [hxv];exact hnn) (by rw [hxv];omega) ob) Gj (gS (gL (v:=ga) 0 (gS gN))) (Vk VQ) ?_))))))
    rintro _ _ ⟨t2,rfl,rfl,Td⟩
    rw [hxv] at Td
    have hte:=Td Z5 ht
    refine Zm 0 5 [10,11,12,13,14] (de (ZM 3 (iI t2 1 (ic [1,0,0,0] (Bn b ga gb gc n L'3 ln am t2 (min t2 1) (hlb:=(by rw [hxv];omega)) (hlk:=kx.len)) ?_))))
    rintro _ _ ⟨wa3,wb3,wc3,rfl⟩
    exact ie (ar (Z7 (r1 [0,0,0,0] (.inl ⟨wa3,wb3,wc3,(L'3.grow t2 (min t2 1) (-1)),rfl,rfl,(IN hP ht Z5 hte)⟩))))
   have hP:=(I1 (n:=n) (ln:=ln) (L:=L) Z5 Zd).trans UV
   exact Z0 (W4 (ar (Z7 (r1 [] (.inr ⟨rfl,rfl,(Ru hP)⟩)))))
  have hP:=Z98 (ln:=ln) Z5 Zd Zw ht
  have hxv:L.vars=L.vars:=rfl
  have kx:=hk
  refine ak (aD 15 (Y7 6 15 [0,1,2,3,4,5,6,7,8] [1,1,0] (ZF 9 (U9 9 [2] [] [] [rV ga L.vars] (Hf n L.vars s ob ob (by rw [hxv];exact hnn) (by rw [hxv];omega) ob) Gj (gS (gL (v:=ga) 0 (gS gN))) (Vk VQ) ?_))))
  rintro _ _ ⟨t3,rfl,rfl,Qk⟩
  rw [hxv] at Qk
  have hte:=Qk Z5 ht
  refine Zm 0 5 [10,11,12,13,14] (de (ZM 3 (iI t3 1 (ic [2,0,1,1] (Bn b ga gb gc n L ln am t3 (min t3 1) (hlb:=(by rw [hxv];omega)) (hlk:=kx.len)) ?_))))
  rintro _ _ ⟨wa4,wb4,wc4,rfl⟩
  exact ie (ar (Z7 (r1 [0,0,0,0] (.inl ⟨wa4,wb4,wc4,(L.grow t3 (min t3 1) (-1)),rfl,rfl,(IN hP ht Z5 hte)⟩))))
 refine Y3 4 [0] (ib (b:=(s.op==7)) 23 (fun Zb=>?_) (fun Zb=>?_))
 ·have K8:s.op=7:=(Zr).1 Zb
  exact Z1 4 (Yb (Y1 5 (Zp true Zb fl)) hj1)
 have Jw:¬(s.op=7):=ZZ Zr Zb
 exact Y3 4 [0] (Yb (Y1 5 (Zp (s.op==8) Zb fl)) hj1)
theorem Z03 (n:Zl) (ln:LI) (hn:YY n) (hty:Qx n) (hlt:AF n) (hln:ln.length<=4294967296) (m:Nat):∀(ys:List Z8) (c:Nat) (ra:Hd) (rb:Hd) (rc:Hd) (M:WH) (a2:List YL) (p:Int) (vs:LI),(Y6 ys<m)->(YI n.decls M p)->(Wx n.decls M a2)->(Xr n ys M.vars=some vs)->(∀t∈M.vars,0<=t)->(M.vars.length+a2.length+4*Y6 ys<=900000000)->(0<=p/\p+4*Y6 ys<=999999980)->(VV ys)->Za 159 [.p c 0,VR ys] [.obj c [ZI n.decls,Yo n,Ze ln,YO a2,.h ra,.h rb,.h rc],rV ra M.vars,rV rb M.own,rV rc M.tok] (fun r h=>(∃(wa:Hd) (wb:Hd) (wc:Hd) (M':WH),r=.b true/\h=[.obj c [ZI n.decls,Yo n,Ze ln,YO a2,.h wa,.h wb,.h wc],rV wa M'.vars,rV wb M'.own,rV wc M'.tok]/\V0 n ln M ys=some M')∨(r=.b false/\h=[]/\V0 n ln M ys=none)):=by
 induction m with
 | zero=>intro ys c ra rb rc M a2 p vs h;omega
 | succ m ih=>
  intro ys c ra rb rc M a2 p vs h hk har ht hnn hb hp hr
  exact Z02 c ra rb rc n M ln a2 ys p vs hn hk har ht hnn hb hp hr fun s2 c ra rb rc M a2 p h1 hk har ht hnn hb hp hr=>Z00 c ra rb rc n M ln a2 s2 p hn hty hlt hk har hln ht hnn hb hp hr
   fun ys c ra rb rc M a2 p vs h2 hk har ht hnn hb hp hr=>ih ys c ra rb rc M a2 p vs om hk har ht hnn hb hp hr
theorem Z01 (c:Nat) (ra:Hd) (rb:Hd) (rc:Hd) (n:Zl) (M:WH) (ln:LI) (a2:List YL) (ys:List Z8) (p:Int) (vs:LI) (hn:YY n) (hty:Qx n) (hlt:AF n) (hln:ln.length<=4294967296) (hk:YI n.decls M p) (har:Wx n.decls M a2) (ht:Xr n ys M.vars=some vs) (hnn:∀t∈M.vars,0<=t) (hb:M.vars.length+a2.length+4*Y6 ys<=900000000) (hp:0<=p/\p+4*Y6 ys<=999999980) (hr:VV ys):Za 159 [.p c 0,VR ys] [.obj c [ZI n.decls,Yo n,Ze ln,YO a2,.h ra,.h rb,.h rc],rV ra M.vars,rV rb M.own,rV rc M.tok] (fun r h=>(∃(wa:Hd) (wb:Hd) (wc:Hd) (M':WH),r=.b true/\h=[.obj c [ZI n.decls,Yo n,Ze ln,YO a2,.h wa,.h wb,.h wc],rV wa M'.vars,rV wb M'.own,rV wc M'.tok]/\V0 n ln M ys=some M')∨(r=.b false/\h=[]/\V0 n ln M ys=none)):=
 Z03 n ln hn hty hlt hln (Y6 ys+1) ys c ra rb rc M a2 p vs om hk har ht hnn hb hp hr
theorem Z5g (n:Zl) (hz:WI n) (hs:V5 n=true):Za 152 [X3 n] [] (ZP (.tup [.agg [ZI n.decls,Yo n],.b (V5 n)])):=by
 refine (NK n hz).mono fun r h q=>?_
 rcases q with ⟨h1,h2,_⟩|⟨_,_,h3⟩
 ·exact ⟨h1,h2⟩
 ·rw [hs] at h3;cases h3
theorem SZ (n:Zl) (f:Nat) (rt:YB) (hn:YY n:=by exact ob) (hz:WI n:=by exact ob) (hs:V5 n=true:=by exact ob) (hr:n.routines[f]? = some rt:=by exact ob):Za 158 [X3 n,.i f] [] (fun r h=>∃(c:Nat) (wa:Hd) (wb:Hd) (wc:Hd),r=.p c 0/\h=[.obj c [ZI n.decls,Yo n,Ze rt.lent,YO [],.h wa,.h wb,.h wc],rV wa ((Ur rt).vars),rV wb ((Ur rt).own),rV wc ((Ur rt).tok)]):=by
 have hfl:=(XZ.1 hr).1
 have hpl:=hn.params_at hr
 have hll:=hn.lent_at hr
 refine Zx 58 Tryz.func158 (ar (iA (W8 n) fun b1=>Z0 (ZB 1 [0] (ZC [] (Z5g n ob ob) (Z1 3 (iA [nl,nl] fun b2=>Y0 0 b2 [ZI n.decls,Yo n] (Z0 (aD 10 (Y7 6 10 [0,1,2,3] [0,1] (dx 4 (Zq none (f:Int) 5 (Um hr)) (Zm 2 5 [5,6,7] (ZF 8 (dA 8 [] [] [ZI n.decls,Yo n,Ze rt.lent,nl,nl,nl,nl] fun b3=>?_)))))))))))))
 refine Jo (RJ 0 b3 [ZI n.decls,Yo n,Ze rt.lent,nl,nl,nl,nl] [ZI n.decls,Yo n,Ze rt.lent,YO [],.h hN,.h hN,.h hN] (.cons (lr _) (.cons (lr _) (.cons (lr _) (.cons (Zk.sl _ rfl) (.cons (Zk.hd (v:=hN)) (.cons (Zk.hd (v:=hN)) (.cons (Zk.hd (v:=hN)) .nil)))))))) (Jo (Ki) (Jo (Ki) (Jo (Ki) (Zm 0 1 [9] (de (Ym 3 [5] (Zg (Zq none (f:Int) 5 (Um hr)) (Z1 2 (iw (Yk rt.params) (Z0 (ab 0 (ZR (fun fz gz m F h=>∃(k:Nat) (L2:WH) (ka:Hd) (kb:Hd) (kc:Hd),(k<=rt.params.length)/\(W9 L2)/\(L2.vars.length=k)/\(Qm rt.lent (rt.params.drop k) k L2=Ur rt)/\F=sF [7,29,30] fz [(31,.i k)]/\h=[.obj b3 [ZI n.decls,Yo n,Ze rt.lent,YO [],.h ka,.h kb,.h kc],rV ka L2.vars,rV kb L2.own,rV kc L2.tok]/\m=rt.params.length-k) _ _ _ ⟨0,(Zc.mk [] [] [] [] [] []),hN,hN,hN,ob,⟨rfl,rfl,rfl,rfl,rfl⟩,rfl,rfl,rfl,rfl,rfl⟩ (wk [3,0,0,0] (ZT fl) (e:=(rc (rv (xs:=[]) ob (rv (xs:=[]) ob (rv (xs:=[]) ob rz)))))) ?_))))))))))))
 rintro m F h ⟨k,L2,ka,kb,kc,ZX,Z9,Zz,Y5,rfl,rfl,rfl⟩
 refine Zf (aq (Xf ((k:Int)<(rt.params.length:Int)) (fun Z5=>?_) (fun Z5=>?_)))
 ·refine ak (aq (ab 1 (ZM 1 ?_)))
  obtain ⟨x1,Z2⟩:=Zv rt.params k om
  have hgl:(L2.grow x1 0 (-1)).own.length=k+1:=by simp [Zc.grow,Z9.own,Zz]
  refine Zg (Zq none (k:Int) 1 (Yc Z2)) (Z0 (ZM 2 (ic [0,0,0,0] (Bn b3 ka kb kc n L2 rt.lent [] x1 0) ?_)))
  rintro _ _ ⟨wa1,wb1,wc1,rfl⟩
  refine ie (ar (W7 [7,8,29,30,31] [(49,.b ((x1 != 0)&&(!(decide ((k:Int)∈rt.lent)))))] (fun gz=>gz) ?_ ?_))
  ·refine Z1 3 (ib (b:=(x1 != 0)) 41 (fun Zb=>?_) (fun Zb=>?_))
   ·have Ya:x1≠0:=(ZO).1 Zb
    exact Y3 5 [0] (ZC [] (ID rt.lent (k:Int)) (Z0 (Y1 4 (Zp (!(decide ((k:Int)∈rt.lent))) Zb fl))))
   have YT:¬(x1≠0):=ZZ ZO Zb
   exact Z0 (Y1 4 (Zp false Zb fl))
  refine ac ((x1 != 0)&&(!(decide ((k:Int)∈rt.lent)))) (p:=(x1≠0)/\(¬((k:Int)∈rt.lent))) (Yy ZO (Yi dq)) (fun Zd=>?_) (fun Zd=>?_)
  ·exact az (Y3 5 [0] (Zg (XB 2 wb1 ((L2.grow x1 0 (-1)).own) (k:Int) k) (BL 2 wb1 ((L2.grow x1 0 (-1)).own) k 1 (ie (az (ZK k (Z0 (ZJ ⟨k+1,(L2.grow x1 1 (-1)),wa1,wb1,wc1,ob,(W9.grow Z9),(by simp [Zc.grow];omega),(by rw [ZH Z2,Qm] at Y5;first|(rw [Z6 (by assumption)] at Y5;exact Y5)|(rw [Z4 (by assumption)] at Y5;exact Y5)),rfl,rfl,rfl⟩ (wk [1,1,0,0] (ZL k fl) (e:=(rc (rv (xs:=(L2.grow x1 0 (-1)).vars) (by first|rfl|exact Il (by rw [Z9.own,Zz])) (rv (xs:=(((L2.grow x1 0 (-1)).own).set k 1)) (by first|rfl|exact Il (by rw [Z9.own,Zz])) (rv (xs:=(L2.grow x1 0 (-1)).tok) (by first|rfl|exact Il (by rw [Z9.own,Zz])) rz))))))))))))))
  exact ak (az (ZK k (Z0 (ZJ ⟨k+1,(L2.grow x1 0 (-1)),wa1,wb1,wc1,ob,(W9.grow Z9),(by simp [Zc.grow];omega),(by rw [ZH Z2,Qm] at Y5;first|(rw [Z6 (by assumption)] at Y5;exact Y5)|(rw [Z4 (by assumption)] at Y5;exact Y5)),rfl,rfl,rfl⟩ (Y1 4 (ZL k fl))))))
 refine ax 0 (Zf ?_)
 have hNl:L2=Ur rt:=by rw [<-Y5,YR om];rfl
 exact ZG (r1 [0,0,0,0] ⟨b3,ka,kb,kc,rfl,rfl⟩ (eq:=(rc (rv (xs:=L2.vars) (by rw [hNl]) (rv (xs:=L2.own) (by rw [hNl]) (rv (xs:=L2.tok) (by rw [hNl]) rz))))))
theorem Z50 (n:Zl) (f:Nat) (rt:YB) (hn:YY n:=by exact ob) (hty:Qx n:=by exact ob) (hlt:AF n:=by exact ob) (hz:WI n:=by exact ob) (hs:V5 n=true:=by exact ob) (hr:n.routines[f]? = some rt:=by exact ob) (ht:0<=Ys n rt.params rt.body:=by exact ob) (hrr:rt.body.rng:=by exact ob):Za 98 [X3 n,.i f] [] (ZP (.b (Qc n rt))):=by
 have hfl:=(XZ.1 hr).1
 have hpl:=hn.params_at hr
 have hll:=hn.lent_at hr
 have hrm:=YA hr
 have hbd:=hz.body rt hrm
 have hbz:=rt.body.sz_eq
 obtain ⟨hk,hkv⟩:=OK n.decls rt
 obtain ⟨vs,t0,hvs,hres,hrt⟩:=Bp ht
 have hri:=QX hres
 have hsl:=Fg hvs
 rw [rt.body.rng_eq] at hrr
 refine Zx 25 Tryz.func98 (ar (iA (W8 n) fun b1=>Z0 (ZB 2 [0] (ic [] (SZ n f rt) ?_))))
 rintro _ _ ⟨c1,wa1,wb1,wc1,rfl,rfl⟩
 refine Z0 (ZB 3 [4] (Zg (Zq none (f:Int) 5 (Um hr)) (Z1 2 (iA [nl,.i 0] fun b2=>Y0 0 b2 (Vz rt.body) (ie (ZB 3 [0] (ic [1,1,1,1] (Z01 c1 wa1 wb1 wc1 n (Ur rt) rt.lent [] rt.body.steps 1 vs ob ob ob ob hk (OJ rt) (by rw [hkv];exact hvs) (by rw [hkv];exact hty.params rt hrm) (by rw [hkv,Vt];omega) ob ob) ?_)))))))
 rintro _ _ (⟨wa2,wb2,wc2,M'1,rfl,rfl,Ya⟩|⟨rfl,rfl,YT⟩)
 ·have hP:=Ya
  have kx:=Fh hn hk om (OJ rt) (by rw [hkv];exact hvs) hP
  have kl:=kx.1.len
  refine Y3 3 [4] (ic [0,0,0,0] (FZ c1 wa2 wb2 wc2 n M'1 rt.lent [] rt.body 0 (hlk:=kl) (hlb:=(by rw [kx.2.1];omega)) (hr:=(by rw [kx.2.1];omega)) (hq:=(fun y hy=>by have h1:=kx.1.nn y hy;have h2:=kx.1.bd y hy;omega))) ?_)
  rintro _ _ (⟨rfl,rfl,Xy⟩|⟨rfl,rfl,XE⟩)
  ·have hB:=Xy
   exact Z7 (Zo (.b true) (lb (by rw [Pt hP (by rw [kl.own,kl.tok]),hB];rfl)))
  have hB:=XE
  exact Z7 (Zo (.b false) (lb (by rw [Pt hP (by rw [kl.own,kl.tok]),hB];rfl)))
 have hP:=YT
 exact Z7 (Zo (.b false) (lb (by rw [Z9n hP])))
theorem Z4t (n:Zl) (hz:WI n:=by exact ob) (hr:∀r∈n.routines,r.body.rng):Za 49 [X3 n] [] (ZP (.b (VX n))):=by
 have hzl:=hz.len
 refine Zx 18 Tryz.func49 (ar (iA (W8 n) fun b1=>Z0 (Ym 1 [0] (ZC [] (NC n (hr:=hr)) (Yt (!XT n) (p:=¬(XT n=true)) (Yi Iff.rfl) (fun Z5=>?_) (fun Z5=>?_))))))
 ·exact ar (Z7 (Zo (.b false) (lb (by first|rfl|omega|grind [VX]))))
 have hV:XT n=true:=Wr.1 Z5
 obtain ⟨hok,hall⟩:=Dp hz hV
 have hsg:V5 n=true:=by rw [XT,Xs] at hV;exact hV.1
 have hty:=OO hsg
 have hlt:=Z88 hsg
 refine ak (Ym 2 [0] (iw (UD n.routines) (Z0 (ab 0 (ZR (fun fz gz m F h=>∃(k:Nat),(k<=n.routines.length)/\(QY n (n.routines.drop k)=QY n n.routines)/\F=sF [1,9] fz [(10,.i k)]/\h=gz/\m=n.routines.length-k) _ _ _ ⟨0,ob,ob,rfl,rfl,rfl⟩ (wk [0] (ZT fl)) ?_)))))
 rintro m F h ⟨k,ZX,Z9,rfl,rfl,rfl⟩
 refine Zf (aq (Xf ((k:Int)<(n.routines.length:Int)) (fun Zd=>?_) (fun Zd=>?_)))
 ·obtain ⟨rt,hrt⟩:=Zv n.routines k om
  have hrm:=YA hrt
  refine ak (aq (ab 1 (Zf (ZB 2 [0] (ZC [] (Z50 n k rt (hr:=hrt) (ht:=(hall rt hrm)) (hrr:=(hr rt hrm))) (Yt (!Qc n rt) (p:=¬(Qc n rt=true)) (Yi Iff.rfl) (fun Zw=>?_) (fun Zw=>?_)))))))
  ·refine Zf ?_
   rw [ZH hrt] at Z9
   exact ZG (Zo (.b false) (lb (by first|rfl|omega|grind [QY,VX])))
  refine ak (az (ZK k (Z0 ?_)))
  have hdr:=ZH hrt
  exact ZJ ⟨k+1,ob,(by rw [hdr] at Z9;clear hdr ;grind [QY]),rfl,rfl,rfl⟩ (wk [0] (ZL k fl))
 refine ax 0 (Zf ?_)
 try rw [YR (xs:=n.routines) (k:=k) om] at Z9
 exact ZG (Zo (.b true) (lb (by first|rfl|omega|grind [QY,VX])))
theorem EB (xs:LI) (left:Int) (hlf:0<=left/\left<=1048576:=by exact ob) (hl:xs.length<=9223372036854775807:=by exact ob):Za 138 [Ze xs,.i left] [] (ZP (.i (Y4 xs.length left))):=by
 refine Zx 12 Tryz.func138 (Zf (ZM 2 (iw (Yk xs) (ia ((left-(xs.length:Int))) ((left)-((xs.length:Int))) (Z0 (Yq (ZN ((left-(xs.length:Int))<0) (fun Z5=>?_) (fun Z5=>?_))))))))
 ·exact ar (Z7 (Zo (.i (-1)) (li (by rw [Y4,Z6 om]))))
 exact ak (ar (Z7 (Zo (.i (left-(xs.length:Int))) (li (by rw [Y4,Z4 om])))))
theorem Z71 (c:Xp) (left:Int) (hlf:0<=left/\left<=1048576:=by exact ob) (hl:T1 c<=9223372036854775807:=by exact ob):Za 193 [KS c,.i left] [] (ZP (.i (Y4 (T1 c) left))):=by
 have hl2:=hl
 unfold T1 at hl2
 refine Zx 12 Tryz.func193 (ar (iA (KH c) fun b1=>Z0 (ZB 3 [0] (ZC [] (EB c.fields left) (Z0 (Yq (ZN ((Y4 c.fields.length left)<0) (fun Z5=>?_) (fun Z5=>?_))))))))
 ·exact ar (Z7 (Zo (.i (-1)) (li (by rw [T1];unfold Y4 at *;split at Z5<;>omega))))
 exact ak (ar (Z7 (Zo (.i (Y4 c.fields.length left)) (li rfl))))
theorem Z70 (cs:List Xp) (left:Int) (hlf:0<=left/\left<=1048576:=by exact ob) (hl:Uk cs<=9223372036854775807:=by exact ob):Za 137 [JF cs,.i left] [] (ZP (.i (Y4 (Uk cs) left))):=by
 have hl2:=hl
 unfold Uk at hl2
 refine Zx 27 Tryz.func137 (Zf (ZM 2 (iw (Vg cs) (ia ((left-(cs.length:Int))) ((left)-((cs.length:Int))) (Z0 (Yq (ZN ((left-(cs.length:Int))<0) (fun Z5=>?_) (fun Z5=>?_))))))))
 ·exact ar (Z7 (Zo (.i (-1)) (li (by rw [Uk];exact Dm Z5))))
 refine ak (Yj (ab 0 (ZR (fun fz gz m F h=>∃(k:Nat) (lf:Int),(k<=cs.length)/\(0<=lf/\lf<=1048576)/\(Y4 (Tl (cs.drop k)) lf=Y4 (Uk cs) left)/\F=sF [0] fz [(1,.i lf),(5,.i k)]/\h=gz/\m=cs.length-k) _ _ _ ⟨0,(left-(cs.length:Int)),ob,om,(by rw [TM,Uk];exact Dj Z5),rfl,rfl,rfl⟩ (wk [] (fr (ZT fl))) ?_)))
 rintro m F h ⟨k,lf,ZX,Z9,Zz,rfl,rfl,rfl⟩
 refine Y8 2 (iw (Vg cs) (ZN ((k:Int)<(cs.length:Int)) (fun Zd=>?_) (fun Zd=>?_)))
 ·refine ak (aq (ab 1 (ZM 2 ?_)))
  obtain ⟨x1,Z2⟩:=Zv cs k om
  have hcl:=DT Z2
  have hle:=JM (c:=T1 x1) Z9.1
  refine Zg (Zq none (k:Int) 1 (Ky Z2)) (Z1 2 (ZC [] (Z71 x1 lf) (Z0 (ar (ZN ((Y4 (T1 x1) lf)<0) (fun Zw=>?_) (fun Zw=>?_))))))
  ·exact ar (Z7 (Zo (.i (-1)) (li (Dh (Mx Z2) Zw Zz))))
  exact ak (az (Z1 1 (ZK k (Z0 (ZJ ⟨k+1,(Y4 (T1 x1) lf),ob,om,(Dl (left:=0) (Mx Z2) Zw Zz),rfl,rfl,rfl⟩ (wk [] (fr (ZL k fl))))))))
 exact ax 0 (ar (Z7 (Zo (.i lf) (li (Di (Z1i om) Z9.1 Zz)))))
theorem Z73 (d:Zs) (left:Int) (hlf:0<=left/\left<=1048576:=by exact ob) (hl:U0 d<=9223372036854775807:=by exact ob):Za 82 [QT d,.i left] [] (ZP (.i (Y4 (U0 d) left))):=by
 have hl2:=hl
 unfold U0 at hl2
 refine Zx 12 Tryz.func82 (ar (iA (Uc d) fun b1=>Z0 (ZB 3 [0] (ZC [] (Z70 d.cons left) (Z0 (Yq (ZN ((Y4 (Uk d.cons) left)<0) (fun Z5=>?_) (fun Z5=>?_))))))))
 ·exact ar (Z7 (Zo (.i (-1)) (li (by rw [U0];unfold Y4 at *;split at Z5<;>omega))))
 exact ak (ar (Z7 (Zo (.i (Y4 (Uk d.cons) left)) (li rfl))))
theorem Z72 (cs:List Zs) (left:Int) (hlf:0<=left/\left<=1048576:=by exact ob) (hl:Vv cs<=9223372036854775807:=by exact ob):Za 38 [ZI cs,.i left] [] (ZP (.i (Y4 (Vv cs) left))):=by
 have hl2:=hl
 unfold Vv at hl2
 refine Zx 27 Tryz.func38 (Zf (ZM 2 (iw (Vw cs) (ia ((left-(cs.length:Int))) ((left)-((cs.length:Int))) (Z0 (Yq (ZN ((left-(cs.length:Int))<0) (fun Z5=>?_) (fun Z5=>?_))))))))
 ·exact ar (Z7 (Zo (.i (-1)) (li (by rw [Vv];exact Dm Z5))))
 refine ak (Yj (ab 0 (ZR (fun fz gz m F h=>∃(k:Nat) (lf:Int),(k<=cs.length)/\(0<=lf/\lf<=1048576)/\(Y4 (TW (cs.drop k)) lf=Y4 (Vv cs) left)/\F=sF [0] fz [(1,.i lf),(5,.i k)]/\h=gz/\m=cs.length-k) _ _ _ ⟨0,(left-(cs.length:Int)),ob,om,(by rw [TM,Vv];exact Dj Z5),rfl,rfl,rfl⟩ (wk [] (fr (ZT fl))) ?_)))
 rintro m F h ⟨k,lf,ZX,Z9,Zz,rfl,rfl,rfl⟩
 refine Y8 2 (iw (Vw cs) (ZN ((k:Int)<(cs.length:Int)) (fun Zd=>?_) (fun Zd=>?_)))
 ·refine ak (aq (ab 1 (ZM 2 ?_)))
  obtain ⟨x1,Z2⟩:=Zv cs k om
  have hcl:=E1 Z2
  have hle:=JM (c:=U0 x1) Z9.1
  refine Zg (Zq none (k:Int) 3 (Vh Z2)) (Z1 2 (ZC [] (Z73 x1 lf) (Z0 (ar (ZN ((Y4 (U0 x1) lf)<0) (fun Zw=>?_) (fun Zw=>?_))))))
  ·exact ar (Z7 (Zo (.i (-1)) (li (Dh (ME Z2) Zw Zz))))
  exact ak (az (Z1 1 (ZK k (Z0 (ZJ ⟨k+1,(Y4 (U0 x1) lf),ob,om,(Dl (left:=0) (ME Z2) Zw Zz),rfl,rfl,rfl⟩ (wk [] (fr (ZL k fl))))))))
 exact ax 0 (ar (Z7 (Zo (.i lf) (li (Di (Z27 om) Z9.1 Zz)))))
theorem Zd2 (z:Nat) (cs:List Zh) (left:Int) (hlf:0<=left/\left<=1048576:=by exact ob) (hl:VY cs<=9223372036854775807:=by exact ob) (hz:Xl cs<=z:=by exact ob) (ih:∀(b2:Zh) (left:Int),(b2.sz<=z)->(0<=left/\left<=1048576)->(b2.cst<=9223372036854775807)->Za 139 [YC b2,.i left] [] (ZP (.i (Y4 b2.cst left)))):Za 280 [KI cs,.i left] [] (ZP (.i (Y4 (VY cs) left))):=by
 have hl2:=hl
 unfold VY at hl2
 refine Zx 27 Tryz.func280 (Zf (ZM 2 (iw (Ua cs) (ia ((left-(cs.length:Int))) ((left)-((cs.length:Int))) (Z0 (Yq (ZN ((left-(cs.length:Int))<0) (fun Z5=>?_) (fun Z5=>?_))))))))
 ·exact ar (Z7 (Zo (.i (-1)) (li (by rw [VY];exact Dm Z5))))
 refine ak (Yj (ab 0 (ZR (fun fz gz m F h=>∃(k:Nat) (lf:Int),(k<=cs.length)/\(0<=lf/\lf<=1048576)/\(Y4 (UA (cs.drop k)) lf=Y4 (VY cs) left)/\F=sF [0] fz [(1,.i lf),(5,.i k)]/\h=gz/\m=cs.length-k) _ _ _ ⟨0,(left-(cs.length:Int)),ob,om,(by rw [TM,VY];exact Dj Z5),rfl,rfl,rfl⟩ (wk [] (fr (ZT fl))) ?_)))
 rintro m F h ⟨k,lf,ZX,Z9,Zz,rfl,rfl,rfl⟩
 refine Y8 2 (iw (Ua cs) (ZN ((k:Int)<(cs.length:Int)) (fun Zd=>?_) (fun Zd=>?_)))
 ·refine ak (aq (ab 1 (ZM 2 ?_)))
  obtain ⟨x1,Z2⟩:=Zv cs k om
  have hcl:=G3 Z2
  have YD:=Bq Z2
  have hle:=JM (c:=x1.cst) Z9.1
  refine Zg (Zq none (k:Int) 2 (TA Z2)) (Z1 2 (ZC [] (ih x1 lf ob ob ob) (Z0 (ar (ZN ((Y4 x1.cst lf)<0) (fun Zw=>?_) (fun Zw=>?_))))))
  ·exact ar (Z7 (Zo (.i (-1)) (li (Dh (LV Z2) Zw Zz))))
  exact ak (az (Z1 1 (ZK k (Z0 (ZJ ⟨k+1,(Y4 x1.cst lf),ob,om,(Dl (left:=0) (LV Z2) Zw Zz),rfl,rfl,rfl⟩ (wk [] (fr (ZL k fl))))))))
 exact ax 0 (ar (Z7 (Zo (.i lf) (li (Di (Z06 om) Z9.1 Zz)))))
theorem Zd3 (z:Nat) (s:Z8) (left:Int) (hlf:0<=left/\left<=1048576:=by exact ob) (hl:s.cst<=9223372036854775807:=by exact ob) (hz:s.sz<=z+1:=by exact ob) (ih:∀(b2:Zh) (left:Int),(b2.sz<=z)->(0<=left/\left<=1048576)->(b2.cst<=9223372036854775807)->Za 139 [YC b2,.i left] [] (ZP (.i (Y4 b2.cst left)))):Za 229 [XO s,.i left] [] (ZP (.i (Y4 s.cst left))):=by
 have hse:=s.sz_eq
 have hce:=s.cst_eq
 have hle:=JM (c:=s.args.length) hlf.1
 have hbc:VY s.kids=s.kids.length+UA s.kids:=rfl
 refine Zx 18 Tryz.func229 (ar (iA (WO s) fun b1=>Z0 (ZB 3 [0] (ZC [] (EB s.args left) (Z0 (Yq (ZN ((Y4 s.args.length left)<0) (fun Z5=>?_) (fun Z5=>?_))))))))
 ·exact ar (Z7 (Zo (.i (-1)) (li (by rw [hce,Dk Z5]))))
 refine ak (ZB 3 [0] (ZC [] (Zd2 z s.kids (Y4 s.args.length left) (ih:=ih)) (Z0 (Yq (ZN ((Y4 (VY s.kids) (Y4 s.args.length left))<0) (fun Zd=>?_) (fun Zd=>?_))))))
 ·exact ar (Z7 (Zo (.i (-1)) (li (by have h:=Dg (a:=s.args.length) (b:=VY s.kids) (left:=left) om;rw [hce,<-hbc,<-h];unfold Y4 at *;split at Zd<;>omega))))
 exact ak (ar (Z7 (Zo (.i (Y4 (VY s.kids) (Y4 s.args.length left))) (li (by have h:=Dg (a:=s.args.length) (b:=VY s.kids) (left:=left) om;rw [hce,<-hbc,<-h])))))
theorem Zd4 (z:Nat) (cs:List Z8) (left:Int) (hlf:0<=left/\left<=1048576:=by exact ob) (hl:Uu cs<=9223372036854775807:=by exact ob) (hz:Y6 cs<=z+1:=by exact ob) (ih:∀(b2:Zh) (left:Int),(b2.sz<=z)->(0<=left/\left<=1048576)->(b2.cst<=9223372036854775807)->Za 139 [YC b2,.i left] [] (ZP (.i (Y4 b2.cst left)))):Za 194 [VR cs,.i left] [] (ZP (.i (Y4 (Uu cs) left))):=by
 have hl2:=hl
 unfold Uu at hl2
 refine Zx 27 Tryz.func194 (Zf (ZM 2 (iw (T2 cs) (ia ((left-(cs.length:Int))) ((left)-((cs.length:Int))) (Z0 (Yq (ZN ((left-(cs.length:Int))<0) (fun Z5=>?_) (fun Z5=>?_))))))))
 ·exact ar (Z7 (Zo (.i (-1)) (li (by rw [Uu];exact Dm Z5))))
 refine ak (Yj (ab 0 (ZR (fun fz gz m F h=>∃(k:Nat) (lf:Int),(k<=cs.length)/\(0<=lf/\lf<=1048576)/\(Y4 (UF (cs.drop k)) lf=Y4 (Uu cs) left)/\F=sF [0] fz [(1,.i lf),(5,.i k)]/\h=gz/\m=cs.length-k) _ _ _ ⟨0,(left-(cs.length:Int)),ob,om,(by rw [TM,Uu];exact Dj Z5),rfl,rfl,rfl⟩ (wk [] (fr (ZT fl))) ?_)))
 rintro m F h ⟨k,lf,ZX,Z9,Zz,rfl,rfl,rfl⟩
 refine Y8 2 (iw (T2 cs) (ZN ((k:Int)<(cs.length:Int)) (fun Zd=>?_) (fun Zd=>?_)))
 ·refine ak (aq (ab 1 (ZM 2 ?_)))
  obtain ⟨x1,Z2⟩:=Zv cs k om
  have hcl:=Ik Z2
  have YD:=Dd Z2
  have hle:=JM (c:=x1.cst) Z9.1
  refine Zg (Zq none (k:Int) 5 (U2 Z2)) (Z1 2 (ZC [] (Zd3 z x1 lf (ih:=ih)) (Z0 (ar (ZN ((Y4 x1.cst lf)<0) (fun Zw=>?_) (fun Zw=>?_))))))
  ·exact ar (Z7 (Zo (.i (-1)) (li (Dh (PK Z2) Zw Zz))))
  exact ak (az (Z1 1 (ZK k (Z0 (ZJ ⟨k+1,(Y4 x1.cst lf),ob,om,(Dl (left:=0) (PK Z2) Zw Zz),rfl,rfl,rfl⟩ (wk [] (fr (ZL k fl))))))))
 exact ax 0 (ar (Z7 (Zo (.i lf) (li (Di (Zaf om) Z9.1 Zz)))))
theorem Zd0 (z:Nat) (b:Zh) (left:Int) (hlf:0<=left/\left<=1048576:=by exact ob) (hl:b.cst<=9223372036854775807:=by exact ob) (hz:b.sz<=z+1:=by exact ob) (ih:∀(b2:Zh) (left:Int),(b2.sz<=z)->(0<=left/\left<=1048576)->(b2.cst<=9223372036854775807)->Za 139 [YC b2,.i left] [] (ZP (.i (Y4 b2.cst left)))):Za 139 [YC b,.i left] [] (ZP (.i (Y4 b.cst left))):=by
 have hse:=b.sz_eq
 have hce:=b.cst_eq
 have hbc:Uu b.steps=b.steps.length+UF b.steps:=rfl
 refine Zx 12 Tryz.func139 (ar (iA (Vz b) fun b1=>Z0 (ZB 3 [0] (ZC [] (Zd4 z b.steps left (ih:=ih)) (Z0 (Yq (ZN ((Y4 (Uu b.steps) left)<0) (fun Z5=>?_) (fun Z5=>?_))))))))
 ·exact ar (Z7 (Zo (.i (-1)) (li (by rw [hce,<-hbc];unfold Y4 at *;split at Z5<;>omega))))
 exact ak (ar (Z7 (Zo (.i (Y4 (Uu b.steps) left)) (li (by rw [hce,<-hbc])))))
theorem Zd1 (m:Nat):∀(b2:Zh) (left:Int),(b2.sz<=m)->(0<=left/\left<=1048576)->(b2.cst<=9223372036854775807)->Za 139 [YC b2,.i left] [] (ZP (.i (Y4 b2.cst left))):=by
 induction m with
 | zero=>intro b left h;have:=b.sz_pos;omega
 | succ m ih=>intro b left h1 h2 h3;exact Zd0 m b left h2 h3 h1 ih
theorem Zcz (b2:Zh) (left:Int) (hlf:0<=left/\left<=1048576) (hl:b2.cst<=9223372036854775807):Za 139 [YC b2,.i left] [] (ZP (.i (Y4 b2.cst left))):=
 Zd1 b2.sz b2 left (YX _) hlf hl
theorem Z75 (rt:YB) (left:Int) (hlf:0<=left/\left<=1048576:=by exact ob) (hl:VA rt<=9223372036854775807:=by exact ob):Za 83 [QU rt,.i left] [] (ZP (.i (Y4 (VA rt) left))):=by
 have hl2:=hl
 unfold VA at hl2
 have hle:=JM (c:=rt.params.length) hlf.1
 refine Zx 24 Tryz.func83 (ar (iA (TH rt) fun b1=>Z0 (ZB 3 [0] (ZC [] (EB rt.params left) (Z0 (Yq (ZN ((Y4 rt.params.length left)<0) (fun Z5=>?_) (fun Z5=>?_))))))))
 ·exact ar (Z7 (Zo (.i (-1)) (li (by rw [VA,Dk Z5]))))
 have h1:=IR (b:=rt.lent.length) Z5
 have hle2:=JM (c:=rt.params.length+rt.lent.length) hlf.1
 refine ak (ZB 3 [0] (ZC [] (EB rt.lent (Y4 rt.params.length left)) (Z0 (Yq (ZN ((Y4 rt.lent.length (Y4 rt.params.length left))<0) (fun Zd=>?_) (fun Zd=>?_))))))
 ·exact ar (Z7 (Zo (.i (-1)) (li (by rw [h1] at Zd;rw [VA,<-Dz,Dk Zd]))))
 have h2:=IR (b:=rt.body.cst) (a:=rt.params.length+rt.lent.length) (left:=left) (by rw [<-h1];exact Zd)
 refine ak (ZB 3 [0] (ZC [] (Zcz rt.body (Y4 rt.lent.length (Y4 rt.params.length left)) ob ob) (Z0 (Yq (ZN ((Y4 rt.body.cst (Y4 rt.lent.length (Y4 rt.params.length left)))<0) (fun Zw=>?_) (fun Zw=>?_))))))
 ·exact ar (Z7 (Zo (.i (-1)) (li (by rw [h1,h2] at Zw;rw [VA,<-Dz];exact RG Zw))))
 exact ak (ar (Z7 (Zo (.i (Y4 rt.body.cst (Y4 rt.lent.length (Y4 rt.params.length left)))) (li (by rw [h1,h2,VA,<-Dz])))))
theorem Z74 (cs:List YB) (left:Int) (hlf:0<=left/\left<=1048576:=by exact ob) (hl:VT cs<=9223372036854775807:=by exact ob):Za 39 [BS cs,.i left] [] (ZP (.i (Y4 (VT cs) left))):=by
 have hl2:=hl
 unfold VT at hl2
 refine Zx 27 Tryz.func39 (Zf (ZM 2 (iw (UD cs) (ia ((left-(cs.length:Int))) ((left)-((cs.length:Int))) (Z0 (Yq (ZN ((left-(cs.length:Int))<0) (fun Z5=>?_) (fun Z5=>?_))))))))
 ·exact ar (Z7 (Zo (.i (-1)) (li (by rw [VT];exact Dm Z5))))
 refine ak (Yj (ab 0 (ZR (fun fz gz m F h=>∃(k:Nat) (lf:Int),(k<=cs.length)/\(0<=lf/\lf<=1048576)/\(Y4 (T7 (cs.drop k)) lf=Y4 (VT cs) left)/\F=sF [0] fz [(1,.i lf),(5,.i k)]/\h=gz/\m=cs.length-k) _ _ _ ⟨0,(left-(cs.length:Int)),ob,om,(by rw [TM,VT];exact Dj Z5),rfl,rfl,rfl⟩ (wk [] (fr (ZT fl))) ?_)))
 rintro m F h ⟨k,lf,ZX,Z9,Zz,rfl,rfl,rfl⟩
 refine Y8 2 (iw (UD cs) (ZN ((k:Int)<(cs.length:Int)) (fun Zd=>?_) (fun Zd=>?_)))
 ·refine ak (aq (ab 1 (ZM 2 ?_)))
  obtain ⟨x1,Z2⟩:=Zv cs k om
  have hcl:=EY Z2
  have hle:=JM (c:=VA x1) Z9.1
  refine Zg (Zq none (k:Int) 5 (Um Z2)) (Z1 2 (ZC [] (Z75 x1 lf) (Z0 (ar (ZN ((Y4 (VA x1) lf)<0) (fun Zw=>?_) (fun Zw=>?_))))))
  ·exact ar (Z7 (Zo (.i (-1)) (li (Dh (PC Z2) Zw Zz))))
  exact ak (az (Z1 1 (ZK k (Z0 (ZJ ⟨k+1,(Y4 (VA x1) lf),ob,om,(Dl (left:=0) (PC Z2) Zw Zz),rfl,rfl,rfl⟩ (wk [] (fr (ZL k fl))))))))
 exact ax 0 (ar (Z7 (Zo (.i lf) (li (Di (Za5 om) Z9.1 Zz)))))
theorem Oe (n:Zl) (left:Int) (hlf:0<=left/\left<=1048576) (hl:Wj n<=9223372036854775807):Za 15 [X3 n,.i left] [] (ZP (.i (Y4 (Wj n) left))):=by
 have hl2:=hl
 unfold Wj at hl2
 have hle:=JM (c:=Vv n.decls) hlf.1
 refine Zx 18 Tryz.func15 (ar (iA (W8 n) fun b1=>Z0 (ZB 3 [0] (ZC [] (Z72 n.decls left) (Z0 (Yq (ZN ((Y4 (Vv n.decls) left)<0) (fun Z5=>?_) (fun Z5=>?_))))))))
 ·exact ar (Z7 (Zo (.i (-1)) (li (by rw [Wj,Dk Z5]))))
 have h1:=IR (b:=VT n.routines) Z5
 refine ak (ZB 3 [0] (ZC [] (Z74 n.routines (Y4 (Vv n.decls) left)) (Z0 (Yq (ZN ((Y4 (VT n.routines) (Y4 (Vv n.decls) left))<0) (fun Zd=>?_) (fun Zd=>?_))))))
 ·exact ar (Z7 (Zo (.i (-1)) (li (by rw [h1] at Zd;rw [Wj];exact RG Zd))))
 exact ak (ar (Z7 (Zo (.i (Y4 (VT n.routines) (Y4 (Vv n.decls) left))) (li (by rw [h1,Wj])))))
theorem EA (cs:LI) (hl:cs.length<=1000000000:=by exact ob):Za 156 [Ze cs,Ze cs] [] (ZP (.b true)):=by
 refine Zx 26 Tryz.func156 (Zf (Y8 1 (iw (Yk cs) (Z1 1 (iw (Yk cs) (Yt ((cs.length:Int) != (cs.length:Int)) ZO (fun Z5=>?_) (fun Z5=>?_)))))))
 ·exact ar (Z7 (Zo (.b false) lb))
 refine ak (Yj (ab 0 (ZR (fun fz gz m F h=>∃(k:Nat),(k<=cs.length)/\F=sF [0,1] fz [(5,.i k)]/\h=gz/\m=cs.length-k) _ _ _ ⟨0,ob,rfl,rfl,rfl⟩ (wk [] (ZT fl)) ?_)))
 rintro m F h ⟨k,ZX,rfl,rfl,rfl⟩
 refine Y8 2 (iw (Yk cs) (ZN ((k:Int)<(cs.length:Int)) (fun Zd=>?_) (fun Zd=>?_)))
 ·refine ak (aq (ab 1 (aD 9 (Zm 7 9 [0,1] ?_))))
  obtain ⟨x1,Z2⟩:=Zv cs k om
  refine dx 2 (Zq none (k:Int) 1 (Yc Z2)) (Zm 3 6 [3,4,5] (dx 6 (Zq none (k:Int) 1 (Yc Z2)) (Zm 0 2 [7,8] (de (ac (x1 != x1) ZO (fun Zw=>?_) (fun Zw=>?_))))))
  ·exact ar (Z7 (Zo (.b false) lb))
  exact ak (az (Z1 1 (ZK k (Z0 (ZJ ⟨k+1,ob,rfl,rfl,rfl⟩ (wk [] (ZL k fl)))))))
 exact ax 0 (ar (Z7 (T8)))
theorem Z6v (c:Xp) (hl:T1 c<=1000000000:=by exact ob):Za 209 [KS c,KS c] [] (ZP (.b true)):=by
 unfold T1 at hl
 exact Zx 11 Tryz.func209 (ar (iA (KH c) fun b1=>iA (KH c) fun b2=>Z0 (Ym 4 [1,0] (ZC [] (EA c.fields) (Z0 (XC (ak (ar (Z7 (T8))))))))))
theorem Z6u (cs:List Xp) (hl:Uk cs<=1000000000:=by exact ob):Za 155 [JF cs,JF cs] [] (ZP (.b true)):=by
 have hl2:=hl
 unfold Uk at hl2
 refine Zx 27 Tryz.func155 (Zf (Y8 1 (iw (Vg cs) (Z1 1 (iw (Vg cs) (Yt ((cs.length:Int) != (cs.length:Int)) ZO (fun Z5=>?_) (fun Z5=>?_)))))))
 ·exact ar (Z7 (Zo (.b false) lb))
 refine ak (Yj (ab 0 (ZR (fun fz gz m F h=>∃(k:Nat),(k<=cs.length)/\F=sF [0,1] fz [(5,.i k)]/\h=gz/\m=cs.length-k) _ _ _ ⟨0,ob,rfl,rfl,rfl⟩ (wk [] (ZT fl)) ?_)))
 rintro m F h ⟨k,ZX,rfl,rfl,rfl⟩
 refine Y8 2 (iw (Vg cs) (ZN ((k:Int)<(cs.length:Int)) (fun Zd=>?_) (fun Zd=>?_)))
 ·refine ak (aq (ab 1 (aD 10 (Zm 8 10 [0,1] ?_))))
  obtain ⟨x1,Z2⟩:=Zv cs k om
  have hcl:=DT Z2
  exact dx 2 (Zq none (k:Int) 1 (Ky Z2)) (Zm 4 7 [3,4,5] (dx 6 (Zq none (k:Int) 1 (Ky Z2)) (Zm 2 3 [7] (ZF 8 (XY 8 [] [] [] (Z6v x1) (Zm 0 1 [9] (de (XC (ak (az (Z1 1 (ZK k (Z0 (ZJ ⟨k+1,ob,rfl,rfl,rfl⟩ (wk [] (ZL k fl))))))))))))))))
 exact ax 0 (ar (Z7 (T8)))
theorem Z6x (d:Zs) (hl:U0 d<=1000000000:=by exact ob):Za 96 [QT d,QT d] [] (ZP (.b true)):=by
 unfold U0 at hl
 refine Zx 21 Tryz.func96 (ar (iA (Uc d) fun b1=>iA (Uc d) fun b2=>Z0 (Yq (Vq [1,0] (ac (d.frm != d.frm) ZO (fun Z5=>?_) (fun Z5=>?_))))))
 ·exact ar (Z7 (Zo (.b false) lb))
 refine ak (Yq (Vq [1,0] (ac (d.to_ != d.to_) ZO (fun Zd=>?_) (fun Zd=>?_))))
 ·exact ar (Z7 (Zo (.b false) lb))
 exact ak (Ym 4 [1,0] (ZC [] (Z6u d.cons) (Z0 (XC (ak (ar (Z7 (T8))))))))
theorem Z6w (cs:List Zs) (hl:Vv cs<=1000000000:=by exact ob):Za 47 [ZI cs,ZI cs] [] (ZP (.b true)):=by
 have hl2:=hl
 unfold Vv at hl2
 refine Zx 27 Tryz.func47 (Zf (Y8 1 (iw (Vw cs) (Z1 1 (iw (Vw cs) (Yt ((cs.length:Int) != (cs.length:Int)) ZO (fun Z5=>?_) (fun Z5=>?_)))))))
 ·exact ar (Z7 (Zo (.b false) lb))
 refine ak (Yj (ab 0 (ZR (fun fz gz m F h=>∃(k:Nat),(k<=cs.length)/\F=sF [0,1] fz [(5,.i k)]/\h=gz/\m=cs.length-k) _ _ _ ⟨0,ob,rfl,rfl,rfl⟩ (wk [] (ZT fl)) ?_)))
 rintro m F h ⟨k,ZX,rfl,rfl,rfl⟩
 refine Y8 2 (iw (Vw cs) (ZN ((k:Int)<(cs.length:Int)) (fun Zd=>?_) (fun Zd=>?_)))
 ·refine ak (aq (ab 1 (aD 10 (Zm 8 10 [0,1] ?_))))
  obtain ⟨x1,Z2⟩:=Zv cs k om
  have hcl:=E1 Z2
  exact dx 2 (Zq none (k:Int) 3 (Vh Z2)) (Zm 4 7 [3,4,5] (dx 6 (Zq none (k:Int) 3 (Vh Z2)) (Zm 2 3 [7] (ZF 8 (XY 8 [] [] [] (Z6x x1) (Zm 0 1 [9] (de (XC (ak (az (Z1 1 (ZK k (Z0 (ZJ ⟨k+1,ob,rfl,rfl,rfl⟩ (wk [] (ZL k fl))))))))))))))))
 exact ax 0 (ar (Z7 (T8)))
theorem Z37 (z:Nat) (cs:List Zh) (hl:VY cs<=1000000000:=by exact ob) (hz:Xl cs<=z:=by exact ob) (ih:∀(b2:Zh),(b2.sz<=z)->(b2.cst<=1000000000)->Za 157 [YC b2,YC b2] [] (ZP (.b true))):Za 289 [KI cs,KI cs] [] (ZP (.b true)):=by
 have hl2:=hl
 unfold VY at hl2
 refine Zx 27 Tryz.func289 (Zf (Y8 1 (iw (Ua cs) (Z1 1 (iw (Ua cs) (Yt ((cs.length:Int) != (cs.length:Int)) ZO (fun Z5=>?_) (fun Z5=>?_)))))))
 ·exact ar (Z7 (Zo (.b false) lb))
 refine ak (Yj (ab 0 (ZR (fun fz gz m F h=>∃(k:Nat),(k<=cs.length)/\F=sF [0,1] fz [(5,.i k)]/\h=gz/\m=cs.length-k) _ _ _ ⟨0,ob,rfl,rfl,rfl⟩ (wk [] (ZT fl)) ?_)))
 rintro m F h ⟨k,ZX,rfl,rfl,rfl⟩
 refine Y8 2 (iw (Ua cs) (ZN ((k:Int)<(cs.length:Int)) (fun Zd=>?_) (fun Zd=>?_)))
 ·refine ak (aq (ab 1 (aD 10 (Zm 8 10 [0,1] ?_))))
  obtain ⟨x1,Z2⟩:=Zv cs k om
  have hcl:=G3 Z2
  have YD:=Bq Z2
  exact dx 2 (Zq none (k:Int) 2 (TA Z2)) (Zm 4 7 [3,4,5] (dx 6 (Zq none (k:Int) 2 (TA Z2)) (Zm 2 3 [7] (ZF 8 (XY 8 [] [] [] (ih x1 ob ob) (Zm 0 1 [9] (de (XC (ak (az (Z1 1 (ZK k (Z0 (ZJ ⟨k+1,ob,rfl,rfl,rfl⟩ (wk [] (ZL k fl))))))))))))))))
 exact ax 0 (ar (Z7 (T8)))
theorem Z3b (z:Nat) (s:Z8) (hl:s.cst<=1000000000:=by exact ob) (hz:s.sz<=z+1:=by exact ob) (ih:∀(b2:Zh),(b2.sz<=z)->(b2.cst<=1000000000)->Za 157 [YC b2,YC b2] [] (ZP (.b true))):Za 246 [XO s,XO s] [] (ZP (.b true)):=by
 have hse:=s.sz_eq
 have hce:=s.cst_eq
 have hbc:VY s.kids=s.kids.length+UA s.kids:=rfl
 refine Zx 32 Tryz.func246 (ar (iA (WO s) fun b1=>iA (WO s) fun b2=>Z0 (Yq (Vq [1,0] (ac (s.op != s.op) ZO (fun Z5=>?_) (fun Z5=>?_))))))
 ·exact ar (Z7 (Zo (.b false) lb))
 refine ak (Yq (Vq [1,0] (ac (s.num != s.num) ZO (fun Zd=>?_) (fun Zd=>?_))))
 ·exact ar (Z7 (Zo (.b false) lb))
 refine ak (Yq (Vq [1,0] (ac (s.into != s.into) ZO (fun Zw=>?_) (fun Zw=>?_))))
 ·exact ar (Z7 (Zo (.b false) lb))
 exact ak (Ym 4 [1,0] (ZC [] (EA s.args) (Z0 (XC (ak (Ym 4 [1,0] (ZC [] (Z37 z s.kids (ih:=ih)) (Z0 (XC (ak (ar (Z7 (T8)))))))))))))
theorem Z3c (z:Nat) (cs:List Z8) (hl:Uu cs<=1000000000:=by exact ob) (hz:Y6 cs<=z+1:=by exact ob) (ih:∀(b2:Zh),(b2.sz<=z)->(b2.cst<=1000000000)->Za 157 [YC b2,YC b2] [] (ZP (.b true))):Za 210 [VR cs,VR cs] [] (ZP (.b true)):=by
 have hl2:=hl
 unfold Uu at hl2
 refine Zx 27 Tryz.func210 (Zf (Y8 1 (iw (T2 cs) (Z1 1 (iw (T2 cs) (Yt ((cs.length:Int) != (cs.length:Int)) ZO (fun Z5=>?_) (fun Z5=>?_)))))))
 ·exact ar (Z7 (Zo (.b false) lb))
 refine ak (Yj (ab 0 (ZR (fun fz gz m F h=>∃(k:Nat),(k<=cs.length)/\F=sF [0,1] fz [(5,.i k)]/\h=gz/\m=cs.length-k) _ _ _ ⟨0,ob,rfl,rfl,rfl⟩ (wk [] (ZT fl)) ?_)))
 rintro m F h ⟨k,ZX,rfl,rfl,rfl⟩
 refine Y8 2 (iw (T2 cs) (ZN ((k:Int)<(cs.length:Int)) (fun Zd=>?_) (fun Zd=>?_)))
 ·refine ak (aq (ab 1 (aD 10 (Zm 8 10 [0,1] ?_))))
  obtain ⟨x1,Z2⟩:=Zv cs k om
  have hcl:=Ik Z2
  have YD:=Dd Z2
  exact dx 2 (Zq none (k:Int) 5 (U2 Z2)) (Zm 4 7 [3,4,5] (dx 6 (Zq none (k:Int) 5 (U2 Z2)) (Zm 2 3 [7] (ZF 8 (XY 8 [] [] [] (Z3b z x1 (ih:=ih)) (Zm 0 1 [9] (de (XC (ak (az (Z1 1 (ZK k (Z0 (ZJ ⟨k+1,ob,rfl,rfl,rfl⟩ (wk [] (ZL k fl))))))))))))))))
 exact ax 0 (ar (Z7 (T8)))
theorem Z35 (z:Nat) (b:Zh) (hl:b.cst<=1000000000:=by exact ob) (hz:b.sz<=z+1:=by exact ob) (ih:∀(b2:Zh),(b2.sz<=z)->(b2.cst<=1000000000)->Za 157 [YC b2,YC b2] [] (ZP (.b true))):Za 157 [YC b,YC b] [] (ZP (.b true)):=by
 have hse:=b.sz_eq
 have hce:=b.cst_eq
 have hbc:Uu b.steps=b.steps.length+UF b.steps:=rfl
 refine Zx 16 Tryz.func157 (ar (iA (Vz b) fun b1=>iA (Vz b) fun b2=>Z0 (Ym 4 [1,0] (ZC [] (Z3c z b.steps (ih:=ih)) (Z0 (XC (ak (Yq (Vq [1,0] (ac (b.result != b.result) ZO (fun Z5=>?_) (fun Z5=>?_)))))))))))
 ·exact ar (Z7 (Zo (.b false) lb))
 exact ak (ar (Z7 (T8)))
theorem Z36 (m:Nat):∀(b2:Zh),(b2.sz<=m)->(b2.cst<=1000000000)->Za 157 [YC b2,YC b2] [] (ZP (.b true)):=by
 induction m with
 | zero=>intro b h;have:=b.sz_pos;omega
 | succ m ih=>intro b h1 h2;exact Z35 m b h2 h1 ih
theorem Z34 (b2:Zh) (hl:b2.cst<=1000000000):Za 157 [YC b2,YC b2] [] (ZP (.b true)):=
 Z36 b2.sz b2 (YX _) hl
theorem Z6z (rt:YB) (hl:VA rt<=1000000000:=by exact ob):Za 97 [QU rt,QU rt] [] (ZP (.b true)):=by
 unfold VA at hl
 refine Zx 28 Tryz.func97 (ar (iA (TH rt) fun b1=>iA (TH rt) fun b2=>Z0 (Ym 4 [1,0] (ZC [] (EA rt.params) (Z0 (XC (ak (Ym 4 [1,0] (ZC [] (EA rt.lent) (Z0 (XC (ak (Yq (Vq [1,0] (ac (rt.result != rt.result) ZO (fun Z5=>?_) (fun Z5=>?_))))))))))))))))
 ·exact ar (Z7 (Zo (.b false) lb))
 exact ak (Ym 4 [1,0] (ZC [] (Z34 rt.body ob) (Z0 (XC (ak (ar (Z7 (T8))))))))
theorem Z6y (cs:List YB) (hl:VT cs<=1000000000:=by exact ob):Za 48 [BS cs,BS cs] [] (ZP (.b true)):=by
 have hl2:=hl
 unfold VT at hl2
 refine Zx 27 Tryz.func48 (Zf (Y8 1 (iw (UD cs) (Z1 1 (iw (UD cs) (Yt ((cs.length:Int) != (cs.length:Int)) ZO (fun Z5=>?_) (fun Z5=>?_)))))))
 ·exact ar (Z7 (Zo (.b false) lb))
 refine ak (Yj (ab 0 (ZR (fun fz gz m F h=>∃(k:Nat),(k<=cs.length)/\F=sF [0,1] fz [(5,.i k)]/\h=gz/\m=cs.length-k) _ _ _ ⟨0,ob,rfl,rfl,rfl⟩ (wk [] (ZT fl)) ?_)))
 rintro m F h ⟨k,ZX,rfl,rfl,rfl⟩
 refine Y8 2 (iw (UD cs) (ZN ((k:Int)<(cs.length:Int)) (fun Zd=>?_) (fun Zd=>?_)))
 ·refine ak (aq (ab 1 (aD 10 (Zm 8 10 [0,1] ?_))))
  obtain ⟨x1,Z2⟩:=Zv cs k om
  have hcl:=EY Z2
  exact dx 2 (Zq none (k:Int) 5 (Um Z2)) (Zm 4 7 [3,4,5] (dx 6 (Zq none (k:Int) 5 (Um Z2)) (Zm 2 3 [7] (ZF 8 (XY 8 [] [] [] (Z6z x1) (Zm 0 1 [9] (de (XC (ak (az (Z1 1 (ZK k (Z0 (ZJ ⟨k+1,ob,rfl,rfl,rfl⟩ (wk [] (ZL k fl))))))))))))))))
 exact ax 0 (ar (Z7 (T8)))
theorem Hp (n:Zl) (hl:Wj n<=1000000000):Za 19 [X3 n,X3 n] [] (ZP (.b true)):=by
 unfold Wj at hl
 exact Zx 17 Tryz.func19 (ar (iA (W8 n) fun b1=>iA (W8 n) fun b2=>Z0 (Ym 4 [1,0] (ZC [] (Z6w n.decls) (Z0 (XC (ak (Ym 4 [1,0] (ZC [] (Z6y n.routines) (Z0 (XC (ak (ar (Z7 (T8)))))))))))))))
end Go.Abs
section
namespace Go.Proofs
open Go.Shelf
def Tryz.keysA_ren:Go.Shelf.Ren:=⟨fun|7=>103|10=>165|n=>n,fun|23=>157|26=>3|3=>3|28=>160|0=>0|27=>159|33=>124|4=>4|n=>n,fun|n=>n⟩
theorem Tryz.keysA:Go.Proofs.SlLaysZI.n7 Tryz.prog Tryz.keysA_ren:={
 mixed:=by kernel_rfl
 f7:=⟨Tryz.f103.name,by decide,Tryz.func103.trans (congrArg some (by kernel_rfl))⟩
 f10:=⟨Tryz.f165.name,by decide,Tryz.func165.trans (congrArg some (by kernel_rfl))⟩
 t0:=Tryz.underlying0
 a0:=Tryz.isAgg0
 z0:=Tryz.sizeOf0
 v0:=Tryz.zeroValue0
 t4:=Tryz.underlying4
 a4:=Tryz.isAgg4
 z4:=Tryz.sizeOf4
 v4:=Tryz.zeroValue4
 t23:=Tryz.underlying157
 a23:=Tryz.isAgg157
 z23:=Tryz.sizeOf157
 v23:=Tryz.zeroValue157
 t26:=Tryz.underlying3
 a26:=Tryz.isAgg3
 z26:=Tryz.sizeOf3
 v26:=Tryz.zeroValue3
 t27:=Tryz.underlying159
 a27:=Tryz.isAgg159
 z27:=Tryz.sizeOf159
 v27:=Tryz.zeroValue159
 t28:=Tryz.underlying160
 a28:=Tryz.isAgg160
 z28:=Tryz.sizeOf160
 v28:=Tryz.zeroValue160
 t33:=Tryz.underlying124
 a33:=Tryz.isAgg124
 z33:=Tryz.sizeOf124
 v33:=Tryz.zeroValue124 }
def Tryz.sortedA_ren:Go.Shelf.Ren:=⟨fun|6=>102|8=>163|9=>164|11=>215|13=>217|12=>216|23=>261|24=>262|14=>252|15=>253|16=>254|17=>255|18=>256|19=>257|20=>258|21=>259|22=>260|25=>296|26=>297|27=>298|28=>299|29=>300|30=>301|31=>329|n=>n,fun|26=>3|28=>160|24=>23|0=>0|3=>3|37=>254|48=>286|50=>288|4=>4|40=>280|39=>279|45=>242|5=>5|9=>9|51=>320|55=>241|57=>346|58=>127|33=>124|n=>n,fun|n=>n⟩
theorem Tryz.sortedA:Go.Proofs.SlLaysZI.n6 Tryz.prog Tryz.sortedA_ren:={
 mixed:=by kernel_rfl
 f6:=⟨Tryz.f102.name,by decide,Tryz.func102.trans (congrArg some (by kernel_rfl))⟩
 f8:=⟨Tryz.f163.name,by decide,Tryz.func163.trans (congrArg some (by kernel_rfl))⟩
 f11:=⟨Tryz.f215.name,by decide,Tryz.func215.trans (congrArg some (by kernel_rfl))⟩
 t0:=Tryz.underlying0
 a0:=Tryz.isAgg0
 z0:=Tryz.sizeOf0
 v0:=Tryz.zeroValue0
 t24:=Tryz.underlying23
 a24:=Tryz.isAgg23
 z24:=Tryz.sizeOf23
 v24:=Tryz.zeroValue23
 t26:=Tryz.underlying3
 a26:=Tryz.isAgg3
 z26:=Tryz.sizeOf3
 v26:=Tryz.zeroValue3
 t28:=Tryz.underlying160
 a28:=Tryz.isAgg160
 z28:=Tryz.sizeOf160
 v28:=Tryz.zeroValue160
 i26:=by kernel_rfl }
def Tryz.sortA_ren:Go.Shelf.Ren:=⟨fun|5=>164|8=>217|7=>216|19=>261|20=>262|10=>252|11=>253|12=>254|13=>255|14=>256|15=>257|16=>258|17=>259|18=>260|30=>296|31=>297|32=>298|33=>299|34=>300|35=>301|40=>329|n=>n,fun|23=>23|25=>3|3=>3|32=>254|22=>23|0=>0|44=>286|46=>288|4=>4|36=>280|35=>279|41=>242|5=>5|9=>9|53=>320|57=>241|63=>346|64=>127|n=>n,fun|n=>n⟩
theorem Tryz.sortA:Go.Proofs.SlLaysM.n5 Tryz.prog Tryz.sortA_ren:={
 mixed:=by kernel_rfl
 f5:=⟨Tryz.f164.name,by decide,Tryz.func164.trans (congrArg some (by kernel_rfl))⟩
 f7:=⟨Tryz.f216.name,by decide,Tryz.func216.trans (congrArg some (by kernel_rfl))⟩
 f8:=Tryz.func217.trans (congrArg some (by kernel_rfl))
 f10:=⟨Tryz.f252.name,by decide,Tryz.func252.trans (congrArg some (by kernel_rfl))⟩
 f11:=⟨Tryz.f253.name,by decide,Tryz.func253.trans (congrArg some (by kernel_rfl))⟩
 f12:=⟨Tryz.f254.name,by decide,Tryz.func254.trans (congrArg some (by kernel_rfl))⟩
 f13:=⟨Tryz.f255.name,by decide,Tryz.func255.trans (congrArg some (by kernel_rfl))⟩
 f14:=⟨Tryz.f256.name,by decide,Tryz.func256.trans (congrArg some (by kernel_rfl))⟩
 f15:=⟨Tryz.f257.name,by decide,Tryz.func257.trans (congrArg some (by kernel_rfl))⟩
 f16:=⟨Tryz.f258.name,by decide,Tryz.func258.trans (congrArg some (by kernel_rfl))⟩
 f17:=⟨Tryz.f259.name,by decide,Tryz.func259.trans (congrArg some (by kernel_rfl))⟩
 f18:=⟨Tryz.f260.name,by decide,Tryz.func260.trans (congrArg some (by kernel_rfl))⟩
 f19:=Tryz.func261.trans (congrArg some (by kernel_rfl))
 f20:=Tryz.func262.trans (congrArg some (by kernel_rfl))
 f30:=⟨Tryz.f296.name,by decide,Tryz.func296.trans (congrArg some (by kernel_rfl))⟩
 f31:=Tryz.func297.trans (congrArg some (by kernel_rfl))
 f32:=Tryz.func298.trans (congrArg some (by kernel_rfl))
 f33:=⟨Tryz.f299.name,by decide,Tryz.func299.trans (congrArg some (by kernel_rfl))⟩
 f34:=⟨Tryz.f300.name,by decide,Tryz.func300.trans (congrArg some (by kernel_rfl))⟩
 f35:=⟨Tryz.f301.name,by decide,Tryz.func301.trans (congrArg some (by kernel_rfl))⟩
 f40:=⟨Tryz.f329.name,by decide,Tryz.func329.trans (congrArg some (by kernel_rfl))⟩
 t0:=Tryz.underlying0
 a0:=Tryz.isAgg0
 z0:=Tryz.sizeOf0
 v0:=Tryz.zeroValue0
 t3:=Tryz.underlying3
 a3:=Tryz.isAgg3
 z3:=Tryz.sizeOf3
 v3:=Tryz.zeroValue3
 t4:=Tryz.underlying4
 a4:=Tryz.isAgg4
 z4:=Tryz.sizeOf4
 v4:=Tryz.zeroValue4
 t5:=Tryz.underlying5
 a5:=Tryz.isAgg5
 z5:=Tryz.sizeOf5
 v5:=Tryz.zeroValue5
 t9:=Tryz.underlying9
 a9:=Tryz.isAgg9
 z9:=Tryz.sizeOf9
 v9:=Tryz.zeroValue9
 t22:=Tryz.underlying23
 a22:=Tryz.isAgg23
 z22:=Tryz.sizeOf23
 v22:=Tryz.zeroValue23
 t23:=Tryz.underlying23
 a23:=Tryz.isAgg23
 z23:=Tryz.sizeOf23
 v23:=Tryz.zeroValue23
 t25:=Tryz.underlying3
 a25:=Tryz.isAgg3
 z25:=Tryz.sizeOf3
 v25:=Tryz.zeroValue3
 t32:=Tryz.underlying254
 a32:=Tryz.isAgg254
 z32:=Tryz.sizeOf254
 v32:=Tryz.zeroValue254
 t35:=Tryz.underlying279
 a35:=Tryz.isAgg279
 z35:=Tryz.sizeOf279
 v35:=Tryz.zeroValue279
 t36:=Tryz.underlying280
 a36:=Tryz.isAgg280
 z36:=Tryz.sizeOf280
 v36:=Tryz.zeroValue280
 t41:=Tryz.underlying242
 a41:=Tryz.isAgg242
 z41:=Tryz.sizeOf242
 v41:=Tryz.zeroValue242
 t44:=Tryz.underlying286
 a44:=Tryz.isAgg286
 z44:=Tryz.sizeOf286
 v44:=Tryz.zeroValue286
 t46:=Tryz.underlying288
 a46:=Tryz.isAgg288
 z46:=Tryz.sizeOf288
 v46:=Tryz.zeroValue288
 t53:=Tryz.underlying320
 a53:=Tryz.isAgg320
 z53:=Tryz.sizeOf320
 v53:=Tryz.zeroValue320
 t57:=Tryz.underlying241
 a57:=Tryz.isAgg241
 z57:=Tryz.sizeOf241
 v57:=Tryz.zeroValue241
 t63:=Tryz.underlying346
 a63:=Tryz.isAgg346
 z63:=Tryz.sizeOf346
 v63:=Tryz.zeroValue346
 t64:=Tryz.underlying127
 a64:=Tryz.isAgg127
 z64:=Tryz.sizeOf127
 v64:=Tryz.zeroValue127 }
end Go.Proofs
end
namespace Go.Abs
def Cn (s:Z8):Prop:=s=XW s.op (gI s.args 0)
end Go.Abs
section
namespace Go.Abs
mutual
def wS (ds:List Zs):Z8->Prop
 | .mk op num into args kids=>(Xx op=!YU op)/\(YU op=true->num=0/\into=0/\kids=[]/\∃a,args=[a])/\(op=8->(∃a,args=[a]/\0<=a/\a<=900000000)/\kids.length=(YG ds num).length)/\J9 ds kids
def J9 (ds:List Zs):List Zh->Prop
 | []=>True
 | b::r=>wB ds b/\J9 ds r
def KO (ds:List Zs):List Z8->Prop
 | []=>True
 | s::r=>wS ds s/\KO ds r
def wB (ds:List Zs):Zh->Prop
 | .mk steps _=>KO ds steps
end
section
variable {ds:List Zs}
theorem L4 (s:Z8):wS ds s↔(Xx s.op=!YU s.op)/\(YU s.op=true->s.num=0/\s.into=0/\s.kids=[]/\∃a,s.args=[a])/\(s.op=8->(∃a,s.args=[a]/\0<=a/\a<=900000000)/\s.kids.length=(YG ds s.num).length)/\J9 ds s.kids:=by cases s;rw [wS];rfl
theorem L0 (b:Zh):wB ds b↔KO ds b.steps:=by cases b;rw [wB];rfl
theorem RY:∀{xs:List Z8},KO ds xs↔∀s∈xs,wS ds s
 | []=>by simp [KO]
 | s::r=>by rw [KO,RY];simp
theorem RU:∀{xs:List Zh},J9 ds xs↔∀s∈xs,wB ds s
 | []=>by simp [J9]
 | s::r=>by rw [J9,RU];simp
theorem RS {b:Zh} {k:Nat} {s:Z8} (h:wB ds b) (hs:b.steps[k]? = some s):wS ds s:=RY.1 ((L0 b).1 h) s (YA hs)
theorem RX {s:Z8} {k:Nat} {b:Zh} (h:wS ds s) (hb:s.kids[k]? = some b):wB ds b:=RU.1 ((L4 s).1 h).2.2.2 b (YA hb)
theorem Ba {s:Z8} (h:wS ds s) (hc:YU s.op=true):Cn s/\s.kids=[]/\∃a,s.args=[a]:=by
 obtain ⟨h1,h2,h3,a,h4⟩:=((L4 s).1 h).2.1 hc
 refine ⟨?_,h3,a,h4⟩
 cases s with
 | mk op num into args kids=>
  simp only [Z8.num,Z8.into,Z8.kids,Z8.args] at h1 h2 h3 h4
  subst h1 h2 h3 h4
  rfl
end
section
variable {n:Zl}
theorem Z8b {us:LI} {s:Z8} (g:0<=ZQ n us s) (h:YU s.op=true):s.num=0/\s.into=0/\s.kids=[]:=by
 have ho:14<=s.op/\s.op<=17:=by simpa [YU] using h
 rw [KM] at g
 split at g
 ·omega
 ·rename_i q
  refine ⟨Dt fun z=>q (.inl ⟨z,?_⟩),Dt fun z=>q (.inr (.inl ?_)),Dt fun z=>q (.inr (.inr ⟨Fw.2 z,by omega,by omega⟩))⟩
  ·rw [V8];simp;omega
  ·rw [Vl,Z4 z,Z4 om];simp
mutual
theorem Ze4:∀(s:Z8) {us:LI},us.length+4*s.sz<=900000000->Wy n.decls->0<=ZQ n us s->wS n.decls s
 | .mk op num into args kids,us,hu,hd,g=>by
  have hf:=B6 g
  rw [wS]
  refine ⟨Gy g,fun hc=>?_,fun h8=>?_,?_⟩
  ·obtain ⟨h1,h2,h3⟩:=Z8b g hc
   have ho:14<=op/\op<=17:=by simpa [YU] using hc
   exact ⟨h1,h2,h3,hf.one (.inr (.inr ho))⟩
  ·obtain ⟨k1,k2,k3⟩:=hf.kids (.inr h8)
   obtain ⟨a,ha⟩:=hf.one (.inr (.inl h8))
   have hb:=hf.args a (by rw [ha];exact YH.2 rfl)
   refine ⟨⟨a,ha,hb.1,by omega⟩,?_⟩
   have e:YF n.decls op num=(YG n.decls num).map (Y2 n.decls):=by rw [YF,Z4 om]
   have k1':kids.length=(YF n.decls op num).length:=k1
   rw [k1',e,Uh]
  ·refine RW kids hd fun i b hb=>?_
   have hl:0<kids.length:=by have:=(XZ.1 hb).1;omega
   obtain ⟨k1,k2,k3⟩:=hf.kids (Oa g hl)
   have k1':kids.length=(YF n.decls op num).length:=k1
   have hi:=(XZ.1 hb).1
   obtain ⟨mk,hmk⟩:=QH (xs:=YF n.decls op num) (j:=i) om
   have hk3:=Bm hd hmk
   have CJ:=Bq hb
   rw [Z8.sz] at hu
   exact ⟨us++mk,by rw [Yz];omega,k3 i b mk hb hmk⟩
theorem RW:∀(bs:List Zh),Wy n.decls->(∀(i:Nat) (b:Zh),bs[i]? = some b->∃us:LI,us.length+4*b.sz<=900000000/\0<=Ys n us b)->J9 n.decls bs
 | [],_,_=>True.intro
 | b::r,hd,h=>by
  obtain ⟨us,hq,hu⟩:=h 0 b rfl
  exact ⟨RT b hq hd hu,RW r hd fun i x hx=>h (i+1) x (by simpa using hx)⟩
theorem RZ:∀(xs:List Z8) {us vs:LI},us.length+4*Y6 xs<=900000000->Wy n.decls->Xr n xs us=some vs->KO n.decls xs
 | [],_,_,_,_,_=>True.intro
 | s::r,us,vs,hu,hd,h=>by
  obtain ⟨g1,g2⟩:=C4 h
  rw [Y6] at hu
  have h1:=s.sz_pos
  have h2:=C1 n us s
  exact ⟨Ze4 s om hd g1,RZ r om hd g2⟩
theorem RT:∀(b:Zh) {us:LI},us.length+4*b.sz<=900000000->Wy n.decls->0<=Ys n us b->wB n.decls b
 | .mk steps result,us,hu,hd,h=>by
  obtain ⟨fvs,t0,hvs,_,_⟩:=Bp h
  rw [Zh.sz] at hu
  rw [wB];exact RZ steps om hd hvs
end
end
theorem Dq {n:Zl} (hn:YY n) (hz:WI n) (hbt:∀r∈n.routines,0<=Ys n r.params r.body):∀r∈n.routines,wB n.decls r.body:=fun r hr=>RT r.body (by have:=hz.body r hr;have:=hn.params r hr;omega) hn.decls (hbt r hr)
end Go.Abs
namespace Go.Abs
end Go.Abs
end
namespace Go.Abs

def EC:List Z8->Nat
 | []=>0
 | s::r=>if YU s.op=true then EC r+1 else 0
def LS (op x:Int):List Z8->Int->Int
 | [],_=>-1
 | s::r,k=>if s.op=op/\gI s.args 0=x then k else LS op x r (k+1)
def Gm (many:Nat) (s:Z8):Prop:=(s.op=6/\s.into=0)/\s.args.length=many
instance (many:Nat) (s:Z8):Decidable (Gm many s):=by unfold Gm;infer_instance
def Mu (many:Nat):List Z8->Int->Int
 | [],_=>-1
 | s::r,k=>if Gm many s then k else Mu many r (k+1)
def Z92 (xs:List Z8) (x:Int):Int:=LS 16 x (xs.take (EC xs)) 0
def Z1a (xs:List Z8) (many:Nat):Int:=Mu many (xs.drop (EC xs)) (EC xs)
def TS (op:Int) (c:LI):LI:=if YU op=true then c.set (op-14).toNat (gI c (op-14)+1) else c
mutual
def Cq:Z8->LI->LI
 | .mk op _ _ _ kids,c=>Ta kids (TS op c)
def Ta:List Zh->LI->LI
 | [],c=>c
 | b::r,c=>Ta r (UL b c)
def TT:List Z8->LI->LI
 | [],c=>c
 | s::r,c=>TT r (Cq s c)
def UL:Zh->LI->LI
 | .mk steps _,c=>TT steps c
end
theorem Z13 (s:Z8) (c:LI):Cq s c=Ta s.kids (TS s.op c):=by cases s;rw [Cq];rfl
theorem Mk (b:Zh) (c:LI):UL b c=TT b.steps c:=by cases b;rw [UL];rfl
theorem Mq {xs:List Z8} {k:Nat} {s:Z8} {c r:LI} (h:xs[k]? = some s) (ha:TT (xs.drop k) c=r):TT (xs.drop (k+1)) (Ta s.kids (TS s.op c))=r:=by
 rw [ZH h,TT,Z13] at ha;exact ha
theorem Mp {xs:List Z8} {k:Nat} {c r:LI} (h:xs.length<=k) (ha:TT (xs.drop k) c=r):c=r:=by
 rw [YR h,TT] at ha;exact ha
theorem Ml {xs:List Zh} {k:Nat} {s:Zh} {c r:LI} (h:xs[k]? = some s) (ha:Ta (xs.drop k) c=r):Ta (xs.drop (k+1)) (UL s c)=r:=by
 rw [ZH h,Ta] at ha;exact ha
theorem Mj {xs:List Zh} {k:Nat} {c r:LI} (h:xs.length<=k) (ha:Ta (xs.drop k) c=r):c=r:=by
 rw [YR h,Ta] at ha;exact ha
structure CB (c:LI) (q:Int):Prop where
 len:c.length=4
 bd:∀x∈c,0<=x/\x<=q
theorem CB.le {c:LI} {q p:Int} (h:CB c q) (hq:q<=p):CB c p:=⟨h.len,fun x hx=>by have:=h.bd x hx;omega⟩
theorem CB.at {c:LI} {q:Int} (h:CB c q) {i:Int} (hi:i.toNat<4):0<=gI c i/\gI c i<=q:=h.bd _ (by rw [gI,Qu (by rw [h.len];exact hi)];exact List.getElem_mem _)
theorem CB.one {c:LI} {q:Int} (h:CB c q) (_:0<=q) (op:Int):CB (TS op c) (q+1):=by
 rw [TS]
 split
 ·rename_i ho
  have ho':14<=op/\op<=17:=by simpa [YU] using ho
  refine ⟨by rw [Qv];exact h.len,fun x hx=>?_⟩
  rcases QK hx with hx|rfl
  ·have:=h.bd x hx;omega
  ·have:=h.at (i:=op-14) om;omega
 ·exact h.le om
mutual
theorem CB.s:∀(s:Z8) {c:LI} {q:Int},CB c q->0<=q->CB (Cq s c) (q+s.sz)
 | .mk op num into args kids,c,q,h,hq=>by
  have:=CB.bs kids (h.one hq op) om
  rw [Cq,Z8.sz];exact this.le om
theorem CB.bs:∀(bs:List Zh) {c:LI} {q:Int},CB c q->0<=q->CB (Ta bs c) (q+Xl bs)
 | [],c,q,h,hq=>by rw [Ta,Xl];exact h.le om
 | b::r,c,q,h,hq=>by
  have:=CB.bs r (CB.b b h hq) om
  rw [Ta,Xl];exact this.le om
theorem CB.ss:∀(xs:List Z8) {c:LI} {q:Int},CB c q->0<=q->CB (TT xs c) (q+Y6 xs)
 | [],c,q,h,hq=>by rw [TT,Y6];exact h.le om
 | s::r,c,q,h,hq=>by
  have:=CB.ss r (CB.s s h hq) om
  rw [TT,Y6];exact this.le om
theorem CB.b:∀(b:Zh) {c:LI} {q:Int},CB c q->0<=q->CB (UL b c) (q+b.sz)
 | .mk steps result,c,q,h,hq=>by
  have:=CB.ss steps h hq
  rw [UL,Zh.sz];exact this.le om
end
def K0:List YB->LI->LI
 | [],c=>c
 | r::rs,c=>K0 rs (UL r.body c)
theorem Mn {xs:List YB} {k:Nat} {s:YB} {c r:LI} (h:xs[k]? = some s) (ha:K0 (xs.drop k) c=r):K0 (xs.drop (k+1)) (UL s.body c)=r:=by
 rw [ZH h,K0] at ha;exact ha
theorem Mm {xs:List YB} {k:Nat} {c r:LI} (h:xs.length<=k) (ha:K0 (xs.drop k) c=r):c=r:=by
 rw [YR h,K0] at ha;exact ha
def Xq (n:Zl):LI:=K0 n.routines [0,0,0,0]
end Go.Abs
section
namespace Go.Abs
end Go.Abs
namespace Go.Abs
theorem Mi {op:Int} {c:LI} (h:YU op=true):TS op c=c.set (op-14).toNat (gI c (op-14)+1):=Z6 h
theorem Mh {op:Int} {c:LI} (h:¬YU op=true):TS op c=c:=Z4 h
theorem Mz {op:Int} (h:YU op=true):14<=op/\op<=17:=by simpa [YU] using h
end Go.Abs
namespace Go.Abs
theorem G5:∀(xs:List Zh) (b:Zh),Xl (xs++[b])=Xl xs+b.sz
 | [],b=>by rw [Dw,Xl,Xl,Xl];omega
 | x::r,b=>by rw [Kn,Xl,Xl,G5 r b];omega
theorem G6:∀{xs:List Zh} {k:Nat} {b:Zh},xs[k]? = some b->Xl (xs.take k)+b.sz<=Xl xs
 | [],_,_,h=>by simp at h
 | x::r,0,b,h=>by simp at h;subst h;simp [Xl]
 | x::r,k+1,b,h=>by
  have:=G6 (xs:=r) (k:=k) (by simpa using h)
  rw [Dy,Xl,Xl];omega
theorem M4 {xs:List Zh} {k:Nat} (h:xs.length<=k):Xl (xs.take k)=Xl xs:=by rw [W2 h]
end Go.Abs
end
namespace Go.Abs
def Z6m (am:List YL) (x:Int):Bool:=am.any fun o=>o.chg&&(o.mat==x)
def OM (am:List YL) (a:YL) (b:Zh):Prop:=Z6m am a.mat=true∨(Z92 b.steps a.mat<0∨Z1a b.steps a.fds.length<0)
instance (am:List YL) (a:YL) (b:Zh):Decidable (OM am a b):=by unfold OM;infer_instance


end Go.Abs
section
namespace Go.Abs
inductive DB where
 | mk (op num:Int) (kids:List DB)
namespace DB
end DB
instance:Inhabited DB:=⟨.mk 0 0 []⟩
end Go.Abs
end
namespace Go.Abs
def HG (t:Int):Prop:=t=0∨t=1∨t=3
instance (t:Int):Decidable (HG t):=inferInstanceAs (Decidable (_∨_∨_))


def rk (t:Int):Nat:=if HG t then 0 else 1
theorem SB {α:Type} {p:α->Prop} {xs:List α} {a:α} (h:∀x∈xs,p x) (ha:p a):∀x∈xs++[a],p x:=fun x hx=>(Yv.1 hx).elim (h x) fun q=>by rw [YH.1 q];exact ha
def Sa (ds:List Zs) (t c:Int):Prop:=(0<=c/\c<=9)/\(Y2 ds c).length<=3*rk t/\∀u∈Y2 ds c,HG u
instance (ds:List Zs) (t c:Int):Decidable (Sa ds t c):=inferInstanceAs (Decidable (_/\_/\_))
end Go.Abs
section
namespace Go.Abs
end Go.Abs
namespace Go.Abs
end Go.Abs
end
namespace Go.Abs



end Go.Abs
section
namespace Go.Abs
end Go.Abs
namespace Go.Abs
end Go.Abs
namespace Go.Abs
end Go.Abs
end
namespace Go.Abs

def VP:LI->Int->LI
 | [],y=>[y]
 | x::r,y=>if x>y then y::x::r else if x=y then x::r else x::VP r y
def TF (d:Bool) (xs:LI) (y:Int):LI:=if d=true then xs else VP xs y
theorem Ev {xs:LI} {y:Int}:TF true xs y=xs:=rfl
theorem Eu {xs:LI} {y:Int}:TF false xs y=VP xs y:=rfl
theorem NU {xs acc r:LI} {y x:Int} {k:Nat} {d:Bool} (hx:xs[k]? = some x) (hd:d=true) (h:acc++TF d (xs.drop k) y=r):(acc++[x])++TF d (xs.drop (k+1)) y=r:=by
 subst hd
 rw [Ev,ZH hx] at h
 rw [Ev,<-h];simp
theorem Z65 {xs acc r:LI} {y x:Int} {k:Nat} {d:Bool} (hx:xs[k]? = some x) (hd:¬d=true) (hl:¬x>=y) (h:acc++TF d (xs.drop k) y=r):(acc++[x])++TF d (xs.drop (k+1)) y=r:=by
 have hd:=Ja.2 hd
 subst hd
 rw [Eu,ZH hx,VP,Z4 om,Z4 om] at h
 rw [Eu,<-h];simp
theorem Z66 {xs acc r:LI} {y x:Int} {k:Nat} {d:Bool} (hx:xs[k]? = some x) (hd:¬d=true) (hl:x>y) (h:acc++TF d (xs.drop k) y=r):((acc++[y])++[x])++TF true (xs.drop (k+1)) y=r:=by
 have hd:=Ja.2 hd
 subst hd
 rw [Eu,ZH hx,VP,Z6 hl] at h
 rw [Ev,<-h];simp
theorem Z67 {xs acc r:LI} {y x:Int} {k:Nat} {d:Bool} (hx:xs[k]? = some x) (hd:¬d=true) (hl:x=y) (h:acc++TF d (xs.drop k) y=r):(acc++[x])++TF true (xs.drop (k+1)) y=r:=by
 have hd:=Ja.2 hd
 subst hd
 rw [Eu,ZH hx,VP,Z4 om,Z6 hl] at h
 rw [Ev,<-h];simp
theorem Z64 {xs acc acc2 r:LI} {y x:Int} {k:Nat} {d d2:Bool} (hx:xs[k]? = some x) (h:acc++TF d (xs.drop k) y=r)
  (hc:(acc2=acc/\d2=d/\(d=true∨¬x>=y))∨(acc2=acc++[y]/\d2=true/\¬d=true/\x>y)∨(acc2=acc/\d2=true/\¬d=true/\x=y)):(acc2++[x])++TF d2 (xs.drop (k+1)) y=r:=by
 rcases hc with ⟨rfl,rfl,h3⟩|⟨rfl,rfl,h3,h4⟩|⟨rfl,rfl,h3,h4⟩
 ·rcases h3 with h3|h3
  ·exact NU hx h3 h
  ·by_cases q:d2=true
   ·exact NU hx q h
   ·exact Z65 hx q h3 h
 ·exact Z66 hx h3 h4 h
 ·exact Z67 hx h3 h4 h
theorem Z63 {xs acc r:LI} {y:Int} {k:Nat} {d:Bool} (hk:xs.length<=k) (h:acc++TF d (xs.drop k) y=r):(if d=true then acc else acc++[y])=r:=by
 rw [YR hk] at h
 by_cases q:d=true
 ·rw [TF,Z6 q,AA] at h;rw [Z6 q];exact h
 ·rw [TF,Z4 q,VP] at h;rw [Z4 q];exact h
theorem NT:∀(xs:LI) (y:Int),(VP xs y).length<=xs.length+1
 | [],y=>YX _
 | x::r,y=>by
  have:=NT r y
  rw [VP]
  split
  ·simp
  ·split
   ·simp
   ·simp only [XF];omega
theorem Hh:∀{xs:LI} {y z:Int},z∈VP xs y↔z∈xs∨z=y
 | [],y,z=>by simp [VP]
 | x::r,y,z=>by
  rw [VP]
  split
  ·simp only [Yw];exact ⟨fun h=>h.elim .inr .inl,fun h=>h.elim .inr .inl⟩
  ·split
   ·rename_i h;subst h;simp only [Yw];exact ⟨fun h=>.inl h,fun h=>h.elim id .inl⟩
   ·simp only [Yw,Hh (xs:=r)];exact ⟨fun h=>by rcases h with h|h|h<;>simp [h],fun h=>by rcases h with (h|h)|h<;>simp [h]⟩
def JQ (xs:LI):Prop:=xs.Pairwise (·<·)
theorem NS:∀{xs:LI} {y:Int},JQ xs->JQ (VP xs y)
 | [],y,_=>by simp [VP,JQ]
 | x::r,y,h=>by
  obtain ⟨h1,h2⟩:=Vm.1 h
  rw [VP]
  split
  ·rename_i q
   refine Vm.2 ⟨fun z hz=>?_,h⟩
   rcases Yw.1 hz with rfl|hz
   ·omega
   ·have:=h1 z hz;omega
  ·split
   ·exact h
   ·refine Vm.2 ⟨fun z hz=>?_,NS h2⟩
    rcases Hh.1 hz with hz|rfl
    ·exact h1 z hz
    ·omega

theorem Fe:∀{xs ys:List Z8},Y6 (xs++ys)=Y6 xs+Y6 ys
 | [],ys=>by rw [Y6,Dw,Vf]
 | x::r,ys=>by rw [Kn,Y6,Y6,Fe,Dz]
theorem Ol:∀{xs:List Z8},xs.length<=Y6 xs
 | []=>TO _
 | x::r=>by have:=Ol (xs:=r);have:=x.sz_pos;rw [Y6,XF];omega

end Go.Abs
section
namespace Go.Abs
end Go.Abs
namespace Go.Abs
end Go.Abs
namespace Go.Abs
end Go.Abs
end
