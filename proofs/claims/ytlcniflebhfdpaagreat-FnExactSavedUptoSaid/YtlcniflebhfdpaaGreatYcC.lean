/-
  A part of the proofs of several laws (see the last file): no condition.
-/
import Derived.Test.YtlcniflebhfdpaaGreatYcB
import Derived.RangeFuncNested
import Derived.RangeFuncBound
import Derived.RangeFuncCalls
import Derived.RangeFuncLeaves
import Derived.Shelf.Abstract
import Derived.Shelf.RegionOpen
import Derived.WalkKit
import Derived.OwnWalkIn
import Derived.TacticsInMore
import Derived.LoopNIn
import Derived.LoopIn
import Derived.Test.YtlcniflebhfdpaaGreatProg
import Derived.Shelf.RegionOpenPlain
import Derived.Lib.Walk
import Derived.Lib.SliceRun
import Derived.Lib.JoinLaws
import Derived.Lib.AppendZeros
import Derived.Lib.AppendZerosOnto
import Derived.Lib.Overlaps
import Derived.Laws.Externs
import Derived.Laws.IdiomCopy
import Derived.Laws.NewBlocks
import Derived.Shelf.SlGeneric
import Derived.Shelf.SlIterI.Nil
import Derived.Shelf.SortM.Plain
import Derived.Shelf.SortM.SortNone
import Derived.Ground.GgzProg
import Derived.Ground.SlgmProg
set_option linter.all false
set_option linter.unusedVariables false
set_option linter.unusedSimpArgs false
set_option linter.unusedSectionVars false
set_option maxRecDepth 10000
set_option maxHeartbeats 4000000
namespace Go.Abs
open Go.Proofs
theorem CC (xs:LI) (hl_xs:xs.length<=4294967296:=by exact ob):Za 100 [Ze xs] [] (fun r h=>∃(v:Value),r=ZY xs v/\h=[.tail v 1]):=by
 refine Zx 8 Tryz.func100 (Zh (Yb 1 (iN (Zk xs) (fun hz1=>?_) ?_)))
 ·have hz1:=Hf hz1
  exact ie (W7 (Zh (TU 1 (ZG (r2 [0] [nl] ⟨(.slice none 0 0),rfl,rfl⟩ (Zm.slh _ (by first|rfl|(subst_vars;rfl))))))))
 exact ie (XF (ak (ar (iL (Zk []) 0 1 fun v1=>Z1 1 (ip 0 (Zk xs) (Zk []) (Zk xs) v1 none 1 (Wv _) (Wv _) (Q3 _) (by simp<;>omega) (by simp [Zk]) fun v2=>Z8 (r1 [0] ⟨v2,rfl,rfl⟩))))))
theorem CD (xs:LI) (hl_xs:xs.length<=4294967296:=by exact ob):Za 100 [Ze xs] [] (fun r h=>∃(v:Hd),r=.h v/\h=[rV v xs]):=by
 refine Zx 8 Tryz.func100 (Zh (Yb 1 (iN (Zk xs) (fun hz1=>?_) ?_)))
 ·have hz1:=Hf hz1
  exact ie (W7 (Zh (Wq Ko (ZG (r2 [0] [nl] ⟨hN,rfl,rfl⟩ (Zm.hd (v:=hN)) (eq:=(rv (xs:=[]) ob rz)))))))
 exact ie (XF (ak (ar (HL [] 0 fun v1=>Z1 1 (Kf 0 v1 [] xs none fun v2=>Z8 (r1 [0] ⟨v2,rfl,rfl⟩ (eq:=(rv (xs:=([]++xs)) ob rz))))))))
theorem Zcc (xs:LI) (i:Int) (hl_xs:xs.length<=4294967296:=by exact ob):Za 247 [Ze xs,.i i] [] (ZQ (.i (EP xs i))):=by
 refine Zx 19 Tryz.func247 (Zh (Yb 1 (iw (Yn xs) (Z0 (ab 0 (ZU (fun fz gz m F h=>∃(k:Nat),(k<=xs.length)/\(Jb i (xs.drop k) k=EP xs i)/\F=sF [0,1,7] fz [(8,.i k)]/\h=gz/\m=xs.length-k) _ _ _ ⟨0,ob,(by rfl),rfl,rfl,rfl⟩ (wk [] (ZW fl)) ?_))))))
 rintro m F h ⟨k,Y0,Z9,rfl,rfl,rfl⟩
 refine Zh (aq (Xi ((k:Int)<(xs.length:Int)) (fun Z5=>?_) (fun Z5=>?_)))
 ·refine ak (aq (ab 1 (Zh (ZM 3 ?_))))
  obtain ⟨x1,Z2⟩:=Zv xs k om
  refine Zi (Zr none (k:Int) 1 (Yf Z2)) (Yw (i==x1) Zs (fun Zd=>?_) (fun Zd=>?_))
  ·refine Zh ?_
   rw [ZH Z2] at Z9
   exact ZG (Zp (.i k) (li (by clear Z2;first|rfl|omega|grind [Jb])))
  refine ak (az (ZK k (Z0 ?_)))
  have hdr:=ZH Z2
  exact ZJ ⟨k+1,ob,(by rw [hdr] at Z9;clear hdr Z2;grind [Jb]),rfl,rfl,rfl⟩ (wk [] (ZL k fl))
 refine ax 0 (Zh ?_)
 try rw [YV (xs:=xs) (k:=k) om] at Z9
 exact ZG (Zp (.i (-1)) (li (by first|rfl|omega|grind [Jb])))
theorem Lc (xs:LI) (i:Int) (hl_xs:xs.length<=4294967296:=by exact ob):Za 212 [Ze xs,.i i] [] (ZQ (.b (decide (i∈xs)))):=by
 exact Zx 9 Tryz.func212 (Zh (ZM 2 (ZC [] (Zcc xs i) (Z8 (Zp (.b (decide ((EP xs i)>=0))) (lb (Z7a xs i)))))))
theorem Bf (xs:LI) (ys:LI) (hl_xs:xs.length<=4294967296:=by exact ob) (hl_ys:ys.length<=4294967296:=by exact ob):Za 30 [Ze xs,Ze ys] [] (ZQ (.b (decide (xs=ys)))):=by
 refine Zx 26 Tryz.func30 (Zh (Yb 1 (iw (Yn xs) (Z1 1 (iw (Yn ys) (Yw ((xs.length:Int) != (ys.length:Int)) ZP (fun Z5=>?_) (fun Z5=>?_)))))))
 ·exact ar (Z8 (Zp (.b false) (lb (eq_comm.1 (decide_eq_false (fun q=>by rw [q] at Z5;exact Z5 rfl))))))
 refine ak (Yb 1 (iw (Yn xs) (Z0 (ab 0 (ZU (fun fz gz m F h=>∃(k:Nat),(k<=xs.length)/\(xs.take k=ys.take k)/\F=sF [0,1,12] fz [(13,.i k)]/\h=gz/\m=xs.length-k) _ _ _ ⟨0,ob,ob,rfl,rfl,rfl⟩ (wk [] (ZW fl)) ?_)))))
 rintro m F h ⟨k,Y0,Z9,rfl,rfl,rfl⟩
 refine Zh (aq (Xi ((k:Int)<(xs.length:Int)) (fun Zd=>?_) (fun Zd=>?_)))
 ·refine ak (aq (ab 1 (Zh (aD 9 (Zo 7 9 [0,1] ?_)))))
  obtain ⟨x1,Z2⟩:=Zv xs k om
  refine dx 2 (Zr none (k:Int) 1 (Yf Z2)) (Zo 3 6 [3,4,5] ?_)
  obtain ⟨x2,Zt⟩:=Zv ys k om
  refine dx 6 (Zr none (k:Int) 1 (Yf Zt)) (Zo 0 2 [7,8] (de (ac (x1 != x2) ZP (fun Zw=>?_) (fun Zw=>?_))))
  ·exact ar (Z8 (Zp (.b false) (lb (eq_comm.1 (decide_eq_false (fun q=>by subst q;rw [Z2] at Zt;cases Zt;exact Zw rfl))))))
  refine ak (az (ZK k (Z0 ?_)))
  have hdr:=ZH Z2
  exact ZJ ⟨k+1,ob,(by rw [WU Z2,WU Zt,Z9];have hxx:x1=x2:=om;rw [hxx]),rfl,rfl,rfl⟩ (wk [] (ZL k fl))
 exact ax 0 (ar (Z8 (Zp (.b true) (lb (eq_comm.1 (decide_eq_true (by rw [W6 om,W6 om] at Z9;exact Z9)))))))
theorem Zcb (m:Nat) (hm:m<=4294967296:=by exact ob):Za 325 [nl,.i m] [] (fun r h=>∃(v:Hd),r=.h v/\h=[rV v []]):=by
 refine Zx 27 Tryz.func325 (Wq Ko (AS (F':=[(0,.h hN),(1,.i m)]) (h':=[rV hN []]) (wk [0] (fc (x:=nl) (Zm.hd (v:=hN)) ( fc (x:=.i m) (lr _) (NX _)))) (Zh (Yt (ZO ((m:Int)<0) (fun Z5=>?_) (fun Z5=>?_))))))
 ·exfalso;omega
 refine ak (Yb 2 (Zi (Xb.le (Sa hN) (li (by rfl))) (Z1 1 (Zi (Xb.le (KW 0 hN []) (li (by rfl))) (ia ((0-0)) ((0)-(0)) (ia ((m:Int)) (((m:Int))-((0-0))) (Z0 (ar (ZO ((m:Int)>0) (fun Zd=>?_) (fun Zd=>?_))))))))))
 ·exact az (Z1 2 (Zi (Xb.le (Sa hN) (li (by rfl))) (Zi (Qw 0 hN [] 0) (Z1 1 (iZ m fun v1=>Z1 1 (Zi (Xb.le (KW 1 hN []) (li (by rfl))) (Zi (Qw 0 v1 (List.replicate m 0) 0) (Z0 (Zh (Wq (Bi 0 0 v1 (List.replicate m 0)) (ZG (r1 [0] ⟨(v1.cut 0),rfl,rfl⟩ (eq:=(rv (xs:=((List.replicate m 0).take 0)) ob rz))))))))))))))
 exact ak (ar (Z8 (r1 [0] ⟨hN,rfl,rfl⟩)))
theorem Zca (xss:List LI) (hl_xss:xss.length<=4294967296:=by exact ob) (hf:xss.flatten.length<=4294967296:=by exact ob):Za 287 [Av xss] [] (fun r h=>∃(v:Value),r=ZY xss.flatten v/\h=[.tail v 1]):=by
 have hft:=NW xss
 refine Zx 36 Tryz.func287 (Zh (Zh (Yb 1 (iw (Es xss) (Z0 (ab 0 (ZU (fun fz gz m F h=>∃(k:Nat) (q:Nat),(k<=xss.length)/\(q=(xss.take k).flatten.length)/\F=sF [0,9,10] fz [(3,.i q),(11,.i k)]/\h=gz/\m=xss.length-k) _ _ _ ⟨0,0,ob,(by simp),rfl,rfl,rfl⟩ (wk [] (ZW (ZW fl))) ?_)))))))
 rintro m F h ⟨k,q,Y0,Z9,rfl,rfl,rfl⟩
 refine Zh (aq (Xi ((k:Int)<(xss.length:Int)) (fun Z5=>?_) (fun Z5=>?_)))
 ·refine ak (aq (ab 1 (ar ?_)))
  obtain ⟨x1,Z2⟩:=Zv xss k om
  refine Zi (Zr none (k:Int) 1 (B1 Z2)) (Z0 (ZM 2 (iw (Yn x1) (ia (((q+x1.length:Nat):Int)) (((q:Int))+((x1.length:Int))) (hb:=(by have:=NV Z2;omega)) (Z0 (ar (ZO (((q+x1.length:Nat):Int)<0) (fun Zd=>?_) (fun Zd=>?_))))))))
  ·exfalso;omega
  refine ak (az (ZK k (Z0 ?_)))
  have hdr:=ZH Z2
  exact ZJ ⟨k+1,q+x1.length,ob,(by rw [Hs Z2,YE,Z9]),rfl,rfl,rfl⟩ (wk [] (fc (x:=.i (q+x1.length:Nat)) li (ZL k fl)))
 refine ax 0 (ZM 1 (ic [] (Zcb q (hm:=(by have:=hft k;omega))) ?_))
 rintro _ _ ⟨v1,rfl,rfl⟩
 refine Z0 (Yb 1 (iw (Es xss) (Z0 (ab 2 (ZU (fun fz gz m F h=>∃(j:Nat) (v:Hd),(j<=xss.length)/\F=sF [25,26] fz [(6,.h v),(27,.i j)]/\h=[rV v ((xss.take j).flatten)]/\m=xss.length-j) _ _ _ ⟨0,v1,ob,rfl,rfl,rfl⟩ (wk [0] (fr (ZW fl)) (e:=(rv (xs:=[]) ob rz))) ?_)))))
 rintro m F h ⟨j,v,T6,rfl,rfl,rfl⟩
 refine Zh (aq (Xi ((j:Int)<(xss.length:Int)) (fun Zw=>?_) (fun Zw=>?_)))
 ·refine ak (aq (ab 3 (ar ?_)))
  obtain ⟨x2,Zt⟩:=Zv xss j om
  refine Zi (Zr none (j:Int) 1 (B1 Zt)) (Z0 (az (Z1 2 (Kf 0 v ((xss.take j).flatten) x2 none (hbound:=(by have:=NV Zt;omega)) fun v2=>Z0 (az (ZK j (Z0 ?_)))))))
  have hdr:=ZH Zt
  exact ZJ ⟨j+1,v2,ob,rfl,rfl,rfl⟩ (wk [0] (fr (ZL j fl)) (e:=(rv (xs:=((xss.take j).flatten++x2)) (Hs Zt).symm rz)))
 exact ax 2 (Zh (Z04 2 0 (v:=v) (xs:=(xss.take j).flatten) (ZG (r2 [0] [ZY ((xss.take j).flatten) v.v] ⟨v.v,rfl,rfl⟩ (Zm.slh _ (Ys Zk (by rw [W6 om])))))))
theorem EN (ds:List Zg) (t:Int) (hl_ds:ds.length<=4294967296:=by exact ob):Za 132 [ZI ds,.i t] [] (fun r h=>r=.b (decide (0<=t/\t<=ds.length))/\h=[]):=by
 refine Zx 13 Tryz.func132 (Zh (ar (XC 8 [] [(12,.b ((decide (t>=0))&&(decide (t<=(ds.length:Int)))))] (fun gz=>gz) ?_ (fun hj1=>?_))))
 ·exact Z8 (Zp (.b ((decide (t>=0))&&(decide (t<=(ds.length:Int))))) (lb (by rw [Wp];simp)))
 refine Z1 3 (ib (b:=(decide (t>=0))) 7 (fun Zc=>?_) (fun Zc=>?_))
 ·exact Z1 2 (iw (VB ds) (Z1 2 (Ye (wk [] (Zq (decide (t<=(ds.length:Int))) Zc fl)) hj1)))
 exact Z1 5 (Ye (wk [] (Zq false Zc fl)) hj1)
theorem Od (ds:List Zg) (xs:LI) (hl_ds:ds.length<=4294967296:=by exact ob) (hl_xs:xs.length<=4294967296:=by exact ob):Za 131 [ZI ds,Ze xs] [] (ZQ (.b (XT ds.length xs))):=by
 refine Zx 18 Tryz.func131 (Zh (Yb 1 (iw (Yn xs) (Z0 (ab 0 (ZU (fun fz gz m F h=>∃(k:Nat),(k<=xs.length)/\(XT ds.length (xs.drop k)=XT ds.length xs)/\F=sF [0,7,8] fz [(9,.i k)]/\h=gz/\m=xs.length-k) _ _ _ ⟨0,ob,ob,rfl,rfl,rfl⟩ (wk [] (ZW fl)) ?_))))))
 rintro m F h ⟨k,Y0,Z9,rfl,rfl,rfl⟩
 refine Zh (aq (Xi ((k:Int)<(xs.length:Int)) (fun Z5=>?_) (fun Z5=>?_)))
 ·refine ak (aq (ab 1 (ar ?_)))
  obtain ⟨x1,Z2⟩:=Zv xs k om
  refine Zi (Zr none (k:Int) 1 (Yf Z2)) (Z0 (ZM 2 (ZC [] (EN ds x1) (Yw (!(decide (0<=x1/\x1<=ds.length))) (p:=¬(0<=x1/\x1<=ds.length)) (Yl dq) (fun Zd=>?_) (fun Zd=>?_)))))
  ·refine Zh ?_
   rw [ZH Z2] at Z9
   exact ZG (Zp (.b false) (lb (by clear Z2;first|rfl|omega|grind [XT])))
  refine ak (az (ZK k (Z0 ?_)))
  have hdr:=ZH Z2
  exact ZJ ⟨k+1,ob,(by rw [hdr] at Z9;clear hdr Z2;grind [XT]),rfl,rfl,rfl⟩ (wk [] (ZL k fl))
 refine ax 0 (Zh ?_)
 try rw [YV (xs:=xs) (k:=k) om] at Z9
 exact ZG (Zp (.b true) (lb (by first|rfl|omega|grind [XT])))
theorem Z6k (ds:List Zg) (hd:Wk ds:=by exact ob):Za 134 [ZI ds] [] (ZQ (.i (Yk ds:Nat))):=by
 have hdl:=hd.len
 refine Zx 19 Tryz.func134 (Zh (Zh (Yb 1 (iw (VB ds) (Z0 (ab 0 (ZU (fun fz gz m F h=>∃(k:Nat),(k<=ds.length)/\F=sF [6,7] fz [(3,.i ((Yk (ds.take k):Nat):Int)),(8,.i k)]/\h=gz/\m=ds.length-k) _ _ _ ⟨0,ob,rfl,rfl,rfl⟩ (wk [] (ZW (ZW fl))) ?_)))))))
 rintro m F h ⟨k,Y0,rfl,rfl,rfl⟩
 refine Zh (aq (Xi ((k:Int)<(ds.length:Int)) (fun Z5=>?_) (fun Z5=>?_)))
 ·refine ak (aq (ab 1 (ar ?_)))
  obtain ⟨x1,Z2⟩:=Zv ds k om
  refine Zi (Zr none (k:Int) 3 (Vm Z2)) (Z1 1 (iA [.i 0,.i 0,nl] fun b1=>Y4 0 b1 (Uh x1) (ie (az (Y6 3 [0] (iw (Vl x1.cons) (ia (((Yk (ds.take k)+x1.cons.length:Nat):Int)) ((((Yk (ds.take k):Nat):Int))+((x1.cons.length:Int))) (hb:=(by have h1:=hd.cons_at Z2;have h2:=(hd.take k).sum;omega)) (Z0 (az (ZK k (Z0 ?_)))))))))))
  have hdr:=ZH Z2
  exact ZJ ⟨k+1,ob,rfl,rfl,rfl⟩ (wk [] (fc (x:=.i ((Yk (ds.take k)+x1.cons.length:Nat):Int)) (li (by rw [WU Z2,CF];simp [Yk])) (ZL k fl)))
 exact ax 0 (ar (Z8 (Zp (.i ((Yk (ds.take k):Nat):Int)) (li (by rw [W6 om])))))
theorem Of (ds:List Zg) (c:Int) (hd:Wk ds:=by exact ob) (hc:-9223372036854775808<=c/\c<=9223372036854775807:=by exact ob):Za 192 [ZI ds,.i c] [] (ZQ (.tup [.i (XN ds c),.agg [Ze (Y1 ds c)]])):=by
 have hdl:=hd.len
 refine Zx 38 Tryz.func192 (ZM 1 (iA [nl] fun b1=>?_))
 refine ie (Yb 1 (iw (VB ds) (Z0 (ab 0 (ZU (fun fz gz m F h=>∃(k:Nat) (cv:Int),(k<=ds.length)/\(A3 c (Yk (ds.take k)) cv)/\(US c (ds.drop k) k (Yk (ds.take k))=US c ds 0 0)/\F=sF [5,8,9] fz [(1,.i cv),(10,.i k)]/\h=gz/\m=ds.length-k) _ _ _ ⟨0,c,ob,(.inl (by simp [Yk])),rfl,rfl,rfl,rfl⟩ (wk [0] (fr (ZW fl))) ?_)))))
 rintro m F h ⟨k,cv,Y0,Z9,Zz,rfl,rfl,rfl⟩
 refine Zh (aq (Xi ((k:Int)<(ds.length:Int)) (fun Z5=>?_) (fun Z5=>?_)))
 ·refine ak (aq (ab 1 (ZM 1 ?_)))
  obtain ⟨x1,Z2⟩:=Zv ds k om
  refine Zi (Zr none (k:Int) 3 (Vm Z2)) (Z1 1 (iA [.i 0,.i 0,nl] fun b2=>Z1 1 (Y4 0 b2 (Uh x1) (ie (Yt (Wa [1,5,6,7,8,9,10] [(23,.b ((decide (cv>=0))&&(decide (cv<(x1.cons.length:Int)))))] (fun gz=>gz) ?_ ?_))))))
  ·refine Z1 3 (ib (b:=(decide (cv>=0))) 17 (fun Zc=>?_) (fun Zc=>?_))
   ·exact Y6 3 [0] (iw (Vl x1.cons) (Z0 (wk [0,0] (Zq (decide (cv<(x1.cons.length:Int))) Zc fl))))
   exact Z0 (wk [0,0] (Zq false Zc fl))
  refine ac ((decide (cv>=0))&&(decide (cv<(x1.cons.length:Int)))) (p:=(cv>=0)/\(cv<(x1.cons.length:Int))) (YD dq dq) (fun Zd=>?_) (fun Zd=>?_)
  ·refine aD 9 (Zo 8 9 [0] (da 1 (((k+1:Nat):Int)) (((k:Int))+(1)) (Ya 4 7 [2,3,4] [0] ?_)))
   obtain ⟨x2,Zt⟩:=Zv x1.cons cv.toNat om
   refine dx 5 (Zr none cv 1 (KF Zt)) (Zo 1 3 [6,7] (ZF 8 (UC 8 1 [] [] b1 (KP x2) (de ?_))))
   have hz:=(hd.take k).sum
   have h3:=hd.cons_at Z2
   have hH:=Zz.symm.trans (Z2p Z2 Z9 om h3 hc.1 Zd Zt)
   exact ZG (r3 [] [.i (k+1:Nat),J1 x2] [0] [(b1,b1)] ⟨rfl,rfl⟩ (Zm.tup (.cons (li (by rw [XN,hH];omega)) (.cons (Zm.agg (.cons (Zm.sl _ (Ys Zk (by rw [Y1,hH]))) .nil)) .nil))))
  refine ak (az (Y6 3 [0] (iw (Vl x1.cons) (iW ((cv)-((x1.cons.length:Int))) (Z0 (az (ZK k (Z0 ?_))))))))
  have hdr:=ZH Z2
  exact ZJ ⟨k+1,(Bn ((cv)-((x1.cons.length:Int)))),ob,(by have hz:=(hd.take k).sum;have h3:=hd.cons_at Z2;rw [WU Z2,CF];simpa [Yk] using Z12 Z9 om h3 hc),(Z2n Z2 Z9 Zd Zz),rfl,rfl,rfl⟩ (wk [1] (fr (ZL k fl)))
 refine ax 0 (ZM 2 (Y4 0 b1 [nl] (ie ?_)))
 have hH:US c ds 0 0=(-1,[]):=by rw [<-Zz,YV om];rfl
 exact ZG (r3 [] [.i (-1),.agg [nl]] [0] [(b1,b1)] ⟨rfl,rfl⟩ (Zm.tup (.cons (li (by rw [XN,hH])) (.cons (Zm.agg (.cons (Zm.sl _ (by rw [Y1,hH];rfl)) .nil)) .nil))))
theorem Z6o (ds:List Zg) (c:Int) (hd:Wk ds:=by exact ob) (hc:-9223372036854775808<=c/\c<=9223372036854775807:=by exact ob):Za 136 [ZI ds,.i c] [] (ZQ (Ze (Y1 ds c))):=by
 exact Zx 15 Tryz.func136 (Zh (ZM 2 (ZC [] (Of ds c) (Z1 3 (iA [nl] fun b1=>Z1 1 (Y4 0 b1 [Ze (Y1 ds c)] (ie (JE [0] (ZG (Te))))))))))
theorem Z6l (ds:List Zg) (t:Int) (hd:Wk ds:=by exact ob):Za 135 [ZI ds,.i t] [] (ZQ (Ze (YB ds t))):=by
 have hdl:=hd.len
 refine Zx 39 Tryz.func135 (Zh (Yt (Wa [0,1] [(15,.b ((decide (t<1))||(decide (t>(ds.length:Int)))))] (fun gz=>gz) ?_ ?_)))
 ·refine Z1 3 (ib (b:=(decide (t<1))) 10 (fun Zc=>?_) (fun Zc=>?_))
  ·exact Z0 (wk [] (Zq true Zc fl))
  exact Z1 2 (iw (VB ds) (Z0 (wk [] (Zq (decide (t>(ds.length:Int))) Zc fl))))
 refine ac ((decide (t<1))||(decide (t>(ds.length:Int)))) (p:=(t<1)∨(t>(ds.length:Int))) (Yj dq dq) (fun Z5=>?_) (fun Z5=>?_)
 ·exact ar (Z8 (Zp (nl) (Zm.sl _ (by rw [YB,Z4 om];rfl))))
 have hti:1<=t/\t<=ds.length:=by omega
 obtain ⟨d,hd1⟩:=Zv ds ((t-1).toNat) om
 have hdc:=hd.cons_at hd1
 have hsm:=(hd.take (t-1).toNat).sum
 refine ak (ZM 2 (ia ((((t-1).toNat:Nat):Int)) ((t)-(1)) (Zi (Dv (es:=X4 ds) (hv:=none) (l:=0) (m:=(((t-1).toNat:Nat):Int)) (sz:=3) (es':=X4 (ds.take ((t-1).toNat))) kr om (by simp<;>omega) (by simp<;>omega) (BK _) (by first|(simp only [Qy,Kx,BL,BJ];done)|(simp only [Qy,Kx,BL,BJ];rfl)|(simp [BL,BJ];done))) (ZC [] (Z6k (ds.take ((t-1).toNat)) (hd:=(hd.take _))) (Z0 (Zh (Yb 2 (ia ((((t-1).toNat:Nat):Int)) ((t)-(1)) (Zi (Zr none (((t-1).toNat:Nat):Int) 3 (Vm hd1)) (Z1 2 (iw (Vl d.cons) (Z0 (ab 0 (TU 1 (ZU (fun fz gz m F h=>∃(k:Nat) (v:Value),(k<=d.cons.length)/\F=sF [5,27] fz [(6,ZY (Vh (Yk (ds.take (t-1).toNat)) k) v),(28,.i k)]/\h=[.tail v 1]/\m=d.cons.length-k) _ _ _ ⟨0,(.slice none 0 0),ob,rfl,rfl,rfl⟩ (wk [0] (fc (x:=nl) (Zm.slh _ rfl) (ZW fl))) ?_)))))))))))))))
 rintro m F h ⟨k,v,Y0,rfl,rfl,rfl⟩
 refine Zh (aq (Xi ((k:Int)<(d.cons.length:Int)) (fun Zd=>?_) (fun Zd=>?_)))
 ·exact ak (aq (ab 1 (Zh (az (Z1 3 (ia ((((Yk (ds.take ((t-1).toNat)))+k:Nat):Int)) ((((Yk (ds.take ((t-1).toNat)):Nat):Int))+((k:Int))) (iL (Zk [(((Yk (ds.take ((t-1).toNat)))+k:Nat):Int)]) 1 1 fun v1=>W2 0 [(35,Ze [(((Yk (ds.take ((t-1).toNat)))+k:Nat):Int)])] (ip 1 (Zk (Vh (Yk (ds.take (t-1).toNat)) k++[(((Yk (ds.take ((t-1).toNat)))+k:Nat):Int)])) (Zk (Vh (Yk (ds.take (t-1).toNat)) k)) (Zk [(((Yk (ds.take ((t-1).toNat)))+k:Nat):Int)]) v none 1 (Wv _) (Wv _) (Q3 _) (by simp;omega) (by simp [Q2,Zk]) fun v2=>Z0 (az (ZK k (Z0 (ZJ ⟨k+1,v2,ob,rfl,rfl,rfl⟩ (wk [0] (fc (x:=ZY (Vh (Yk (ds.take (t-1).toNat)) k++[(((Yk (ds.take ((t-1).toNat)))+k:Nat):Int)]) v2) (Zm.slh _ (Ys Zk (Pw _ _).symm)) (ZL k fl)))))))))))))))
 exact ax 0 (ar (Z8 (Zp (ZY (Vh (Yk (ds.take (t-1).toNat)) k) v) (Zm.sl _ (Ys Zk (by rw [YB,Z6 hti,hd1,show k=d.cons.length by omega];rfl))))))
theorem EL (ds:List Zg) (t:Int) (hd:Wk ds:=by exact ob):Za 242 [ZI ds,.i t] [] (ZQ (.tup [QY (Vs ds t),.b (XO ds t)])):=by
 have hdl:=hd.len
 refine Zx 30 Tryz.func242 (ar (iA [.i 0,.i 0,nl] fun b1=>Z0 (Yt (XC 8 [0,1,4] [(13,.b ((decide (t<1))||(decide (t>(ds.length:Int)))))] (fun gz=>gz) ?_ (fun hj1=>?_)))))
 ·refine Z1 1 (ib (b:=((decide (t<1))||(decide (t>(ds.length:Int))))) 14 (fun Zc=>?_) (fun Zc=>?_))
  ·have Yd:(t<1)∨(t>(ds.length:Int)):=((Yj dq dq)).1 Zc
   refine Z0 (W7 (ZM 1 (Y4 0 b1 [.i 0,.i 0,nl] (Z0 ?_))))
   have hA:XO ds t=false:=(HP om).symm
   have hD:Vs ds t=⟨0,0,[]⟩:=by rw [Vs,hA];rfl
   exact ZG (r3 [] [.agg [.i 0,.i 0,nl],.b false] [0] [(b1,b1)] ⟨rfl,rfl⟩ (Zm.tup (.cons (Zm.agg (.cons (li (by rw [hD])) (.cons (li (by rw [hD])) (.cons (Zm.sl _ (by rw [hD];rfl)) .nil)))) (.cons (lb (by rw [hA])) .nil))))
  have YX:¬((t<1)∨(t>(ds.length:Int))):=Y3 (Yj dq dq) Zc
  refine Z1 2 (ia ((t-1)) ((t)-(1)) ?_)
  obtain ⟨x1,Z2⟩:=Zv ds ((t-1).toNat) om
  refine Zi (Zr none (t-1) 3 (Vm Z2)) (Z1 2 (iw (Vl x1.cons) (ZO ((x1.cons.length:Int)>0) (fun Z5=>?_) (fun Z5=>?_))))
  ·refine ZM 1 (Y4 0 b1 [.i 0,.i 0,nl] (Z0 ?_))
   have hA:XO ds t=false:=(ET om Z2).symm.trans (beq_eq_false_iff_ne.2 om)
   have hD:Vs ds t=⟨0,0,[]⟩:=by rw [Vs,hA];rfl
   exact ZG (r3 [] [.agg [.i 0,.i 0,nl],.b false] [0] [(b1,b1)] ⟨rfl,rfl⟩ (Zm.tup (.cons (Zm.agg (.cons (li (by rw [hD])) (.cons (li (by rw [hD])) (.cons (Zm.sl _ (by rw [hD];rfl)) .nil)))) (.cons (lb (by rw [hA])) .nil))))
  refine ak (ZM 2 (ia ((t-1)) ((t)-(1)) (Zi (Zr none (t-1) 3 (Vm Z2)) (Z1 1 (Y4 0 b1 (Uh x1) (Z0 ?_))))))
  have hA:XO ds t=true:=(ET om Z2).symm.trans (Zs.2 om)
  have hD:Vs ds t=x1:=by rw [Vs,hA,Z2];rfl
  exact ZG (r3 [] [QY x1,.b true] [0] [(b1,b1)] ⟨rfl,rfl⟩ (Zm.tup (.cons (Zm.agg (.cons (li (by rw [hD])) (.cons (li (by rw [hD])) (.cons (Zm.sl _ (Ys Wd (by rw [hD]))) .nil)))) (.cons (lb (by rw [hA])) .nil))))
 refine Z1 3 (ib (b:=(decide (t<1))) 8 (fun ZD=>?_) (fun ZD=>?_))
 ·have XB:t<1:=(dq).1 ZD
  exact Z1 5 (Ye (wk [0] (Zq true ZD fl)) hj1)
 have XH:¬(t<1):=Y3 dq ZD
 exact Z1 2 (iw (VB ds) (Z1 2 (Ye (wk [0] (Zq (decide (t>(ds.length:Int))) ZD fl)) hj1)))
theorem Z6b (ds:List Zg) (frm:Int) (to_:Int) (hl_ds:ds.length<=4294967296:=by exact ob):Za 288 [ZI ds,.i frm,.i to_] [] (ZQ (.i (Tf ds frm to_))):=by
 refine Zx 35 Tryz.func288 (Zh (Yb 1 (iw (VB ds) (Z0 (ab 0 (ZU (fun fz gz m F h=>∃(k:Nat),(k<=ds.length)/\(QH frm to_ (ds.drop k) k=Tf ds frm to_)/\F=sF [1,2,9,10] fz [(11,.i k)]/\h=gz/\m=ds.length-k) _ _ _ ⟨0,ob,rfl,rfl,rfl,rfl⟩ (wk [] (ZW fl)) ?_))))))
 rintro m F h ⟨k,Y0,Z9,rfl,rfl,rfl⟩
 refine Zh (aq (Xi ((k:Int)<(ds.length:Int)) (fun Z5=>?_) (fun Z5=>?_)))
 ·refine ak (aq (ab 1 (ZM 1 ?_)))
  obtain ⟨x1,Z2⟩:=Zv ds k om
  refine Zi (Zr none (k:Int) 3 (Vm Z2)) (Z1 1 (iA [.i 0,.i 0,nl] fun b1=>Z1 1 (Y4 0 b1 (Uh x1) (ie (ZB 2 [0] (iw (Vl x1.cons) (XC 10 [1,2,7,8,9,10,11] [(25,.b (((x1.cons.length:Int)==0)&&(x1.frm==frm)))] (fun gz=>gz) ?_ (fun hj1=>?_))))))))
  ·refine Wa [1,2,7,9,10,11] [(31,.b ((((x1.cons.length:Int)==0)&&(x1.frm==frm))&&(x1.to_==to_)))] (fun gz=>gz) ?_ ?_
   ·refine Z1 1 (ib (b:=(((x1.cons.length:Int)==0)&&(x1.frm==frm))) 26 (fun Zc=>?_) (fun Zc=>?_))
    ·exact Vv [0] (wk [0] (Zq (x1.to_==to_) Zc fl))
    exact Z0 (wk [0] (Zq false Zc fl))
   refine ac ((((x1.cons.length:Int)==0)&&(x1.frm==frm))&&(x1.to_==to_)) (p:=(((x1.cons.length:Int)=0)/\(x1.frm=frm))/\(x1.to_=to_)) (YD (YD Zs Zs) Zs) (fun Zd=>?_) (fun Zd=>?_)
   ·refine ZM 1 (ZK k (Z0 ?_))
    rw [ZH Z2] at Z9
    exact ZG (Zp (.i (k+1:Nat)) (li (by clear Z2;first|rfl|omega|grind [QH])))
   refine ak (az (ZK k (Z0 ?_)))
   have hdr:=ZH Z2
   exact ZJ ⟨k+1,ob,(by rw [hdr] at Z9;clear hdr Z2;grind [QH]),rfl,rfl,rfl⟩ (wk [] (ZL k fl))
  refine Z1 2 (ib (b:=((x1.cons.length:Int)==0)) 20 (fun ZD=>?_) (fun ZD=>?_))
  ·exact Y6 5 [0] (Ye (wk [0] (Zq (x1.frm==frm) ZD fl)) hj1)
  exact Z1 5 (Ye (wk [0] (Zq false ZD fl)) hj1)
 refine ax 0 (Zh ?_)
 try rw [YV (xs:=ds) (k:=k) om] at Z9
 exact ZG (Zp (.i (-1)) (li (by first|rfl|omega|grind [QH])))
theorem Z69 (ds:List Zg) (hz:Jm ds:=by exact ob):Za 130 [ZI ds] [] (ZQ (.b (WB ds))):=by
 have hzl:=hz.len
 refine Zx 106 Tryz.func130 (Zh (Yb 1 (iw (VB ds) (ZO ((ds.length:Int)>4) (fun Z5=>?_) (fun Z5=>?_)))))
 ·exact ar (Z8 (Zp (.b false) (lb (by rw [WB,decide_eq_false om];rfl))))
 refine ak (Yb 1 (iw (VB ds) (Z0 (ab 0 (ZU (fun fz gz m F h=>∃(k:Nat),(k<=ds.length)/\(UU ds (ds.drop k) k=UU ds ds 0)/\F=sF [0,12,13] fz [(14,.i k)]/\h=gz/\m=ds.length-k) _ _ _ ⟨0,ob,rfl,rfl,rfl,rfl⟩ (wk [] (ZW fl)) ?_)))))
 rintro m F h ⟨k,Y0,Z9,rfl,rfl,rfl⟩
 refine Zh (aq (Xi ((k:Int)<(ds.length:Int)) (fun Zd=>?_) (fun Zd=>?_)))
 ·refine ak (aq (ab 1 (ZM 1 ?_)))
  obtain ⟨x1,Z2⟩:=Zv ds k om
  have hz1:=hz.cons_at Z2
  refine Zi (Zr none (k:Int) 3 (Vm Z2)) (Z1 1 (iA [.i 0,.i 0,nl] fun b1=>Z1 1 (Y4 0 b1 (Uh x1) (ie (Yp 3 [0] (ZC [] (EN ds x1.frm) (XC 12 [0,3,4,12,13,14] [(30,.b ((!(decide (0<=x1.frm/\x1.frm<=ds.length)))||(!(decide (0<=x1.to_/\x1.to_<=ds.length)))))] (fun gz=>gz) ?_ (fun hj1=>?_))))))))
  ·refine XC 18 [0,3,4,12,13,14] [(36,.b (((!(decide (0<=x1.frm/\x1.frm<=ds.length)))||(!(decide (0<=x1.to_/\x1.to_<=ds.length))))||(decide ((x1.cons.length:Int)>3))))] (fun gz=>gz) ?_ (fun hj2=>?_)
   ·refine Wa [0,3,4,12,13,14] [(52,.b ((((!(decide (0<=x1.frm/\x1.frm<=ds.length)))||(!(decide (0<=x1.to_/\x1.to_<=ds.length))))||(decide ((x1.cons.length:Int)>3)))||((decide ((x1.cons.length:Int)>0))&&((x1.frm != 0)||(x1.to_ != 0)))))] (fun gz=>gz) ?_ ?_
    ·refine Z1 1 (ib (b:=(((!(decide (0<=x1.frm/\x1.frm<=ds.length)))||(!(decide (0<=x1.to_/\x1.to_<=ds.length))))||(decide ((x1.cons.length:Int)>3)))) 37 (fun Zc=>?_) (fun Zc=>?_))
     ·have Yd:((¬(0<=x1.frm/\x1.frm<=ds.length))∨(¬(0<=x1.to_/\x1.to_<=ds.length)))∨((x1.cons.length:Int)>3):=((Yj (Yj (Yl dq) (Yl dq)) dq)).1 Zc
      exact Z0 (wk [0] (Zq true Zc fl))
     have YX:¬(((¬(0<=x1.frm/\x1.frm<=ds.length))∨(¬(0<=x1.to_/\x1.to_<=ds.length)))∨((x1.cons.length:Int)>3)):=Y3 (Yj (Yj (Yl dq) (Yl dq)) dq) Zc
     refine Y6 2 [0] (iw (Vl x1.cons) (Z1 2 (ib (b:=(decide ((x1.cons.length:Int)>0))) 42 (fun ZD=>?_) (fun ZD=>?_))))
     ·have XB:(x1.cons.length:Int)>0:=(dq).1 ZD
      refine Y6 4 [0] (ib (b:=(x1.frm != 0)) 46 (fun Yq=>?_) (fun Yq=>?_))
      ·have XH:x1.frm≠0:=(ZP).1 Yq
       exact Z0 (wk [0] (Zq true (And.intro Zc (And.intro ZD Yq)) fl))
      have VT:¬(x1.frm≠0):=Y3 ZP Yq
      exact Vv [0] (wk [0] (Zq (x1.to_ != 0) (And.intro Zc (And.intro ZD Yq)) fl))
     have Uu:¬((x1.cons.length:Int)>0):=Y3 dq ZD
     exact Z0 (wk [0] (Zq false (And.intro Zc ZD) fl))
    refine ac ((((!(decide (0<=x1.frm/\x1.frm<=ds.length)))||(!(decide (0<=x1.to_/\x1.to_<=ds.length))))||(decide ((x1.cons.length:Int)>3)))||((decide ((x1.cons.length:Int)>0))&&((x1.frm != 0)||(x1.to_ != 0)))) (p:=(((¬(0<=x1.frm/\x1.frm<=ds.length))∨(¬(0<=x1.to_/\x1.to_<=ds.length)))∨((x1.cons.length:Int)>3))∨(((x1.cons.length:Int)>0)/\((x1.frm≠0)∨(x1.to_≠0)))) (Yj (Yj (Yj (Yl dq) (Yl dq)) dq) (YD dq (Yj ZP ZP))) (fun Zw=>?_) (fun Zw=>?_)
    ·exact ar (Z8 (Zp (.b false) (lb (Lx Z2 (Z3e Zw) Z9))))
    refine ak (Yp 2 [0] (iw (Vl x1.cons) (Z0 (ab 2 (ZU (fun fz gz m F h=>∃(q:Nat),(q<=x1.cons.length)/\(Th ds.length (x1.cons.drop q)=Th ds.length x1.cons)/\F=sF [0,3,4,12,13,14,54,55] fz [(56,.i q)]/\h=gz/\m=x1.cons.length-q) _ _ _ ⟨0,ob,rfl,rfl,rfl,rfl⟩ (wk [0] (ZW fl)) ?_)))))
    rintro m F h ⟨q,T6,Xk,rfl,rfl,rfl⟩
    refine Zh (aq (Xi ((q:Int)<(x1.cons.length:Int)) (fun Yg=>?_) (fun Yg=>?_)))
    ·refine ak (aq (ab 3 (ar ?_)))
     obtain ⟨x2,Zt⟩:=Zv x1.cons q om
     refine Zi (Zr none (q:Int) 1 (KF Zt)) (Z1 1 (iA [nl] fun b2=>Y4 0 b2 (KP x2) (ie (ZB 2 [0] (iw (Yn x2.fields) (Wa [0,3,4,12,13,14,54,55,56] [(70,.b ((decide ((x2.fields.length:Int)>3))||(!XT ds.length x2.fields)))] (fun gz=>gz) ?_ ?_))))))
     ·refine Z1 2 (ib (b:=(decide ((x2.fields.length:Int)>3))) 64 (fun Xg=>?_) (fun Xg=>?_))
      ·have T1:(x2.fields.length:Int)>3:=(dq).1 Xg
       exact Z0 (wk [0,0] (Zq true Xg fl))
      have Tj:¬((x2.fields.length:Int)>3):=Y3 dq Xg
      exact Y6 3 [0] (ZC [] (Od ds x2.fields) (Z0 (wk [0,0] (Zq (!XT ds.length x2.fields) Xg fl))))
     refine ac ((decide ((x2.fields.length:Int)>3))||(!XT ds.length x2.fields)) (p:=((x2.fields.length:Int)>3)∨(¬(XT ds.length x2.fields=true))) (Yj dq (Yl Iff.rfl)) (fun Xp=>?_) (fun Xp=>?_)
     ·exact ar (Z8 (Zp (.b false) (lb (Lx Z2 (Z3f om (by rw [<-Xk,ZH Zt,Th,Z4 (by rw [Z2q Xp];simp)])) Z9))))
     refine ak (az (ZK q (Z0 ?_)))
     have hdr:=ZH Zt
     exact ZJ ⟨q+1,ob,(by rw [ZH Zt,Th,Z6 (Z2r Xp)] at Xk;exact Xk),rfl,rfl,rfl⟩ (wk [1] (ZL q fl))
    have hC:Th ds.length x1.cons=true:=by rw [<-Xk,YV om];rfl
    refine ax 2 (ZM 2 (Zi (Dv (es:=X4 ds) (hv:=none) (l:=0) (m:=(k:Int)) (sz:=3) (es':=X4 (ds.take k)) kr om (by simp<;>omega) (by simp<;>omega) (BK _) (by first|(simp only [Qy,Kx,BL,BJ];done)|(simp only [Qy,Kx,BL,BJ];rfl)|(simp [BL,BJ];done))) (io (.i (((ds.take k).length:Nat):Int)) (.i (((X4 (ds.take k)).length:Nat):Int)) (li (by rw [VB])) (Z0 (ab 4 (ZU (fun fz gz m F h=>∃(j:Nat),(j<=k)/\(x1.cons.length=0->Ql x1 ((ds.take k).drop j)=Ql x1 (ds.take k))/\F=sF [0,4,12,13,14,74,75] fz [(76,.i j)]/\h=gz/\m=k-j) _ _ _ ⟨0,ob,ob,rfl,rfl,rfl⟩ (wk [0] (ZW fl)) ?_))))))
    rintro m F h ⟨j,MH,KC,rfl,rfl,rfl⟩
    refine Zh (aq (Xi ((j:Int)<(((ds.take k).length:Nat):Int)) (fun Wf=>?_) (fun Wf=>?_)))
    ·have htl:(ds.take k).length<=k:=by rw [Kv];omega
     refine ak (aq (ab 5 (ar ?_)))
     obtain ⟨x3,X0⟩:=Zv (ds.take k) j om
     refine Zi (Zr none (j:Int) 3 (Vm X0)) (Z1 1 (iA [.i 0,.i 0,nl] fun b3=>Y4 0 b3 (Uh x3) (ie (ZB 2 [1] (iw (Vl x1.cons) (XC 10 [0,4,8,12,13,14,74,75,76] [(89,.b (((x1.cons.length:Int)==0)&&((x3.cons.length:Int)==0)))] (fun gz=>gz) ?_ (fun hj3=>?_)))))))
     ·refine XC 17 [0,4,8,12,13,14,74,75,76] [(96,.b ((((x1.cons.length:Int)==0)&&((x3.cons.length:Int)==0))&&(x3.frm==x1.frm)))] (fun gz=>gz) ?_ (fun hj4=>?_)
      ·refine Wa [0,4,12,13,14,74,75,76] [(103,.b (((((x1.cons.length:Int)==0)&&((x3.cons.length:Int)==0))&&(x3.frm==x1.frm))&&(x3.to_==x1.to_)))] (fun gz=>gz) ?_ ?_
       ·refine Z1 1 (ib (b:=((((x1.cons.length:Int)==0)&&((x3.cons.length:Int)==0))&&(x3.frm==x1.frm))) 97 (fun WG=>?_) (fun WG=>?_))
        ·have Qp:(((x1.cons.length:Int)=0)/\((x3.cons.length:Int)=0))/\(x3.frm=x1.frm):=((YD (YD Zs Zs) Zs)).1 WG
         exact Vv [0,1] (wk [0,0] (Zq (x3.to_==x1.to_) WG fl))
        have Ke:¬((((x1.cons.length:Int)=0)/\((x3.cons.length:Int)=0))/\(x3.frm=x1.frm)):=Y3 (YD (YD Zs Zs) Zs) WG
        exact Z0 (wk [0,0] (Zq false WG fl))
       refine ac (((((x1.cons.length:Int)==0)&&((x3.cons.length:Int)==0))&&(x3.frm==x1.frm))&&(x3.to_==x1.to_)) (p:=((((x1.cons.length:Int)=0)/\((x3.cons.length:Int)=0))/\(x3.frm=x1.frm))/\(x3.to_=x1.to_)) (YD (YD (YD Zs Zs) Zs) Zs) (fun T0=>?_) (fun T0=>?_)
       ·exact ar (Z8 (Zp (.b false) (lb (Lx Z2 (Z3g om (by rw [<-KC om,ZH X0,Ql,Z6 om])) Z9))))
       exact ak (az (ZK j (Z0 (ZJ ⟨j+1,ob,(fun q=>by have hq:=KC q;rw [ZH X0,Ql,Z4 om] at hq;exact hq),rfl,rfl,rfl⟩ (wk [1] (ZL j fl))))))
      refine Z1 1 (ib (b:=(((x1.cons.length:Int)==0)&&((x3.cons.length:Int)==0))) 90 (fun Ve=>?_) (fun Ve=>?_))
      ·have JH:((x1.cons.length:Int)=0)/\((x3.cons.length:Int)=0):=((YD Zs Zs)).1 Ve
       exact Y6 6 [0,1] (Ye (wk [0,0] (Zq (x3.frm==x1.frm) Ve fl)) hj4)
      have Am:¬(((x1.cons.length:Int)=0)/\((x3.cons.length:Int)=0)):=Y3 (YD Zs Zs) Ve
      exact Z1 6 (Ye (wk [0,0] (Zq false Ve fl)) hj4)
     refine Z1 2 (ib (b:=((x1.cons.length:Int)==0)) 84 (fun VC=>?_) (fun VC=>?_))
     ·have EH:(x1.cons.length:Int)=0:=(Zs).1 VC
      exact Y6 2 [0] (iw (Vl x3.cons) (Z1 2 (Ye (wk [0,0] (Zq ((x3.cons.length:Int)==0) VC fl)) hj3)))
     have EI:¬((x1.cons.length:Int)=0):=Y3 Zs VC
     exact Z1 5 (Ye (wk [0,0] (Zq false VC fl)) hj3)
    have htl:(ds.take k).length=k:=by rw [Kv];omega
    have hD:x1.cons.length=0->Ql x1 (ds.take k)=false:=fun q=>by rw [<-KC q,YV om];rfl
    refine ax 4 (az (ZK k (Z0 ?_)))
    have hdr:=ZH Z2
    exact ZJ ⟨k+1,ob,(Zf8 Z2 (Z3h Zw hC hD) Z9),rfl,rfl,rfl⟩ (wk [] (ZL k fl))
   refine Z1 1 (ib (b:=((!(decide (0<=x1.frm/\x1.frm<=ds.length)))||(!(decide (0<=x1.to_/\x1.to_<=ds.length))))) 31 (fun Vn=>?_) (fun Vn=>?_))
   ·have BT:(¬(0<=x1.frm/\x1.frm<=ds.length))∨(¬(0<=x1.to_/\x1.to_<=ds.length)):=((Yj (Yl dq) (Yl dq))).1 Vn
    exact Z1 5 (Ye (wk [0] (Zq true Vn fl)) hj2)
   have BU:¬((¬(0<=x1.frm/\x1.frm<=ds.length))∨(¬(0<=x1.to_/\x1.to_<=ds.length))):=Y3 (Yj (Yl dq) (Yl dq)) Vn
   exact Y6 2 [0] (iw (Vl x1.cons) (Z1 2 (Ye (wk [0] (Zq (decide ((x1.cons.length:Int)>3)) Vn fl)) hj2)))
  refine Z1 2 (ib (b:=(!(decide (0<=x1.frm/\x1.frm<=ds.length)))) 24 (fun Vo=>?_) (fun Vo=>?_))
  ·have EJ:¬(0<=x1.frm/\x1.frm<=ds.length):=((Yl dq)).1 Vo
   exact Z1 6 (Ye (wk [0] (Zq true Vo fl)) hj1)
  have EK:¬(¬(0<=x1.frm/\x1.frm<=ds.length)):=Y3 (Yl dq) Vo
  exact Y6 3 [0] (ZC [] (EN ds x1.to_) (Z1 2 (Ye (wk [0] (Zq (!(decide (0<=x1.to_/\x1.to_<=ds.length))) Vo fl)) hj1)))
 exact ax 0 (ar (Z8 (Zp (.b true) (lb (Zf7 om om Z9)))))
theorem EM (op:Int) :Za 95 [.i op] [] (ZQ (.b (YT op))):=by
 refine Zx 9 Tryz.func95 (Zh (ar (XC 6 [] [(8,.b ((decide (op>=14))&&(decide (op<=17))))] (fun gz=>gz) ?_ (fun hj1=>?_))))
 ·exact Z8 (Zp (.b ((decide (op>=14))&&(decide (op<=17)))) (lb (by rw [YT,Wp];simp)))
 refine Z1 3 (ib (b:=(decide (op>=14))) 5 (fun Zc=>?_) (fun Zc=>?_))
 ·exact Z1 3 (Ye (wk [] (Zq (decide (op<=17)) Zc fl)) hj1)
 exact Z1 3 (Ye (wk [] (Zq false Zc fl)) hj1)
theorem Oj (op:Int) :Za 250 [.i op] [] (ZQ (.b (Qk op))):=by
 refine Zx 17 Tryz.func250 (Zh (ar (XC 6 [0] [(8,.b ((op==6)||(op==9)))] (fun gz=>gz) ?_ (fun hj1=>?_))))
 ·refine XC 10 [0] [(12,.b (((op==6)||(op==9))||(op==10)))] (fun gz=>gz) ?_ (fun hj2=>?_)
  ·refine XC 14 [] [(16,.b ((((op==6)||(op==9))||(op==10))||(op==11)))] (fun gz=>gz) ?_ (fun hj3=>?_)
   ·exact Z8 (Zp (.b ((((op==6)||(op==9))||(op==10))||(op==11))) (lb (by first|rfl|omega|grind [Qk])))
   refine Z1 1 (ib (b:=(((op==6)||(op==9))||(op==10))) 13 (fun Zc=>?_) (fun Zc=>?_))
   ·have Yd:((op=6)∨(op=9))∨(op=10):=((Yj (Yj Zs Zs) Zs)).1 Zc
    exact Z1 3 (Ye (wk [] (Zq true Zc fl)) hj3)
   have YX:¬(((op=6)∨(op=9))∨(op=10)):=Y3 (Yj (Yj Zs Zs) Zs) Zc
   exact Z1 3 (Ye (wk [] (Zq (op==11) Zc fl)) hj3)
  refine Z1 1 (ib (b:=((op==6)||(op==9))) 9 (fun ZD=>?_) (fun ZD=>?_))
  ·have XB:(op=6)∨(op=9):=((Yj Zs Zs)).1 ZD
   exact Z1 3 (Ye (wk [] (Zq true ZD fl)) hj2)
  have XH:¬((op=6)∨(op=9)):=Y3 (Yj Zs Zs) ZD
  exact Z1 3 (Ye (wk [] (Zq (op==10) ZD fl)) hj2)
 refine Z1 3 (ib (b:=(op==6)) 5 (fun Yq=>?_) (fun Yq=>?_))
 ·have VT:op=6:=(Zs).1 Yq
  exact Z1 3 (Ye (wk [] (Zq true Yq fl)) hj1)
 have Uu:¬(op=6):=Y3 Zs Yq
 exact Z1 3 (Ye (wk [] (Zq (op==9) Yq fl)) hj1)
theorem Z6n (b:Zf) (c:Nat) (v:Int) (hb:b.sz<=1000000000:=by exact ob) (hv:0<=v/\v<=600:=by exact ob) (ih:∀(b2:Zf) (c:Nat) (v:Int),(b2.sz<b.sz)->(0<=v/\v<=600)->Za 207 [YG b2,.p c 0] [.obj c [.i v]] (fun r h=>(r=.b true/\h=[.obj c [.i (600-XW b2 (600-v))]]/\0<=XW b2 (600-v))∨(r=.b false/\h=[]/\XW b2 (600-v)<0))):Za 207 [YG b,.p c 0] [.obj c [.i v]] (fun r h=>(r=.b true/\h=[.obj c [.i (600-XW b (600-v))]]/\0<=XW b (600-v))∨(r=.b false/\h=[]/\XW b (600-v)<0)):=by
 have hbz:=JW b
 have hbe:=OV b (600-v)
 refine Zx 38 Tryz.func207 (ar (iA (VE b) fun b1=>?_))
 refine Z0 (Yp 2 [0] (iw (T8 b.steps) (Z0 (ab 0 (ZU (fun fz gz m F h=>∃(k:Nat) (q:Int),(k<=b.steps.length)/\(0<=q/\q<=600)/\(V9 (b.steps.drop k) (600-q)=V9 b.steps (600-v))/\F=sF [1,10,11] fz [(12,.i k)]/\h=[.obj c [.i q]]/\m=b.steps.length-k) _ _ _ ⟨0,v,ob,ob,rfl,rfl,rfl,rfl⟩ (wk [1] (ZW fl)) ?_)))))
 rintro m F h ⟨k,q,Y0,Z9,Zz,rfl,rfl,rfl⟩
 refine Zh (aq (Xi ((k:Int)<(b.steps.length:Int)) (fun Z5=>?_) (fun Z5=>?_)))
 ·refine ak (aq (ab 1 (ar ?_)))
  obtain ⟨x1,Z2⟩:=Zv b.steps k om
  have hss:=Dw Z2
  have hkz:=Qq x1
  refine Zi (Zr none (k:Int) 5 (U7 Z2)) (Z1 1 (iA [.i 0,.i 0,.i 0,nl,nl] fun b2=>Y4 0 b2 (WT x1) (ie (Yp 3 [1] (ia ((q+1)) ((q)+(1)) (Z1 1 (Y4 1 c [.i (q+1)] (ie (JE [0] (Xi ((q+1)>600) (fun Zd=>?_) (fun Zd=>?_)))))))))))
  ·exact ar (Z8 (r1 [] (.inr ⟨rfl,rfl,(by rw [hbe,<-Zz,ZH Z2,V9,Z6 om];omega)⟩)))
  refine ak (ZB 2 [1] (iw (Uf x1.kids) (Z0 (ab 2 (ZU (fun fz gz m F h=>∃(j:Nat) (j2:Int),(j<=x1.kids.length)/\(0<=j2/\j2<=600)/\(VO (x1.kids.drop j) (600-j2)=VO x1.kids (600-(q+1)))/\F=sF [1,10,11,12,26,27] fz [(28,.i j)]/\h=[.obj c [.i j2]]/\m=x1.kids.length-j) _ _ _ ⟨0,(q+1),ob,ob,rfl,rfl,rfl,rfl⟩ (wk [0] (ZW fl)) ?_)))))
  rintro m F h ⟨j,j2,T6,Xk,Uc,rfl,rfl,rfl⟩
  refine Zh (aq (Xi ((j:Int)<(x1.kids.length:Int)) (fun Zw=>?_) (fun Zw=>?_)))
  ·refine ak (aq (ab 3 (ar ?_)))
   obtain ⟨x2,Zt⟩:=Zv x1.kids j om
   have hks:=Kg Zt
   have hle:=D7.2 x2 (600-j2) om
   refine Zi (Zr none (j:Int) 2 (TF Zt)) (Z1 1 (iA [nl,.i 0] fun b3=>Y4 0 b3 (VE x2) (ie (ZB 2 [0] (ic [1] (ih x2 c j2 ob ob) ?_)))))
   rintro _ _ (⟨rfl,rfl,Yd⟩|⟨rfl,rfl,YX⟩)
   ·refine Z0 (XF (ak (az (ZK j (Z0 ?_)))))
    have hdr:=ZH Zt
    exact ZJ ⟨j+1,(600-XW x2 (600-j2)),ob,ob,(by rw [ZH Zt,VO,Z4 om] at Uc;rw [show 600-(600-XW x2 (600-j2))=XW x2 (600-j2) by omega];exact Uc),rfl,rfl,rfl⟩ (wk [0] (ZL j fl))
   exact Z0 (W7 (ar (Z8 (r1 [] (.inr ⟨rfl,rfl,(by rw [hbe,<-Zz,ZH Z2,V9,Z4 om,Z6 (by rw [F3,show (600-q-1:Int)=600-(q+1) by omega,<-Uc,ZH Zt,VO,Z6 YX];omega)];omega)⟩)))))
  have hE:VO x1.kids (600-(q+1))=600-j2:=by rw [<-Uc,YV om,VO]
  refine ax 2 (az (ZK k (Z0 ?_)))
  have hdr:=ZH Z2
  exact ZJ ⟨k+1,j2,ob,ob,(by rw [ZH Z2,V9,Z4 om,F3,show (600-q-1:Int)=600-(q+1) by omega,hE,Z4 om] at Zz;exact Zz),rfl,rfl,rfl⟩ (wk [0] (ZL k fl))
 refine ax 0 (Zh ?_)
 have hF:XW b (600-v)=600-q:=by rw [hbe,<-Zz,YV om,V9]
 exact ZG (r1 [0] (.inl ⟨rfl,rfl,om⟩) (eq:=(ro (ls:=[.i q]) (by rw [hF,show (600-(600-q):Int)=q by omega]) rz)))
theorem Z6m:∀(b:Zf) (c:Nat) (v:Int),(b.sz<=1000000000)->(0<=v/\v<=600)->Za 207 [YG b,.p c 0] [.obj c [.i v]] (fun r h=>(r=.b true/\h=[.obj c [.i (600-XW b (600-v))]]/\0<=XW b (600-v))∨(r=.b false/\h=[]/\XW b (600-v)<0)):=by
 have key:∀m:Nat,∀(b:Zf) (c:Nat) (v:Int),(b.sz<=m)->(b.sz<=1000000000)->(0<=v/\v<=600)->Za 207 [YG b,.p c 0] [.obj c [.i v]] (fun r h=>(r=.b true/\h=[.obj c [.i (600-XW b (600-v))]]/\0<=XW b (600-v))∨(r=.b false/\h=[]/\XW b (600-v)<0)):=by
  intro m
  induction m with
  | zero=>intro b c v h;have:=b.sz_pos;omega
  | succ m ih=>intro b c v h1 h2 h3;exact Z6n b c v h2 h3 fun b2 c2 v2 k1 k2=>ih b2 c2 v2 om om k2
 intro b c v h2 h3
 exact key b.sz b c v (X1 _) h2 h3
theorem Z68 (b:Zf) (hb:b.sz<=1000000000:=by exact ob):Za 153 [YG b] [] (ZQ (.i (UM b))):=by
 refine Zx 8 Tryz.func153 (ar (iA (VE b) fun b1=>Z0 (ar (iA [.i 0] fun b2=>Y4 0 b2 [.i 0] (ie (Yp 1 [1] (ic [0] (Z6m b b2 0 ob ob) ?_)))))))
 rintro _ _ (⟨rfl,rfl,Yd⟩|⟨rfl,rfl,YX⟩)
 ·have h0:=Yd
  rw [show (600-0:Int)=600 from rfl] at h0
  exact Z0 (XF (ak (JE [0] (ZG (Zp (.i (600-XW b (600-0))) (li (by rw [show (600-0:Int)=600 from rfl,UM,Z4 om])))))))
 have h0:=YX
 rw [show (600-0:Int)=600 from rfl] at h0
 exact Z0 (W7 (ar (Z8 (Zp (.i (-1)) (li (by rw [UM,Z6 h0]))))))
theorem Z6w (ds:List Zg) (fs:List WO) (hz:Jm ds:=by exact ob) (hf:∀f∈fs,f.pms.length<=1100000000/\f.lnt.length<=1100000000) (hfl:fs.length<=4194304:=by exact ob):Za 73 [ZI ds,C4 fs] [] (ZQ (.b (Kr ds fs))):=by
 have hzl:=hz.len
 refine Zx 102 Tryz.func73 (Zh (Yb 1 (ZC [] (Z69 ds) (XC 8 [0,1] [(16,.b ((!WB ds)||(decide ((fs.length:Int)<1))))] (fun gz=>gz) ?_ (fun hj1=>?_)))))
 ·refine XC 13 [0,1] [(21,.b (((!WB ds)||(decide ((fs.length:Int)<1)))||(decide ((fs.length:Int)>4))))] (fun gz=>gz) ?_ (fun hj2=>?_)
  ·refine Z1 1 (ib (b:=(((!WB ds)||(decide ((fs.length:Int)<1)))||(decide ((fs.length:Int)>4)))) 22 (fun Zc=>?_) (fun Zc=>?_))
   ·have Yd:((¬(WB ds=true))∨((fs.length:Int)<1))∨((fs.length:Int)>4):=((Yj (Yj (Yl Iff.rfl) dq) dq)).1 Zc
    exact Z0 (W7 (ar (Z8 (Zp (.b false) (lb (Zfe (by assumption)))))))
   have YX:¬(((¬(WB ds=true))∨((fs.length:Int)<1))∨((fs.length:Int)>4)):=Y3 (Yj (Yj (Yl Iff.rfl) dq) dq) Zc
   refine Z1 1 ?_
   obtain ⟨x1,Z2⟩:=Zv fs 0 om
   refine Zi (Zr none 0 3 (B2 Z2)) (Z1 2 (iw (Yn x1.pms) (Z1 3 (ib (b:=(decide ((x1.pms.length:Int)>0))) 30 (fun ZD=>?_) (fun ZD=>?_)))))
   ·have XB:(x1.pms.length:Int)>0:=(dq).1 ZD
    exact Z0 (W7 (ar (Z8 (Zp (.b false) (lb (SB Z2 (.inl (by assumption))))))))
   have XH:¬((x1.pms.length:Int)>0):=Y3 dq ZD
   refine Z1 1 (Zi (Zr none 0 3 (B2 Z2)) (Yw (x1.res != 0) ZP (fun Z5=>?_) (fun Z5=>?_)))
   ·exact ar (Z8 (Zp (.b false) (lb (SB Z2 (.inr Z5)))))
   refine ak (Yb 1 (iw (CM fs) (Z0 (ab 0 (ZU (fun fz gz m F h=>∃(k:Nat),(k<=fs.length)/\(QR ds.length (fs.drop k)=QR ds.length fs)/\F=sF [0,37,38] fz [(39,.i k)]/\h=gz/\m=fs.length-k) _ _ _ ⟨0,ob,ob,rfl,rfl,rfl⟩ (wk [] (ZW fl)) ?_)))))
   rintro m F h ⟨k,Y0,Z9,rfl,rfl,rfl⟩
   refine Zh (aq (Xi ((k:Int)<(fs.length:Int)) (fun Zd=>?_) (fun Zd=>?_)))
   ·refine ak (aq (ab 1 (ar ?_)))
    obtain ⟨x2,Zt⟩:=Zv fs k om
    have hf2:=hf _ (YF Zt)
    refine Zi (Zr none (k:Int) 3 (B2 Zt)) (Z1 1 (iA [nl,nl,.i 0] fun b1=>Y4 0 b1 (OQ x2) (ie (Yp 2 [0] (iw (Yn x2.pms) (XC 11 [0,6,37,38,39] [(53,.b ((decide ((x2.pms.length:Int)>3))||(!XT ds.length x2.pms)))] (fun gz=>gz) ?_ (fun hj3=>?_)))))))
    ·refine Wa [0,6,37,38,39] [(60,.b (((decide ((x2.pms.length:Int)>3))||(!XT ds.length x2.pms))||(!(decide (0<=x2.res/\x2.res<=ds.length)))))] (fun gz=>gz) ?_ ?_
     ·refine Z1 1 (ib (b:=((decide ((x2.pms.length:Int)>3))||(!XT ds.length x2.pms))) 54 (fun Yq=>?_) (fun Yq=>?_))
      ·have VT:((x2.pms.length:Int)>3)∨(¬(XT ds.length x2.pms=true)):=((Yj dq (Yl Iff.rfl))).1 Yq
       exact Z0 (wk [0] (Zq true Yq fl))
      have Uu:¬(((x2.pms.length:Int)>3)∨(¬(XT ds.length x2.pms=true))):=Y3 (Yj dq (Yl Iff.rfl)) Yq
      exact Y6 3 [0] (ZC [] (EN ds x2.res) (Z0 (wk [0] (Zq (!(decide (0<=x2.res/\x2.res<=ds.length))) Yq fl))))
     refine ac (((decide ((x2.pms.length:Int)>3))||(!XT ds.length x2.pms))||(!(decide (0<=x2.res/\x2.res<=ds.length)))) (p:=(((x2.pms.length:Int)>3)∨(¬(XT ds.length x2.pms=true)))∨(¬(0<=x2.res/\x2.res<=ds.length))) (Yj (Yj dq (Yl Iff.rfl)) (Yl dq)) (fun Zw=>?_) (fun Zw=>?_)
     ·exact ar (Z8 (Zp (.b false) (lb (FQ (Fy Zt (Zbl Zw) Z9)))))
     refine ak (ZB 2 [0] (iw (Yn x2.lnt) (Z0 (ab 2 (ZU (fun fz gz m F h=>∃(j:Nat),(j<=x2.lnt.length)/\(Q4 x2.pms (x2.lnt.drop j) (if j=0 then none else x2.lnt[j-1]?)=Kq x2.pms x2.lnt)/\F=sF [0,6,37,38,39,62,63] fz [(64,.i j)]/\h=gz/\m=x2.lnt.length-j) _ _ _ ⟨0,ob,(by rfl),rfl,rfl,rfl⟩ (wk [0] (ZW fl)) ?_)))))
     rintro m F h ⟨j,T6,Xk,rfl,rfl,rfl⟩
     refine Zh (aq (Xi ((j:Int)<(x2.lnt.length:Int)) (fun Yg=>?_) (fun Yg=>?_)))
     ·refine ak (aq (ab 3 (ZM 1 ?_)))
      obtain ⟨x3,X0⟩:=Zv x2.lnt j om
      refine Zi (Zr none (j:Int) 1 (Yf X0)) (Z0 (ar (XC 9 [0,6,7,8,37,38,39,62,63,64] [(77,.b ((decide (x3<0))||(decide (x3>=(x2.pms.length:Int)))))] (fun gz=>gz) ?_ (fun hj4=>?_))))
      ·refine Z1 1 (ib (b:=((decide (x3<0))||(decide (x3>=(x2.pms.length:Int))))) 78 (fun Xg=>?_) (fun Xg=>?_))
       ·have T1:(x3<0)∨(x3>=(x2.pms.length:Int)):=((Yj dq dq)).1 Xg
        exact Z0 (W7 (ar (Z8 (Zp (.b false) (lb (FQ (Fy Zt (IN (I4 X0 (by rintro ⟨q1,q2,q3⟩;first|omega|(rw [Tk] at q2;exact q2 (Ys some om))|(have:=q3 _ (by rw [Z4 om];exact KO);omega)) Xk)) Z9)))))))
       have Tj:¬((x3<0)∨(x3>=(x2.pms.length:Int))):=Y3 (Yj dq dq) Xg
       refine Y6 3 [0] ?_
       obtain ⟨x4,Tk⟩:=Zv x2.pms x3.toNat om
       refine Zi (Zr none x3 1 (Yf Tk)) (Z1 4 (ib (b:=(x4==0)) 86 (fun WG=>?_) (fun WG=>?_)))
       ·have Qp:x4=0:=(Zs).1 WG
        exact Z0 (W7 (ar (Z8 (Zp (.b false) (lb (FQ (Fy Zt (IN (I4 X0 (by rintro ⟨q1,q2,q3⟩;first|omega|(rw [Tk] at q2;exact q2 (Ys some om))|(have:=q3 _ (by rw [Z4 om];exact KO);omega)) Xk)) Z9)))))))
       have Ke:¬(x4=0):=Y3 Zs WG
       refine Z1 3 (ib (b:=(decide ((j:Int)>0))) 89 (fun Ve=>?_) (fun Ve=>?_))
       ·have JH:(j:Int)>0:=(dq).1 Ve
        refine Y6 4 [0] (ia (((j-1:Nat):Int)) (((j:Int))-(1)) ?_)
        obtain ⟨x5,KO⟩:=Zv x2.lnt (j-1) om
        refine Zi (Zr none ((j-1:Nat):Int) 1 (Yf KO)) (ZO (x3<=x5) (fun Xp=>?_) (fun Xp=>?_))
        ·exact ar (Z8 (Zp (.b false) (lb (FQ (Fy Zt (IN (I4 X0 (by rintro ⟨q1,q2,q3⟩;first|omega|(rw [Tk] at q2;exact q2 (Ys some om))|(have:=q3 _ (by rw [Z4 om];exact KO);omega)) Xk)) Z9)))))
        refine ak (az (ZK j (Z0 ?_)))
        have hdr:=ZH X0
        exact ZJ ⟨j+1,ob,(P2 X0 ⟨by omega,(by rw [Tk];intro q;cases q;omega),fun p hp=>by first|(rw [Z6 om] at hp;cases hp;done)|(rw [Z4 om,KO] at hp;cases hp;omega)⟩ Xk),rfl,rfl,rfl⟩ (wk [0] (ZL j fl))
       have Am:¬((j:Int)>0):=Y3 dq Ve
       refine Z0 (XF (ak (az (ZK j (Z0 ?_)))))
       have hdr:=ZH X0
       exact ZJ ⟨j+1,ob,(P2 X0 ⟨by omega,(by rw [Tk];intro q;cases q;omega),fun p hp=>by first|(rw [Z6 om] at hp;cases hp;done)|(rw [Z4 om,KO] at hp;cases hp;omega)⟩ Xk),rfl,rfl,rfl⟩ (wk [0] (ZL j fl))
      refine Z1 3 (ib (b:=(decide (x3<0))) 71 (fun VC=>?_) (fun VC=>?_))
      ·have EH:x3<0:=(dq).1 VC
       exact Z1 6 (Ye (wk [0] (Zq true VC fl)) hj4)
      have EI:¬(x3<0):=Y3 dq VC
      exact Y6 3 [0] (iw (Yn x2.pms) (Z1 2 (Ye (wk [0] (Zq (decide (x3>=(x2.pms.length:Int))) VC fl)) hj4)))
     have hL:Kq x2.pms x2.lnt=true:=by rw [<-Xk,YV om];rfl
     have hS:=Zbm Zw hL
     refine ax 2 (az (ZK k (Z0 ?_)))
     have hdr:=ZH Zt
     exact ZJ ⟨k+1,ob,(Zby Zt hS Z9),rfl,rfl,rfl⟩ (wk [] (ZL k fl))
    refine Z1 2 (ib (b:=(decide ((x2.pms.length:Int)>3))) 47 (fun Vn=>?_) (fun Vn=>?_))
    ·have BT:(x2.pms.length:Int)>3:=(dq).1 Vn
     exact Z1 6 (Ye (wk [0] (Zq true Vn fl)) hj3)
    have BU:¬((x2.pms.length:Int)>3):=Y3 dq Vn
    exact Y6 3 [0] (ZC [] (Od ds x2.pms) (Z1 2 (Ye (wk [0] (Zq (!XT ds.length x2.pms) Vn fl)) hj3)))
   exact ax 0 (ar (Z8 (Zp (.b true) (lb (Zff (by assumption) Z2 (by assumption) Z5 (by rw [<-Z9,YV om];rfl))))))
  refine Z1 1 (ib (b:=((!WB ds)||(decide ((fs.length:Int)<1)))) 17 (fun Vo=>?_) (fun Vo=>?_))
  ·have EJ:(¬(WB ds=true))∨((fs.length:Int)<1):=((Yj (Yl Iff.rfl) dq)).1 Vo
   exact Z1 4 (Ye (wk [] (Zq true Vo fl)) hj2)
  have EK:¬((¬(WB ds=true))∨((fs.length:Int)<1)):=Y3 (Yj (Yl Iff.rfl) dq) Vo
  exact Z1 1 (iw (CM fs) (Z1 2 (Ye (wk [] (Zq (decide ((fs.length:Int)>4)) Vo fl)) hj2)))
 refine Z1 2 (ib (b:=(!WB ds)) 12 (fun KJ=>?_) (fun KJ=>?_))
 ·have Z5n:¬(WB ds=true):=((Yl Iff.rfl)).1 KJ
  exact Z1 4 (Ye (wk [] (Zq true KJ fl)) hj1)
 have Z5o:¬(¬(WB ds=true)):=Y3 (Yl Iff.rfl) KJ
 exact Z1 1 (iw (CM fs) (Z1 2 (Ye (wk [] (Zq (decide ((fs.length:Int)<1)) KJ fl)) hj1)))
theorem Ok (n:Zj) (hz:WM n:=by exact ob):Za 152 [X6 n] [] (fun r h=>(r=.tup [.agg [ZI n.decls,Yr n],.b (Va n)]/\h=[]/\n.routines.length<=4)∨(r=.tup [.agg [ZI [],C4 []],.b false]/\h=[]/\Va n=false)):=by
 have hzl:=hz.len
 refine Zx 41 Tryz.func152 (ar (iA (Wb n) fun b1=>iA [nl,nl] fun b2=>Z0 (Yp 2 [1] (iw (UJ n.routines) (ZO ((n.routines.length:Int)>4) (fun Z5=>?_) (fun Z5=>?_))))))
 ·exact ZM 1 (Y4 0 b2 [nl,nl] (Z8 (r3 [] [.agg [nl,nl],.b false] [0] [(b2,b2)] (.inr ⟨rfl,rfl,(by rw [Po,decide_eq_false om];rfl)⟩) (Zm.tup (.cons (Zm.agg (.cons (Zm.sl _ rfl) (.cons (Zm.sl _ rfl) .nil))) (.cons (lr _) .nil))))))
 refine ak (ZB 3 [1] (iA [nl,nl] fun b3=>?_))
 refine Y4 0 b3 [ZI n.decls,nl] (ie (Yp 2 [2] (iw (UJ n.routines) (Z0 (ab 0 (TU 3 (ZU (fun fz gz m F h=>∃(k:Nat) (v:Value),(k<=n.routines.length)/\F=sF [1,2,4,16,17] fz [(18,.i k)]/\h=[.obj b3 [ZI n.decls,Fg ((n.routines.take k).map Xq) v],Zy gz 2,Zy gz 3,.tail v 3]/\m=n.routines.length-k) _ _ _ ⟨0,(.slice none 0 0),ob,rfl,rfl,rfl⟩ (wk [1,1,1,0] (ZW fl)) ?_)))))))
 rintro m F h ⟨k,v,Y0,rfl,rfl,rfl⟩
 refine Zh (aq (Xi ((k:Int)<(n.routines.length:Int)) (fun Zd=>?_) (fun Zd=>?_)))
 ·refine ak (aq (ab 1 (ar ?_)))
  obtain ⟨x1,Z2⟩:=Zv n.routines k om
  refine Zi (Zr none (k:Int) 5 (Us Z2)) (Z1 1 (iA [nl,nl,.i 0,nl,.i 0] fun b4=>Y4 0 b4 (TM x1) (ie (az (Y6 9 [1,0,0,0] (iL (UW [WO.mk x1.params x1.lent x1.result]) 1 3 fun v1=>W2 0 [(31,C4 [WO.mk x1.params x1.lent x1.result])] (ip 5 (UW ((n.routines.take (k+1)).map Xq)) (UW ((n.routines.take k).map Xq)) (UW [WO.mk x1.params x1.lent x1.result]) v none 3 (Nv _) (Nv _) (Z46 _) (by simp<;>omega) (by rw [WU Z2];simp [UW,Xq]) fun v2=>Z1 1 (Y4 3 b3 [ZI n.decls,Fg ((n.routines.take (k+1)).map Xq) v2] (ie (az (ZK k (Z0 ?_))))))))))))
  have hdr:=ZH Z2
  exact ZJ ⟨k+1,v2,ob,rfl,rfl,rfl⟩ (wk [0,3,3,0] (ZL k fl))
 refine ax 0 (aD 8 (GY 3 8 [0,1,2,3,4] [(39,C4 ((n.routines.take k).map Xq))] [0,2,0] (ZF 5 (W4 5 [] [0] [b3] (Z6w n.decls ((n.routines.take k).map Xq) (hz:=hz.decls) (hf:=(by intro f hf;obtain ⟨r,h1,rfl⟩:=Xe.1 hf;have q:=Cp h1;have q1:=hz.params r q;have q2:=hz.lent r q;exact ⟨by show r.params.length<=_;omega,by show r.lent.length<=_;omega⟩))) (ZF 6 (UC 6 1 [] [] b2 [ZI n.decls,Fg ((n.routines.take k).map Xq) v] (Zo 0 1 [7] (de ?_))))))))
 have htk:n.routines.take k=n.routines:=W6 om
 exact ZG (r3 [] [.agg [ZI n.decls,Fg ((n.routines.take k).map Xq) v],.b (Kr n.decls ((n.routines.take k).map Xq))] [0] [(b2,b2)] (.inl ⟨rfl,rfl,om⟩) (Zm.tup (.cons (Zm.agg (.cons (lr _) (.cons (Zm.sl _ (Ys UW (by rw [htk]))) .nil))) (.cons (lb (by rw [htk,Po,decide_eq_true (p:=n.routines.length<=4) om,Bool.true_and])) .nil))))
theorem Ol (n:Zj) (t:Int) (hn:YZ n:=by exact ob):Za 244 [.agg [ZI n.decls,Yr n],.i t] [] (ZQ (Av ((YB n.decls t).map (Y1 n.decls)))):=by
 have Wy:=hn.decls
 have hcl:=Z9o Wy t
 refine Zx 26 Tryz.func244 (ar (iA [ZI n.decls,Yr n] fun b1=>?_))
 refine Z0 (Zh (Yp 3 [0] (ZC [] (Z6l n.decls t) (io (.i (((YB n.decls t).length:Nat):Int)) (.i (((Zk (YB n.decls t)).length:Nat):Int)) (li (by rw [Yn])) (Z0 (ab 0 (TU 1 (ZU (fun fz gz m F h=>∃(k:Nat) (v:Value),(k<=(YB n.decls t).length)/\F=sF [2,11,12] fz [(5,De (((YB n.decls t).take k).map (Y1 n.decls)) v),(13,.i k)]/\h=[Zy gz 1,.tail v 1]/\m=(YB n.decls t).length-k) _ _ _ ⟨0,(.slice none 0 0),ob,rfl,rfl,rfl⟩ (wk [1,0] (fc (x:=nl) (Zm.slh _ rfl) (ZW fl))) ?_))))))))
 rintro m F h ⟨k,v,Y0,rfl,rfl,rfl⟩
 refine Zh (aq (Xi ((k:Int)<(((YB n.decls t).length:Nat):Int)) (fun Z5=>?_) (fun Z5=>?_)))
 ·refine ak (aq (ab 1 (ar ?_)))
  obtain ⟨x1,Z2⟩:=Zv (YB n.decls t) k om
  refine Zi (Zr none (k:Int) 1 (Yf Z2)) (Z0 (az (Y6 4 [0] (ZC [] (Z6o n.decls x1 (hc:=(by have:=N5 Wy Z2;omega))) (iL (Ug [Y1 n.decls x1]) 1 1 fun v1=>W2 0 [(22,Av [Y1 n.decls x1])] (ip 2 (Ug (((YB n.decls t).take (k+1)).map (Y1 n.decls))) (Ug (((YB n.decls t).take k).map (Y1 n.decls))) (Ug [Y1 n.decls x1]) v none 1 (Ns _) (Ns _) (Z44 _) (by simp;omega) (by rw [WU Z2];simp [Ug]) fun v2=>Z0 (az (ZK k (Z0 ?_)))))))))
  have hdr:=ZH Z2
  exact ZJ ⟨k+1,v2,ob,rfl,rfl,rfl⟩ (wk [2,0] (fr (ZL k fl)))
 exact ax 0 (ar (Z8 (Zp (De (((YB n.decls t).take k).map (Y1 n.decls)) v) (Zm.sl _ (Ys Ug (by rw [W6 om]))))))
theorem Z6u (n:Zj) (op:Int) (num:Int) (ts:LI) (hn:YZ n:=by exact ob) (hl_ts:ts.length<=4294967296:=by exact ob) (hnum:-9223372036854775808<=num/\num<=9223372036854775807:=by exact ob):Za 245 [.agg [ZI n.decls,Yr n],.i op,.i num,Ze ts] [] (fun r h=>∃(t:Int),r=.tup [.i t,.b ((Xd n op num ts).isSome)]/\h=[]/\∀x,Xd n op num ts=some x->t=x):=by
 have Wy:=hn.decls
 have hrl:=hn.len
 have hcfl:(Y1 n.decls num).length<=4294967296:=by have:=TZ Wy num;omega
 have hdl:n.decls.length<=4294967296:=by have:=Wy.len;omega
 refine Zx 149 Tryz.func245 (ar (iA [ZI n.decls,Yr n] fun b1=>Z0 (Zh (Ym (ab 0 (ar (Yw (op==0) Zs (fun Z5=>?_) (fun Z5=>?_))))))))
 ·refine ar (XC 6 [3] [(26,.b ((decide (num>=(-999)))&&(decide (num<=999))))] (fun gz=>gz) ?_ (fun hj1=>?_))
  ·refine XC 11 [] [(31,.b (((decide (num>=(-999)))&&(decide (num<=999)))&&((ts.length:Int)==0)))] (fun gz=>gz) ?_ (fun hj2=>?_)
   ·refine Z0 ?_
    have hF:=sf0 (n:=n) (num:=num) (ts:=ts) Z5
    exact ZG (r2 [] [.i 0,.b (((decide (num>=(-999)))&&(decide (num<=999)))&&((ts.length:Int)==0))] ⟨0,rfl,rfl,(AC hF)⟩ (Zm.tup (.cons (lr _) (.cons (lb (AB hF (by simp [*];try omega))) .nil))))
   refine Z1 1 (ib (b:=((decide (num>=(-999)))&&(decide (num<=999)))) 27 (fun Zc=>?_) (fun Zc=>?_))
   ·have Yd:(num>=(-999))/\(num<=999):=((YD dq dq)).1 Zc
    exact Z1 1 (iw (Yn ts) (Z1 2 (Ye (wk [0] (Zq ((ts.length:Int)==0) Zc fl)) hj2)))
   have YX:¬((num>=(-999))/\(num<=999)):=Y3 (YD dq dq) Zc
   exact Z1 4 (Ye (wk [0] (Zq false Zc fl)) hj2)
  refine Z1 3 (ib (b:=(decide (num>=(-999)))) 23 (fun ZD=>?_) (fun ZD=>?_))
  ·have XB:num>=(-999):=(dq).1 ZD
   exact Z1 3 (Ye (wk [0] (Zq (decide (num<=999)) ZD fl)) hj1)
  have XH:¬(num>=(-999)):=Y3 dq ZD
  exact Z1 3 (Ye (wk [0] (Zq false ZD fl)) hj1)
 refine Ym (TE (fun fz gz F h=>F=sF [1,2,3,4,11,18] fz [(32,.b ((op==1)||((op==2)||((op==3)||(op==4)))))]/\h=gz) ?_ ?_)
 ·refine ac (op==1) Zs (fun Zd=>?_) (fun Zd=>?_)
  ·exact ak (Xo ⟨rfl,rfl⟩ (wk [0] (fc (x:=.b (op==1)) (lb (by first|rfl|(rw [Z6 Zd])|(rw [Z4 Zd])|(simp [Zd];done)|(rw [Wp];simp [Zd];done)|omega)) fl)))
  refine ar (Yw (op==2) Zs (fun Zw=>?_) (fun Zw=>?_))
  ·exact ak (Xo ⟨rfl,rfl⟩ (wk [0] (fc (x:=.b (op==2)) (lb (by first|rfl|(rw [Z6 Zd])|(rw [Z4 Zd])|(simp [Zd,Zw];done)|(rw [Wp];simp [Zd,Zw];done)|omega)) fl)))
  refine ar (Yw (op==3) Zs (fun Yg=>?_) (fun Yg=>?_))
  ·exact ak (Xo ⟨rfl,rfl⟩ (wk [0] (fc (x:=.b (op==3)) (lb (by first|rfl|(rw [Z6 Zd])|(rw [Z4 Zd])|(simp [Zd,Zw,Yg];done)|(rw [Wp];simp [Zd,Zw,Yg];done)|omega)) fl)))
  exact Qo (Xo ⟨rfl,rfl⟩ (wk [0] (fc (x:=.b (op==4)) (lb (by first|rfl|(rw [Z6 Zd])|(rw [Z4 Zd])|(simp [Zd,Zw,Yg];done)|(rw [Wp];simp [Zd,Zw,Yg];done)|omega)) fl)))
 rintro F h ⟨rfl,rfl⟩
 refine ac ((op==1)||((op==2)||((op==3)||(op==4)))) (p:=(op=1)∨((op=2)∨((op=3)∨(op=4)))) (Yj Zs (Yj Zs (Yj Zs Zs))) (fun Xp=>?_) (fun Xp=>?_)
 ·refine az (iL (Zk [0,0]) 2 1 fun v1=>Z0 (ar (XC 8 [] [(141,.i 0),(148,.b ((num==0)&&(decide (ts=[0,0]))))] (fun gz=>gz) ?_ (fun hj3=>?_))))
  ·refine Z0 ?_
   have hF:=sf1 (n:=n) (num:=num) (ts:=ts) Xp
   exact ZG (r2 [] [.i 0,.b ((num==0)&&(decide (ts=[0,0])))] ⟨0,rfl,rfl,(AC hF)⟩ (Zm.tup (.cons (lr _) (.cons (lb (AB hF (by simp [*];try omega))) .nil))))
  refine Z1 4 (ib (b:=(num==0)) 144 (fun Yq=>?_) (fun Yq=>?_))
  ·have VT:num=0:=(Zs).1 Yq
   exact W2 2 [(146,Ze [0,0])] (ZC [] (Bf ts [0,0]) (Z1 1 (Ye (wk [0,0] (fr (Zq (decide (ts=[0,0])) Yq fl))) hj3)))
  have Uu:¬(num=0):=Y3 Zs Yq
  exact Z1 4 (Ye (wk [0,0] (fr (Zq false Yq fl))) hj3)
 refine ar (Yw (op==5) Zs (fun Wf=>?_) (fun Wf=>?_))
 ·refine az (iL (Zk [0]) 1 1 fun v2=>Z0 (ar (XC 8 [] [(141,.i 0),(148,.b ((num==0)&&(decide (ts=[0]))))] (fun gz=>gz) ?_ (fun hj4=>?_))))
  ·refine Z0 ?_
   have hF:=sf5 (n:=n) (num:=num) (ts:=ts) Wf
   exact ZG (r2 [] [.i 0,.b ((num==0)&&(decide (ts=[0])))] ⟨0,rfl,rfl,(AC hF)⟩ (Zm.tup (.cons (lr _) (.cons (lb (AB hF (by simp [*];try omega))) .nil))))
  refine Z1 4 (ib (b:=(num==0)) 144 (fun Xg=>?_) (fun Xg=>?_))
  ·have T1:num=0:=(Zs).1 Xg
   exact W2 2 [(146,Ze [0])] (ZC [] (Bf ts [0]) (Z1 1 (Ye (wk [0,0] (fr (Zq (decide (ts=[0])) Xg fl))) hj4)))
  have Tj:¬(num=0):=Y3 Zs Xg
  exact Z1 4 (Ye (wk [0,0] (fr (Zq false Xg fl))) hj4)
 refine ar (Yw (op==11) Zs (fun T0=>?_) (fun T0=>?_))
 ·refine Yb 1 (iw (Yn ts) (Yw ((ts.length:Int) != 2) ZP (fun VD=>?_) (fun VD=>?_)))
  ·refine Zh ?_
   have hF:=Zbv (n:=n) (num:=num) T0 VD
   exact ZG (r2 [] [.i (-1),.b false] ⟨(-1),rfl,rfl,(Ds hF)⟩ (Zm.tup (.cons (lr _) (.cons (lb (Dr hF)) .nil))))
  refine ak (aD 12 (Ya 9 12 [0,1,2] [0] ?_))
  obtain ⟨x1,Z2⟩:=Zv ts 0 om
  refine dx 3 (Zr none 0 1 (Yf Z2)) (Zo 7 8 [4] (GX (fun fz gz F h=>∃(b2:Nat),F=sF [2,3] fz [(12,.p b2 0),(13,.b (XO n.decls x1))]/\h=[.obj b2 (Uh (Vs n.decls x1)),Zy gz 0]) ?_ ?_))
  ·refine H0 5 9 ?_ ?_
   ·exact W4 5 [] [] [] (EL n.decls x1) (Zo 3 6 [6,7,8] (ZF 9 (dA 9 [] [] [.i 0,.i 0,nl] fun b2=>ZF 10 (UC 10 0 [] [] b2 (Uh (Vs n.decls x1)) (Zo 0 1 [11] (de (Xo ⟨b2,rfl,rfl⟩ (wk [0,0] fl))))))))
   exact dA 9 [0] [b1] [.i 0,.i 0,nl] fun b3=>ZF 5 (W4 5 [] [] [] (EL n.decls x1) (Zo 2 5 [6,7,8] (ZF 10 (UC 10 0 [] [] b3 (Uh (Vs n.decls x1)) (Zo 0 1 [11] (de (Xo ⟨b3,rfl,rfl⟩ (wk [0,0] fl))))))))
  rintro F h ⟨b2,rfl,rfl⟩
  refine aD 17 (Ya 13 17 [0,1,2,3] [0] (db (b:=XO n.decls x1) 58 (fun WG=>?_) (fun WG=>?_)))
  ·have Qp:XO n.decls x1=true:=(Iff.rfl).1 WG
   refine Zo 12 13 [4] ?_
   obtain ⟨x2,Zt⟩:=Zv ts 1 om
   refine dx 5 (Zr none 1 1 (Yf Zt)) (Ya 4 11 [6,7,8,9,10,11,15] [0] (db (b:=(x2==((Vs n.decls x1).frm))) 66 (fun Ve=>?_) (fun Ve=>?_)))
   ·have Ke:x2=((Vs n.decls x1).frm):=(Zs).1 Ve
    refine Zo 0 4 [12,13,14,16] (de ?_)
    have hF:=IT (n:=n) (num:=num) T0 VD Z2 Zt
    exact ZG (r2 [] [.i ((Vs n.decls x1).to_),.b (num==0)] ⟨(Vs n.decls x1).to_,rfl,rfl,(AC hF)⟩ (Zm.tup (.cons (lr _) (.cons (lb (AB hF (by simp [*];try omega))) .nil))))
   have JH:¬(x2=((Vs n.decls x1).frm)):=Y3 Zs Ve
   refine Zo 0 4 [12,13,14,16] (de ?_)
   have hF:=IT (n:=n) (num:=num) T0 VD Z2 Zt
   exact ZG (r2 [] [.i ((Vs n.decls x1).to_),.b false] ⟨(Vs n.decls x1).to_,rfl,rfl,(AC hF)⟩ (Zm.tup (.cons (lr _) (.cons (lb (AB hF (by simp [*]))) .nil))))
  have Am:¬(XO n.decls x1=true):=Y3 Iff.rfl WG
  refine Zo 0 13 [4,5,6,7,8,9,10,11,12,13,14,15,16] (de ?_)
  have hF:=Zbu (n:=n) (num:=num) T0 VD Z2 (by assumption)
  exact ZG (r2 [] [.i ((Vs n.decls x1).to_),.b false] ⟨(Vs n.decls x1).to_,rfl,rfl,(Ds hF)⟩ (Zm.tup (.cons (lr _) (.cons (lb (Dr hF)) .nil))))
 refine ar (Yw (op==6) Zs (fun T9=>?_) (fun T9=>?_))
 ·refine ZB 3 [0] (ZC [] (Of n.decls num) (Z1 3 (iA [nl] fun b4=>Z1 1 (Y4 0 b4 [Ze (Y1 n.decls num)] (ie (ar (XC 9 [] [(79,.i (XN n.decls num)),(87,.b ((decide ((XN n.decls num)>=0))&&(decide (ts=(Y1 n.decls num)))))] (fun gz=>gz) ?_ (fun hj5=>?_))))))))
  ·refine Z0 ?_
   have hF:=sf6 (n:=n) (num:=num) (ts:=ts) T9
   exact ZG (r2 [] [.i (XN n.decls num),.b ((decide ((XN n.decls num)>=0))&&(decide (ts=(Y1 n.decls num))))] ⟨XN n.decls num,rfl,rfl,(AC hF)⟩ (Zm.tup (.cons (lr _) (.cons (lb (AB hF (by simp [*];try omega))) .nil))))
  refine Z1 4 (ib (b:=(decide ((XN n.decls num)>=0))) 82 (fun VC=>?_) (fun VC=>?_))
  ·have EH:(XN n.decls num)>=0:=(dq).1 VC
   exact Y6 3 [0] (ZC [] (Bf ts (Y1 n.decls num)) (Z1 1 (Ye (wk [0,0] (fr (Zq (decide (ts=(Y1 n.decls num))) VC fl))) hj5)))
  have EI:¬((XN n.decls num)>=0):=Y3 dq VC
  exact Z1 5 (Ye (wk [0,0] (fr (Zq false VC fl))) hj5)
 refine Ym (TE (fun fz gz F h=>F=sF [1,2,3,4] fz [(88,.b ((op==9)||(op==10)))]/\h=gz) ?_ ?_)
 ·refine ac (op==9) Zs (fun Tu=>?_) (fun Tu=>?_)
  ·exact ak (Xo ⟨rfl,rfl⟩ (wk [0] (fc (x:=.b (op==9)) (lb (by first|rfl|(rw [Z6 Tu])|(rw [Z4 Tu])|(simp [Tu];done)|(rw [Wp];simp [Tu];done)|omega)) fl)))
  exact Qo (Xo ⟨rfl,rfl⟩ (wk [0] (fc (x:=.b (op==10)) (lb (by first|rfl|(rw [Z6 Tu])|(rw [Z4 Tu])|(simp [Tu];done)|(rw [Wp];simp [Tu];done)|omega)) fl)))
 rintro F h ⟨rfl,rfl⟩
 refine ac ((op==9)||(op==10)) (p:=(op=9)∨(op=10)) (Yj Zs Zs) (fun JG=>?_) (fun JG=>?_)
 ·refine Yt (Wa [1,2,3,4] [(99,.b ((decide (num<0))||(decide (num>=(((n.routines.map Xq).length:Nat):Int)))))] (fun gz=>gz) ?_ ?_)
  ·refine Z1 3 (ib (b:=(decide (num<0))) 93 (fun Vn=>?_) (fun Vn=>?_))
   ·have BT:num<0:=(dq).1 Vn
    exact Z0 (wk [0] (Zq true Vn fl))
   have BU:¬(num<0):=Y3 dq Vn
   exact Y6 3 [0] (io (.i (((n.routines.map Xq).length:Nat):Int)) (.i (((UW (n.routines.map Xq)).length:Nat):Int)) (li (by rw [CM])) (Z0 (wk [0] (Zq (decide (num>=(((n.routines.map Xq).length:Nat):Int))) Vn fl))))
  refine ac ((decide (num<0))||(decide (num>=(((n.routines.map Xq).length:Nat):Int)))) (p:=(num<0)∨(num>=(((n.routines.map Xq).length:Nat):Int))) (Yj dq dq) (fun Tv=>?_) (fun Tv=>?_)
  ·refine Zh ?_
   have hF:=Zbw (n:=n) (ts:=ts) JG Tv
   exact ZG (r2 [] [.i (-1),.b false] ⟨(-1),rfl,rfl,(Ds hF)⟩ (Zm.tup (.cons (lr _) (.cons (lb (Dr hF)) .nil))))
  refine ak (aD 14 (Ya 11 14 [0,1,2] [0] ?_))
  obtain ⟨x3,X0⟩:=Zv (n.routines.map Xq) num.toNat om
  obtain ⟨r,hr,hrx⟩:=Fx X0
  have hrp:=hn.params_at hr
  have hpx:x3.pms=r.params:=by rw [hrx];rfl
  have hpl:x3.pms.length<=3:=by rw [hpx];exact hrp
  refine dx 3 (Zr none num 3 (B2 X0)) (Ya 5 10 [4,5,6,7,8] [0] (dx 9 (Zr none num 3 (B2 X0)) (Zo 0 4 [10,11,12,13] (de (Yt (Yw (op==9) Zs (fun Kc=>?_) (fun Kc=>?_)))))))
  ·refine ZM 3 (ZC [] (Bf ts x3.pms) (Z0 ?_))
   have hF:=sf9 (ts:=ts) Kc Tv X0
   exact ZG (r2 [] [.i x3.res,.b (decide (ts=x3.pms))] ⟨x3.res,rfl,rfl,(AC hF)⟩ (Zm.tup (.cons (lr _) (.cons (lb (AB hF (by simp [*];try omega))) .nil))))
  refine ak (ZM 1 (iw (Yn x3.pms) (ia (((x3.pms.length:Int)-1)) (((x3.pms.length:Int))-(1)) (Z0 (Yt (ZO (((x3.pms.length:Int)-1)<0) (fun B5=>?_) (fun B5=>?_)))))))
  ·refine Zh ?_
   have hF:=Zbt (ts:=ts) (JG.resolve_left Kc) Tv X0 B5
   exact ZG (r2 [] [.i (-1),.b false] ⟨(-1),rfl,rfl,(Ds hF)⟩ (Zm.tup (.cons (lr _) (.cons (lb (Dr hF)) .nil))))
  refine ak (aD 9 (Ya 5 9 [0,1,2,3] [0] ?_))
  obtain ⟨x4,Tk⟩:=Zv x3.pms (((x3.pms.length:Int)-1).toNat) om
  refine dx 4 (Zr none ((x3.pms.length:Int)-1) 1 (Yf Tk)) (Zo 2 4 [5,6] (ZF 7 (W4 7 [] [] [] (Z6b n.decls x4 x3.res) (Zo 0 1 [8] (de (ar (XC 10 [] [(131,.i (Tf n.decls x4 x3.res)),(140,.b ((decide ((Tf n.decls x4 x3.res)>=0))&&(decide (ts=(x3.pms.take (((x3.pms.length:Int)-1).toNat))))))] (fun gz=>gz) ?_ (fun hj6=>?_))))))))
  ·refine Z0 ?_
   have hF:=Zbs (ts:=ts) (JG.resolve_left Kc) Tv X0 B5 Tk
   exact ZG (r2 [] [.i (Tf n.decls x4 x3.res),.b ((decide ((Tf n.decls x4 x3.res)>=0))&&(decide (ts=(x3.pms.take (((x3.pms.length:Int)-1).toNat)))))] ⟨Tf n.decls x4 x3.res,rfl,rfl,(AC hF)⟩ (Zm.tup (.cons (lr _) (.cons (lb (AB hF (by rw [Wp];simp))) .nil))))
  refine Z1 4 (ib (b:=(decide ((Tf n.decls x4 x3.res)>=0))) 134 (fun Vo=>?_) (fun Vo=>?_))
  ·have EJ:(Tf n.decls x4 x3.res)>=0:=(dq).1 Vo
   exact Z1 3 (Zi (Dv (es:=Zk x3.pms) (hv:=none) (l:=0) (m:=((x3.pms.length:Int)-1)) (sz:=1) (es':=Zk (x3.pms.take (((x3.pms.length:Int)-1).toNat))) kr om (by simp<;>omega) (by simp<;>omega) (Wv _) (by first|(simp only [Qy,Kx,KG,JA];done)|(simp only [Qy,Kx,KG,JA];rfl)|(simp [KG,JA];done))) (ZC [] (Bf ts (x3.pms.take (((x3.pms.length:Int)-1).toNat))) (Z1 1 (Ye (wk [0] (fr (Zq (decide (ts=(x3.pms.take (((x3.pms.length:Int)-1).toNat)))) Vo fl))) hj6))))
  have EK:¬((Tf n.decls x4 x3.res)>=0):=Y3 dq Vo
  exact Z1 6 (Ye (wk [0] (fr (Zq false Vo fl))) hj6)
 refine Zh ?_
 have hF:=sfd (n:=n) (num:=num) (ts:=ts) Z5 Xp Wf T0 T9 JG
 exact ZG (r2 [] [.i (-1),.b false] ⟨(-1),rfl,rfl,(Ds hF)⟩ (Zm.tup (.cons (lr _) (.cons (lb (Dr hF)) .nil))))
theorem Om (n:Zj) (us:LI) (ks:List Zf) (ms:List LI) (hn:YZ n:=by exact ob) (hnn:∀t∈us,0<=t) (hk:0<ks.length:=by exact ob) (hl:ks.length=ms.length:=by exact ob) (hb:us.length+3+4*Xn ks<=1000000000:=by exact ob) (hr:QJ ks:=by exact ob) (hm3:∀m∈ms,m.length<=3) (hmn:∀m∈ms,∀f∈m,0<=f) (ih:∀(b:Zf) (us:LI),(b.sz<=Xn ks)->(us.length+4*b.sz<=1000000000)->(b.rng)->(∀t∈us,0<=t)->Za 154 [.agg [ZI n.decls,Yr n],Ze us,YG b] [] (ZQ (.i (Yv n us b)))):Za 243 [.agg [ZI n.decls,Yr n],Ze us,KQ ks,Av ms] [] (ZQ (.tup [.i (XP n us ks ms true 0),.b (decide (0<=XP n us ks ms true 0))])):=by
 have hkl:=MB ks
 refine Zx 45 Tryz.func243 (ar (iA [ZI n.decls,Yr n] fun b1=>?_))
 refine Z0 (Zh (Yb 1 (iw (Uf ks) (Z0 (ab 0 (ZU (fun fz gz m F h=>∃(k:Nat) (t:Int),(k<=ks.length)/\(0<k->0<=t)/\(XP n us (ks.drop k) (ms.drop k) (decide (k=0)) t=XP n us ks ms true 0)/\F=sF [1,3,4,14,15] fz [(10,.i t),(16,.i k)]/\h=gz/\m=ks.length-k) _ _ _ ⟨0,(-1),ob,ob,(Z83 hk (-1)),rfl,rfl,rfl⟩ (wk [0] (fr (ZW fl))) ?_))))))
 rintro m F h ⟨k,t,Y0,Z9,Zz,rfl,rfl,rfl⟩
 refine Zh (aq (Xi ((k:Int)<(ks.length:Int)) (fun Z5=>?_) (fun Z5=>?_)))
 ·refine ak (aq (ab 1 (ZM 1 ?_)))
  obtain ⟨x1,Z2⟩:=Zv ks k om
  have D1:=MC Z2
  have hbr:=E3 hr Z2
  refine Zi (Zr none (k:Int) 2 (TF Z2)) (Z1 1 (iA [nl,.i 0] fun b2=>Z1 1 (Y4 0 b2 (VE x1) (ie (aD 11 (Ya 7 11 [0,1,2,3] [1] ?_))))))
  obtain ⟨x2,Zt⟩:=Zv ms k om
  have hxl:=hm3 x2 (YF Zt)
  have hxn:=hmn x2 (YF Zt)
  refine dx 4 (Zr none (k:Int) 1 (B1 Zt)) (Ya 4 6 [5,8] [0] (ZF 6 (dL 6 [0,1] [b2,b1] (Ug [us,x2]) 2 1 fun v1=>UT 3 3 [] [(27,Av [us,x2])] (ZF 7 (dc 7 [] [0,1] [b2,b1] (Zca [us,x2] (hf:=(by simp only [DF,YE];omega))) ?_)))))
  rintro _ _ ⟨v2,rfl,rfl⟩
  refine UT 2 2 [] [(28,Ze ([us,x2].flatten))] (ZF 9 (W4 9 [] [] [] (ih x1 ([us,x2].flatten) ob (by simp only [DF,YE];omega) ob (by rw [DF];exact Dd hnn hxn)) (Zo 0 1 [10] (de (Yt (Wa [1,3,4,13,14,15,16] [(41,.b ((decide ((Yv n ([us,x2].flatten) x1)<0))||((decide ((k:Int)>0))&&((Yv n ([us,x2].flatten) x1) != t))))] (fun gz=>gz) ?_ ?_))))))
  ·refine Z1 3 (ib (b:=(decide ((Yv n ([us,x2].flatten) x1)<0))) 33 (fun Zc=>?_) (fun Zc=>?_))
   ·exact Z0 (Y5 4 (Zq true Zc fl))
   refine Z1 3 (ib (b:=(decide ((k:Int)>0))) 36 (fun ZD=>?_) (fun ZD=>?_))
   ·exact Z0 (Y5 4 (Zq ((Yv n ([us,x2].flatten) x1) != t) (And.intro Zc ZD) fl))
   exact Z0 (Y5 4 (Zq false (And.intro Zc ZD) fl))
  refine ac ((decide ((Yv n ([us,x2].flatten) x1)<0))||((decide ((k:Int)>0))&&((Yv n ([us,x2].flatten) x1) != t))) (p:=((Yv n ([us,x2].flatten) x1)<0)∨(((k:Int)>0)/\((Yv n ([us,x2].flatten) x1)≠t))) (Yj dq (YD dq ZP)) (fun Zd=>?_) (fun Zd=>?_)
  ·refine Zh ?_
   have hK:XP n us ks ms true 0=-1:=by rw [<-Zz];rw [DF] at Zd;exact OL Z2 Zt Zd
   exact ZG (r2 [] [.i (-1),.b false] ⟨rfl,rfl⟩ (Zm.tup (.cons (li (by rw [hK])) (.cons (lb (by rw [hK];rfl)) .nil))))
  exact ak (Qo (az (ZK k (Z0 (ZJ ⟨k+1,Yv n ([us,x2].flatten) x1,ob,(by intro _;omega),(by rw [DF] at Zd ⊢;rw [<-Zz];exact (OO Z2 Zt Zd).symm),rfl,rfl,rfl⟩ (wk [3] (fr (ZL k fl))))))))
 refine ax 0 (Zh ?_)
 have hK:XP n us ks ms true 0=t:=by rw [<-Zz];exact OM om
 exact ZG (r2 [] [.i t,.b true] ⟨rfl,rfl⟩ (Zm.tup (.cons (li (by rw [hK])) (.cons (lb (by rw [hK];exact (decide_eq_true (Z9 om)).symm)) .nil))))
theorem On (n:Zj) (us:LI) (s:Z7) (hn:YZ n:=by exact ob) (hty:QC n:=by exact ob) (hnn:∀t∈us,0<=t) (hb:us.length+4*s.sz<=1000000000:=by exact ob) (hr:s.rng:=by exact ob) (ih:∀(b:Zf) (us:LI),(b.sz<s.sz)->(us.length+4*b.sz<=1000000000)->(b.rng)->(∀t∈us,0<=t)->Za 154 [.agg [ZI n.decls,Yr n],Ze us,YG b] [] (ZQ (.i (Yv n us b)))):Za 208 [.agg [ZI n.decls,Yr n],Ze us,XS s] [] (fun r h=>∃(t:Int),r=.tup [.i t,.b (decide (0<=ZT n us s))]/\h=[]/\(¬YT s.op=true->0<=ZT n us s->t=ZT n us s)):=by
 have Wy:=hn.decls
 have hkz:=Qq s
 have haz:=Ad s
 have hse:=s.sz_eq
 rw [s.rng_eq] at hr
 obtain ⟨hnum,hkr⟩:=hr
 refine Zx 233 Tryz.func208 (ar (iA [ZI n.decls,Yr n] fun b1=>iA (WT s) fun b2=>Z0 (ZB 2 [0] (iw (Yn s.args) (iM 0 s.args.length fun v1=>?_)))))
 refine Z0 (Yp 2 [1] (iw (Yn s.args) (Z0 (ab 0 (ZU (fun fz gz m F h=>∃(k:Nat) (ts:LI) (v:Value),(k<=s.args.length)/\(ts.length=k)/\(XU us (s.args.take k)=some ts)/\F=sF [1,3,5,20,21] fz [(8,ZY ts v),(22,.i k)]/\h=[Zy gz 1,Zy gz 2,.tail v 1]/\m=s.args.length-k) _ _ _ ⟨0,[],v1,ob,ob,ob,rfl,rfl,rfl⟩ (wk [1,1,0] (fr (ZW fl))) ?_)))))
 rintro m F h ⟨k,ts,v,Y0,Z9,Zz,rfl,rfl,rfl⟩
 refine Zh (aq (Xi ((k:Int)<(s.args.length:Int)) (fun Z5=>?_) (fun Z5=>?_)))
 ·refine ak (aq (ab 1 (ar ?_)))
  obtain ⟨x1,Z2⟩:=Zv s.args k om
  refine Zi (Zr none (k:Int) 1 (Yf Z2)) (Z0 (Yt (Wa [1,3,5,8,10,20,21,22] [(33,.b ((decide (x1<0))||(decide (x1>=(us.length:Int)))))] (fun gz=>gz) ?_ ?_)))
  ·refine Z1 3 (ib (b:=(decide (x1<0))) 28 (fun Zc=>?_) (fun Zc=>?_))
   ·have Yd:x1<0:=(dq).1 Zc
    exact Z0 (Y5 3 (Zq true Zc fl))
   have YX:¬(x1<0):=Y3 dq Zc
   exact Z1 2 (iw (Yn us) (Z0 (Y5 3 (Zq (decide (x1>=(us.length:Int))) Zc fl))))
  refine ac ((decide (x1<0))||(decide (x1>=(us.length:Int)))) (p:=(x1<0)∨(x1>=(us.length:Int))) (Yj dq dq) (fun Zd=>?_) (fun Zd=>?_)
  ·refine Zh ?_
   have hS:ZT n us s=-1:=Ze5 (Mk Z2 (QI om))
   exact ZG (r2 [] [.i (-1),.b false] ⟨(-1),rfl,rfl,(by intro _ h;rw [hS] at h;omega)⟩ (Zm.tup (.cons (lr _) (.cons (lb (by rw [hS];rfl)) .nil))))
  refine ak (az (Z1 3 ?_))
  obtain ⟨x2,Zt⟩:=Zv us x1.toNat om
  exact Zi (Zr none x1 1 (Yf Zt)) (Z1 1 (iL (Zk [x2]) 1 1 fun v2=>W2 0 [(39,Ze [x2])] (ip 3 (Zk (ts++[x2])) (Zk ts) (Zk [x2]) v none 1 (Wv _) (Wv _) (Q3 _) (by simp<;>omega) (by simp [Q2,Zk]) fun v3=>Z0 (az (ZK k (Z0 (ZJ ⟨k+1,(ts++[x2]),v3,ob,ob,(Z0v Zz Z2 (by rw [TC om Zt])),rfl,rfl,rfl⟩ (wk [2,2,0] (fr (ZL k fl))))))))))
 refine ax 0 (Yt (Wa [1,3,5,8] [(70,.b ((s.into != 0)&&((s.op != 6)||((decide (s.into<1))||((decide (s.into>(us.length:Int)))||((gI us (s.into-1))==0))))))] (fun gz=>gz) ?_ ?_))
 ·refine Y6 4 [0] (ib (b:=(s.into != 0)) 45 (fun ZD=>?_) (fun ZD=>?_))
  ·have XB:s.into≠0:=(ZP).1 ZD
   refine Y6 4 [0] (ib (b:=(s.op != 6)) 49 (fun Yq=>?_) (fun Yq=>?_))
   ·have XH:s.op≠6:=(ZP).1 Yq
    exact Z0 (Y5 3 (Zq true (And.intro ZD Yq) fl))
   have VT:¬(s.op≠6):=Y3 ZP Yq
   refine Y6 5 [0] (ib (b:=(decide (s.into<1))) 54 (fun Xg=>?_) (fun Xg=>?_))
   ·have Uu:s.into<1:=(dq).1 Xg
    exact Z0 (Y5 3 (Zq true (And.intro ZD (And.intro Yq Xg)) fl))
   have T1:¬(s.into<1):=Y3 dq Xg
   refine Y6 3 [0] (iw (Yn us) (Z1 3 (ib (b:=(decide (s.into>(us.length:Int)))) 61 (fun WG=>?_) (fun WG=>?_))))
   ·have Tj:s.into>(us.length:Int):=(dq).1 WG
    exact Z0 (Y5 3 (Zq true (And.intro ZD (And.intro Yq (And.intro Xg WG))) fl))
   have Qp:¬(s.into>(us.length:Int)):=Y3 dq WG
   exact Y6 3 [0] (ia ((s.into-1)) ((s.into)-(1)) (Zi (JV (es:=Zk us) (hv:=none) (j:=(s.into-1)) (sz:=1) (y:=.i (gI us (s.into-1))) kr om (Yf (NY om)) rfl) (Z0 (Y5 3 (Zq ((gI us (s.into-1))==0) (And.intro ZD (And.intro Yq (And.intro Xg WG))) fl)))))
  have Ke:¬(s.into≠0):=Y3 ZP ZD
  exact Z0 (Y5 3 (Zq false ZD fl))
 refine ac ((s.into != 0)&&((s.op != 6)||((decide (s.into<1))||((decide (s.into>(us.length:Int)))||((gI us (s.into-1))==0))))) (p:=(s.into≠0)/\((s.op≠6)∨((s.into<1)∨((s.into>(us.length:Int))∨((gI us (s.into-1))=0))))) (YD ZP (Yj ZP (Yj dq (Yj dq Zs)))) (fun Zw=>?_) (fun Zw=>?_)
 ·refine Zh ?_
  have hS:ZT n us s=-1:=Ze6 (JK.1 Zw)
  exact ZG (r2 [] [.i (-1),.b false] ⟨(-1),rfl,rfl,(by intro _ h;rw [hS] at h;omega)⟩ (Zm.tup (.cons (lr _) (.cons (lb (by rw [hS];rfl)) .nil))))
 refine ak (aq (ab 2 (ZB 2 [0] (ZC [] (EM s.op) (Yw (YT s.op) Iff.rfl (fun Yg=>?_) (fun Yg=>?_))))))
 ·refine ZM 1 (iw (Yn ts) (XC 9 [3,5,8] [(83,.b (((ts.length:Int)==1)&&((gI ts 0) != 0)))] (fun gz=>gz) ?_ (fun hj1=>?_)))
  ·refine XC 14 [3,5,8] [(88,.b ((((ts.length:Int)==1)&&((gI ts 0) != 0))&&(s.num==0)))] (fun gz=>gz) ?_ (fun hj2=>?_)
   ·refine XC 20 [3,5,8] [(94,.b (((((ts.length:Int)==1)&&((gI ts 0) != 0))&&(s.num==0))&&((s.kids.length:Int)==0)))] (fun gz=>gz) ?_ (fun hj3=>?_)
    ·refine Z0 (Yt (Wa [3,8,11] [(105,.b ((((((ts.length:Int)==1)&&((gI ts 0) != 0))&&(s.num==0))&&((s.kids.length:Int)==0))&&((s.op==16)||(s.op==17))))] (fun gz=>gz) ?_ ?_))
     ·refine Z1 2 (ib (b:=(((((ts.length:Int)==1)&&((gI ts 0) != 0))&&(s.num==0))&&((s.kids.length:Int)==0))) 96 (fun Ve=>?_) (fun Ve=>?_))
      ·have JH:((((ts.length:Int)=1)/\((gI ts 0)≠0))/\(s.num=0))/\((s.kids.length:Int)=0):=((YD (YD (YD Zs ZP) Zs) Zs)).1 Ve
       refine Y6 4 [0] (ib (b:=(s.op==16)) 100 (fun VC=>?_) (fun VC=>?_))
       ·have Am:s.op=16:=(Zs).1 VC
        exact Z0 (Y5 3 (Zq true (And.intro Ve VC) fl))
       have EH:¬(s.op=16):=Y3 Zs VC
       exact Vv [0] (Y5 3 (Zq (s.op==17) (And.intro Ve VC) fl))
      have EI:¬(((((ts.length:Int)=1)/\((gI ts 0)≠0))/\(s.num=0))/\((s.kids.length:Int)=0)):=Y3 (YD (YD (YD Zs ZP) Zs) Zs) Ve
      exact Z0 (Y5 3 (Zq false Ve fl))
     refine ac ((((((ts.length:Int)==1)&&((gI ts 0) != 0))&&(s.num==0))&&((s.kids.length:Int)==0))&&((s.op==16)||(s.op==17))) (p:=(((((ts.length:Int)=1)/\((gI ts 0)≠0))/\(s.num=0))/\((s.kids.length:Int)=0))/\((s.op=16)∨(s.op=17))) (YD (YD (YD (YD Zs ZP) Zs) Zs) (Yj Zs Zs)) (fun Xp=>?_) (fun Xp=>?_)
     ·refine aD 12 (Ya 9 12 [0,1,2] [1] (dx 3 (JV (es:=Zk ts) (hv:=some v) (j:=0) (sz:=1) (y:=.i (gI ts 0)) kr om (Yf (Ez om)) rfl) (Zo 7 8 [4] (GX (fun fz gz F h=>F=sF [] fz [(13,.b (XO n.decls (gI ts 0)))]/\h=gz) ?_ ?_))))
      ·refine H0 5 9 ?_ ?_
       ·exact W4 5 [] [] [] (EL n.decls (gI ts 0)) (Zo 3 6 [6,7,8] (ZF 9 (dA 9 [] [] [.i 0,.i 0,nl] fun b3=>ZF 10 (UC 10 0 [] [] b3 (Uh (Vs n.decls (gI ts 0))) (Zo 0 1 [11] (de (Xo ⟨rfl,rfl⟩ (wk [1,1,1] fl))))))))
       exact dA 9 [1] [b1] [.i 0,.i 0,nl] fun b4=>ZF 5 (W4 5 [] [] [] (EL n.decls (gI ts 0)) (Zo 2 5 [6,7,8] (ZF 10 (UC 10 0 [] [] b4 (Uh (Vs n.decls (gI ts 0))) (Zo 0 1 [11] (de (Xo ⟨rfl,rfl⟩ (wk [1,1,1] fl))))))))
      rintro F h ⟨rfl,rfl⟩
      refine Qo (Zh ?_)
      have hS0:=AJ (n:=n) hnn (Ac Zz om) (fun q=>Zw (JK.2 q))
      exact ZG (r2 [] [.i (-1),.b (!XO n.decls (gI ts 0))] ⟨(-1),rfl,rfl,(fun q=>absurd Yg q)⟩ (Zm.tup (.cons (lr _) (.cons (lb (Zdl hS0 Yg Xp)) .nil))))
     refine ak (Zh ?_)
     have hS0:=AJ (n:=n) hnn (Ac Zz om) (fun q=>Zw (JK.2 q))
     exact ZG (r2 [] [.i (-1),.b (((((ts.length:Int)==1)&&((gI ts 0) != 0))&&(s.num==0))&&((s.kids.length:Int)==0))] ⟨(-1),rfl,rfl,(fun q=>absurd Yg q)⟩ (Zm.tup (.cons (lr _) (.cons (lb (Zdm hS0 Yg Xp)) .nil))))
    refine Z1 1 (ib (b:=((((ts.length:Int)==1)&&((gI ts 0) != 0))&&(s.num==0))) 89 (fun Vn=>?_) (fun Vn=>?_))
    ·have BT:(((ts.length:Int)=1)/\((gI ts 0)≠0))/\(s.num=0):=((YD (YD Zs ZP) Zs)).1 Vn
     exact Y6 2 [0] (iw (Uf s.kids) (Z1 2 (Ye (Y5 3 (Zq ((s.kids.length:Int)==0) Vn fl)) hj3)))
    have BU:¬((((ts.length:Int)=1)/\((gI ts 0)≠0))/\(s.num=0)):=Y3 (YD (YD Zs ZP) Zs) Vn
    exact Z1 5 (Ye (Y5 3 (Zq false Vn fl)) hj3)
   refine Z1 1 (ib (b:=(((ts.length:Int)==1)&&((gI ts 0) != 0))) 84 (fun Vo=>?_) (fun Vo=>?_))
   ·have EJ:((ts.length:Int)=1)/\((gI ts 0)≠0):=((YD Zs ZP)).1 Vo
    exact Y6 4 [0] (Ye (Y5 3 (Zq (s.num==0) Vo fl)) hj2)
   have EK:¬(((ts.length:Int)=1)/\((gI ts 0)≠0)):=Y3 (YD Zs ZP) Vo
   exact Z1 4 (Ye (Y5 3 (Zq false Vo fl)) hj2)
  refine Z1 2 (ib (b:=((ts.length:Int)==1)) 78 (fun KJ=>?_) (fun KJ=>?_))
  ·have Z5n:(ts.length:Int)=1:=(Zs).1 KJ
   exact Z1 1 (Zi (JV (es:=Zk ts) (hv:=some v) (j:=0) (sz:=1) (y:=.i (gI ts 0)) kr om (Yf (Ez om)) rfl) (Z1 3 (Ye (Y5 3 (Zq ((gI ts 0) != 0) KJ fl)) hj1)))
  have Z5o:¬((ts.length:Int)=1):=Y3 Zs KJ
  exact Z1 5 (Ye (Y5 3 (Zq false KJ fl)) hj1)
 refine JE [0] (ac (s.op==7) Zs (fun Wf=>?_) (fun Wf=>?_))
 ·refine Yb 1 (iw (Yn ts) (XC 9 [1,3,5] [(130,.b (((ts.length:Int) != 1)||((gI ts 0) != 0)))] (fun gz=>gz) ?_ (fun hj4=>?_)))
  ·refine XC 14 [1,3,5] [(135,.b ((((ts.length:Int) != 1)||((gI ts 0) != 0))||(s.num != 0)))] (fun gz=>gz) ?_ (fun hj5=>?_)
   ·refine Wa [1,3,5] [(141,.b (((((ts.length:Int) != 1)||((gI ts 0) != 0))||(s.num != 0))||((s.kids.length:Int) != 2)))] (fun gz=>gz) ?_ ?_
    ·refine Z1 1 (ib (b:=((((ts.length:Int) != 1)||((gI ts 0) != 0))||(s.num != 0))) 136 (fun CV=>?_) (fun CV=>?_))
     ·have Zfv:(((ts.length:Int)≠1)∨((gI ts 0)≠0))∨(s.num≠0):=((Yj (Yj ZP ZP) ZP)).1 CV
      exact Z0 (Y5 3 (Zq true CV fl))
     have Zfw:¬((((ts.length:Int)≠1)∨((gI ts 0)≠0))∨(s.num≠0)):=Y3 (Yj (Yj ZP ZP) ZP) CV
     exact Y6 2 [0] (iw (Uf s.kids) (Z0 (Y5 3 (Zq ((s.kids.length:Int) != 2) CV fl))))
    refine ac (((((ts.length:Int) != 1)||((gI ts 0) != 0))||(s.num != 0))||((s.kids.length:Int) != 2)) (p:=((((ts.length:Int)≠1)∨((gI ts 0)≠0))∨(s.num≠0))∨((s.kids.length:Int)≠2)) (Yj (Yj (Yj ZP ZP) ZP) ZP) (fun T0=>?_) (fun T0=>?_)
    ·refine Zh ?_
     have hS0:=AJ (n:=n) hnn (Ac Zz om) (fun q=>Zw (JK.2 q))
     have hS:=Zdh hS0 Yg Wf T0
     exact ZG (r2 [] [.i (-1),.b false] ⟨(-1),rfl,rfl,(by intro _ h;rw [hS] at h;omega)⟩ (Zm.tup (.cons (lr _) (.cons (lb (by rw [hS];rfl)) .nil))))
    refine ak (aD 10 (Ya 6 10 [0,1,2,3] [1,0] (ZF 4 (dMN 4 [0,1] [b2,b1] 2 2 fun v4=>UT 5 5 [] [(146,Av (List.replicate 2 []))] (ZF 5 (W4 5 [] [] [] (Om n us s.kids (List.replicate 2 []) (hnn:=hnn) (hm3:=(by intro m hm;first|(rw [Ck hm];simp;done)|(obtain ⟨c,_,rfl⟩:=Xe.1 hm;exact TZ Wy c))) (hmn:=(by intro m hm f hf;first|(rw [Ck hm] at hf;simp at hf;done)|(obtain ⟨c,_,rfl⟩:=Xe.1 hm;exact hty.fields c f hf))) (ih:=(fun b us2 h1 h2 h3 h4=>ih b us2 om h2 h3 h4))) (Zo 0 4 [6,7,8,9] (de ?_))))))))
    have hS0:=AJ (n:=n) hnn (Ac Zz om) (fun q=>Zw (JK.2 q))
    have hS:=Zdi hS0 Yg Wf T0
    exact ZG (r2 [] [.i (XP n us s.kids (List.replicate 2 []) true 0),.b (decide (0<=XP n us s.kids (List.replicate 2 []) true 0))] ⟨XP n us s.kids (List.replicate 2 []) true 0,rfl,rfl,(fun _ _=>hS.symm)⟩ (Zm.tup (.cons (lr _) (.cons (lb (by rw [hS])) .nil))))
   refine Z1 1 (ib (b:=(((ts.length:Int) != 1)||((gI ts 0) != 0))) 131 (fun CW=>?_) (fun CW=>?_))
   ·have Zfx:((ts.length:Int)≠1)∨((gI ts 0)≠0):=((Yj ZP ZP)).1 CW
    exact Z1 4 (Ye (Y5 3 (Zq true CW fl)) hj5)
   have Zfy:¬(((ts.length:Int)≠1)∨((gI ts 0)≠0)):=Y3 (Yj ZP ZP) CW
   exact Y6 4 [0] (Ye (Y5 3 (Zq (s.num != 0) CW fl)) hj5)
  refine Z1 2 (ib (b:=((ts.length:Int) != 1)) 125 (fun CX=>?_) (fun CX=>?_))
  ·have Zfz:(ts.length:Int)≠1:=(ZP).1 CX
   exact Z1 5 (Ye (Y5 3 (Zq true CX fl)) hj4)
  have Zg0:¬((ts.length:Int)≠1):=Y3 ZP CX
  exact Z1 1 (Zi (JV (es:=Zk ts) (hv:=some v) (j:=0) (sz:=1) (y:=.i (gI ts 0)) kr om (Yf (Ez om)) rfl) (Z1 3 (Ye (Y5 3 (Zq ((gI ts 0) != 0) CX fl)) hj4)))
 refine JE [0] (ac (s.op==8) Zs (fun VD=>?_) (fun VD=>?_))
 ·refine ZB 3 [1,0] (ZC [] (Ol _ s.num) (Z0 (aq (aD 24 (Zo 23 24 [0] (dw 1 (Yn ts) (Jw [1,3,5,14] [(181,.b (((ts.length:Int) != 1)||(((gI ts 0) != s.num)||((((((YB n.decls s.num).map (Y1 n.decls)).length:Nat):Int)==0)||((s.kids.length:Int) != ((((YB n.decls s.num).map (Y1 n.decls)).length:Nat):Int))))))] (fun gz=>gz) ?_ ?_)))))))
  ·refine Zo 20 22 [2,3] (db (b:=((ts.length:Int) != 1)) 161 (fun B3=>?_) (fun B3=>?_))
   ·have Zg1:(ts.length:Int)≠1:=(ZP).1 B3
    exact Zo 0 20 [4,5,6,7,8,9,10,11,12,13,14,15,16,17,18,19,20,21,22,23] (de (Y5 3 (Zq true B3 fl)))
   have Zg2:¬((ts.length:Int)≠1):=Y3 ZP B3
   refine Zo 19 20 [4] (dx 5 (JV (es:=Zk ts) (hv:=some v) (j:=0) (sz:=1) (y:=.i (gI ts 0)) kr om (Yf (Ez om)) rfl) (Ya 12 18 [6,7,8,9,10,11] [0] (db (b:=((gI ts 0) != s.num)) 169 (fun BQ=>?_) (fun BQ=>?_))))
   ·have Zg3:(gI ts 0)≠s.num:=(ZP).1 BQ
    exact Zo 0 12 [12,13,14,15,16,17,18,19,20,21,22,23] (de (Y5 3 (Zq true (And.intro B3 BQ) fl)))
   have Zg4:¬((gI ts 0)≠s.num):=Y3 ZP BQ
   refine Zo 11 12 [12] (dn 13 (.i ((((YB n.decls s.num).map (Y1 n.decls)).length:Nat):Int)) (.i (((Ug ((YB n.decls s.num).map (Y1 n.decls))).length:Nat):Int)) (li (by rw [Es])) (Zo 7 10 [14,15,16] (db (b:=(((((YB n.decls s.num).map (Y1 n.decls)).length:Nat):Int)==0)) 174 (fun CY=>?_) (fun CY=>?_))))
   ·have Zg5:((((YB n.decls s.num).map (Y1 n.decls)).length:Nat):Int)=0:=(Zs).1 CY
    exact Zo 0 7 [17,18,19,20,21,22,23] (de (Y5 3 (Zq true (And.intro B3 (And.intro BQ CY)) fl)))
   have Zg6:¬(((((YB n.decls s.num).map (Y1 n.decls)).length:Nat):Int)=0):=Y3 Zs CY
   exact Ya 5 7 [17,18] [0] (dw 19 (Uf s.kids) (Zo 3 4 [20] (dn 21 (.i ((((YB n.decls s.num).map (Y1 n.decls)).length:Nat):Int)) (.i (((Ug ((YB n.decls s.num).map (Y1 n.decls))).length:Nat):Int)) (li (by rw [Es])) (Zo 0 2 [22,23] (de (Y5 3 (Zq ((s.kids.length:Int) != ((((YB n.decls s.num).map (Y1 n.decls)).length:Nat):Int)) (And.intro B3 (And.intro BQ CY)) fl)))))))
  refine ac (((ts.length:Int) != 1)||(((gI ts 0) != s.num)||((((((YB n.decls s.num).map (Y1 n.decls)).length:Nat):Int)==0)||((s.kids.length:Int) != ((((YB n.decls s.num).map (Y1 n.decls)).length:Nat):Int))))) (p:=((ts.length:Int)≠1)∨(((gI ts 0)≠s.num)∨((((((YB n.decls s.num).map (Y1 n.decls)).length:Nat):Int)=0)∨((s.kids.length:Int)≠((((YB n.decls s.num).map (Y1 n.decls)).length:Nat):Int))))) (Yj ZP (Yj ZP (Yj Zs ZP))) (fun T9=>?_) (fun T9=>?_)
  ·refine Zh ?_
   have hS0:=AJ (n:=n) hnn (Ac Zz om) (fun q=>Zw (JK.2 q))
   have hS:=Zdj hS0 Yg Wf VD T9
   exact ZG (r2 [] [.i (-1),.b false] ⟨(-1),rfl,rfl,(by intro _ h;rw [hS] at h;omega)⟩ (Zm.tup (.cons (lr _) (.cons (lb (by rw [hS];rfl)) .nil))))
  refine ak (ZB 5 [1,0] (ZC [] (Om n us s.kids ((YB n.decls s.num).map (Y1 n.decls)) (hnn:=hnn) (hm3:=(by intro m hm;first|(rw [Ck hm];simp;done)|(obtain ⟨c,_,rfl⟩:=Xe.1 hm;exact TZ Wy c))) (hmn:=(by intro m hm f hf;first|(rw [Ck hm] at hf;simp at hf;done)|(obtain ⟨c,_,rfl⟩:=Xe.1 hm;exact hty.fields c f hf))) (ih:=(fun b us2 h1 h2 h3 h4=>ih b us2 om h2 h3 h4))) (Z0 ?_)))
  have hS0:=AJ (n:=n) hnn (Ac Zz om) (fun q=>Zw (JK.2 q))
  have hS:=Zdk hS0 Yg Wf VD T9
  exact ZG (r2 [] [.i (XP n us s.kids ((YB n.decls s.num).map (Y1 n.decls)) true 0),.b (decide (0<=XP n us s.kids ((YB n.decls s.num).map (Y1 n.decls)) true 0))] ⟨XP n us s.kids ((YB n.decls s.num).map (Y1 n.decls)) true 0,rfl,rfl,(fun _ _=>hS.symm)⟩ (Zm.tup (.cons (lr _) (.cons (lb (by rw [hS])) .nil))))
 refine ZB 2 [0] (iw (Uf s.kids) (XC 33 [3,5,8] [(223,.b ((decide ((s.kids.length:Int)>0))||((s.op==10)&&((decide (s.num>=0))&&((decide (s.num<(((n.routines.map Xq).length:Nat):Int)))&&(decide (((((U9 n s.num).lnt).length:Nat):Int)>0)))))))] (fun gz=>gz) ?_ (fun hj6=>?_)))
 ·refine Yw ((decide ((s.kids.length:Int)>0))||((s.op==10)&&((decide (s.num>=0))&&((decide (s.num<(((n.routines.map Xq).length:Nat):Int)))&&(decide (((((U9 n s.num).lnt).length:Nat):Int)>0)))))) (p:=((s.kids.length:Int)>0)∨((s.op=10)/\((s.num>=0)/\((s.num<(((n.routines.map Xq).length:Nat):Int))/\(((((U9 n s.num).lnt).length:Nat):Int)>0))))) (Yj dq (YD Zs (YD dq (YD dq dq)))) (fun Tu=>?_) (fun Tu=>?_)
  ·refine Zh ?_
   have hS0:=AJ (n:=n) hnn (Ac Zz om) (fun q=>Zw (JK.2 q))
   have hS:=stB hS0 Yg Wf VD Tu
   exact ZG (r2 [] [.i (-1),.b false] ⟨(-1),rfl,rfl,(by intro _ h;rw [hS] at h;omega)⟩ (Zm.tup (.cons (lr _) (.cons (lb (by rw [hS];rfl)) .nil))))
  refine ak (ar (IJ 6 [(229,Ze ts)] [1,0,0] (ic [] (Z6u _ s.op s.num ts) ?_)))
  rintro _ _ ⟨t1,rfl,rfl,Z5p⟩
  refine Z0 ?_
  have hS0:=AJ (n:=n) hnn (Ac Zz om) (fun q=>Zw (JK.2 q))
  have hS:=stS hS0 Yg Wf VD Tu
  exact ZG (r2 [] [.i t1,.b ((Xd n s.op s.num ts).isSome)] ⟨t1,rfl,rfl,(Zdo hS Z5p)⟩ (Zm.tup (.cons (lr _) (.cons (lb (Zdn hty hS)) .nil))))
 refine Z1 2 (ib (b:=(decide ((s.kids.length:Int)>0))) 195 (fun Ak=>?_) (fun Ak=>?_))
 ·have Zg7:(s.kids.length:Int)>0:=(dq).1 Ak
  exact Z1 28 (Ye (Y5 3 (Zq true Ak fl)) hj6)
 have Zg8:¬((s.kids.length:Int)>0):=Y3 dq Ak
 refine Y6 4 [0] (ib (b:=(s.op==10)) 199 (fun B4=>?_) (fun B4=>?_))
 ·have Zg9:s.op=10:=(Zs).1 B4
  refine Y6 5 [0] (ib (b:=(decide (s.num>=0))) 204 (fun BR=>?_) (fun BR=>?_))
  ·have Zga:s.num>=0:=(dq).1 BR
   refine Y6 4 [0,1] (io (.i (((n.routines.map Xq).length:Nat):Int)) (.i (((UW (n.routines.map Xq)).length:Nat):Int)) (li (by rw [CM])) (Z1 3 (ib (b:=(decide (s.num<(((n.routines.map Xq).length:Nat):Int)))) 212 (fun CZ=>?_) (fun CZ=>?_))))
   ·have Zgb:s.num<(((n.routines.map Xq).length:Nat):Int):=(dq).1 CZ
    exact Y6 4 [1,0] (Zi (JV (es:=UW (n.routines.map Xq)) (hv:=none) (j:=s.num) (sz:=3) (y:=DV (U9 n s.num)) kr om (B2 (Rx om)) rfl) (Z1 2 (io (.i ((((U9 n s.num).lnt).length:Nat):Int)) (.i (((Zk ((U9 n s.num).lnt)).length:Nat):Int)) (li (by rw [Yn])) (Z1 3 (Ye (Y5 3 (Zq (decide (((((U9 n s.num).lnt).length:Nat):Int)>0)) (And.intro Ak (And.intro B4 (And.intro BR CZ))) fl)) hj6)))))
   have Zgc:¬(s.num<(((n.routines.map Xq).length:Nat):Int)):=Y3 dq CZ
   exact Z1 11 (Ye (Y5 3 (Zq false (And.intro Ak (And.intro B4 (And.intro BR CZ))) fl)) hj6)
  have Zgd:¬(s.num>=0):=Y3 dq BR
  exact Z1 19 (Ye (Y5 3 (Zq false (And.intro Ak (And.intro B4 BR)) fl)) hj6)
 have Zge:¬(s.op=10):=Y3 Zs B4
 exact Z1 24 (Ye (Y5 3 (Zq false (And.intro Ak B4) fl)) hj6)
theorem Z6e (n:Zj) (us:LI) (b:Zf) (hn:YZ n) (hnn:∀t∈us,0<=t) (hb:us.length+4*b.sz<=1000000000) (hr:b.rng) (ih:∀(s:Z7) (us:LI),(s.sz<b.sz)->(us.length+4*s.sz<=1000000000)->(s.rng)->(∀t∈us,0<=t)->Za 208 [.agg [ZI n.decls,Yr n],Ze us,XS s] [] (fun r h=>∃(t:Int),r=.tup [.i t,.b (decide (0<=ZT n us s))]/\h=[]/\(¬YT s.op=true->0<=ZT n us s->t=ZT n us s))):Za 154 [.agg [ZI n.decls,Yr n],Ze us,YG b] [] (ZQ (.i (Yv n us b))):=by
 have hbz:=JW b
 have hbe:=E2 n us b
 rw [b.rng_eq] at hr
 refine Zx 54 Tryz.func154 (ar (iA [ZI n.decls,Yr n] fun b1=>iA (VE b) fun b2=>Z0 (ZM 1 (ic [] (CC us) ?_))))
 rintro _ _ ⟨v1,rfl,rfl⟩
 refine Z0 (Yp 2 [1] (iw (T8 b.steps) (Z0 (ab 0 (ZU (fun fz gz m F h=>∃(k:Nat) (vs:LI) (v:Value),(k<=b.steps.length)/\(vs.length<=us.length+k)/\(∀t∈vs,0<=t)/\(Xu n (b.steps.drop k) vs=Xu n b.steps us)/\F=sF [3,5,15,16] fz [(7,ZY vs v),(17,.i k)]/\h=[Zy gz 1,Zy gz 2,.tail v 1]/\m=b.steps.length-k) _ _ _ ⟨0,us,v1,ob,ob,ob,ob,rfl,rfl,rfl⟩ (wk [1,1,0] (fr (ZW fl))) ?_)))))
 rintro m F h ⟨k,vs,v,Y0,Z9,Zz,Y8,rfl,rfl,rfl⟩
 refine Zh (aq (Xi ((k:Int)<(b.steps.length:Int)) (fun Z5=>?_) (fun Z5=>?_)))
 ·refine ak (aq (ab 1 (ar ?_)))
  obtain ⟨x1,Z2⟩:=Zv b.steps k om
  have hss:=FE Z2
  have hsr:=Lg hr Z2
  refine Zi (Zr none (k:Int) 5 (U7 Z2)) (Z1 1 (iA [.i 0,.i 0,.i 0,nl,nl] fun b3=>Y4 0 b3 (WT x1) (ie (ar (IJ 3 [(23,Ze vs)] [2,0] (ic [] (ih x1 vs ob ob ob ob) ?_))))))
  rintro _ _ ⟨t1,rfl,rfl,Yd⟩
  refine Z0 (Yt (Yw (!decide (0<=ZT n vs x1)) (p:=¬(decide (0<=ZT n vs x1)=true)) (Yl Iff.rfl) (fun Zd=>?_) (fun Zd=>?_)))
  ·exact ar (Z8 (Zp (.i (-1)) (li (by rw [hbe,<-Y8,Ze8 Z2 (fun q=>Zd (decide_eq_true q)) rfl]))))
  refine ak (ZB 2 [0] (ZC [] (EM x1.op) (Z0 (Eg (fun fz gz F h=>∃(w:Value),F=sF [3,5,15,16,17] fz [(7,ZY (if YT x1.op=true then vs else vs++[t1]) w)]/\h=[Zy gz 1,Zy gz 2,.tail w 1]) (fun _ _=>rfl) ?_ ?_))))
  ·refine ac (!YT x1.op) (p:=¬(YT x1.op=true)) (Yl Iff.rfl) (fun Zw=>?_) (fun Zw=>?_)
   ·exact az (Z1 2 (iL (Zk [t1]) 1 1 fun v2=>W2 0 [(36,Ze [t1])] (ip 4 (Zk (vs++[t1])) (Zk vs) (Zk [t1]) v none 1 (Wv _) (Wv _) (Q3 _) (by simp<;>omega) (by simp [Q2,Zk]) fun v3=>Z0 (Xo ⟨v3,rfl,rfl⟩ (wk [3,3,0] (fc (x:=ZY (vs++[t1]) v3) (Zm.slh _ (Ys Zk (by first|rfl|(rw [Z6 Zw])|(rw [Z4 Zw])|(simp [Zw];done)|(rw [Wp];simp [Zw];done)|omega))) fl))))))
   exact ak (Xo ⟨v,rfl,rfl⟩ (wk [1,1,1] (fc (x:=ZY vs v) (Zm.slh _ (Ys Zk (by first|rfl|(rw [Z6 Zw])|(rw [Z4 Zw])|(simp [Zw];done)|(rw [Wp];simp [Zw];done)|omega))) fl)))
  rintro F h ⟨w,rfl,rfl⟩
  refine az (ZK k (Z0 ?_))
  have h0:0<=ZT n vs x1:=of_decide_eq_true (Ww.1 Zd)
  exact ZJ ⟨k+1,(if YT x1.op=true then vs else vs++[t1]),w,ob,(by split<;>(try simp)<;>omega),(Z9j Zz (fun q=>by rw [Yd q h0];exact h0)),(Ze7 Z2 h0 Yd Y8),rfl,rfl,rfl⟩ (Y5 3 (fr (ZL k fl)))
 refine ax 0 (Yt (Wa [5,7] [(48,.b ((decide (b.result<0))||(decide (b.result>=(vs.length:Int)))))] (fun gz=>gz) ?_ ?_))
 ·refine Y6 4 [0] (ib (b:=(decide (b.result<0))) 42 (fun Zc=>?_) (fun Zc=>?_))
  ·exact Z0 (Y5 3 (Zq true Zc fl))
  exact Y6 3 [0] (iw (Yn vs) (Z0 (Y5 3 (Zq (decide (b.result>=(vs.length:Int))) Zc fl))))
 refine ac ((decide (b.result<0))||(decide (b.result>=(vs.length:Int)))) (p:=(b.result<0)∨(b.result>=(vs.length:Int))) (Yj dq dq) (fun Yg=>?_) (fun Yg=>?_)
 ·exact ar (Z8 (Zp (.i (-1)) (li (by rw [hbe,<-Y8,YV om];show _=(YN vs b.result).getD (-1);rw [QI om];rfl))))
 refine ak (ZB 3 [0] ?_)
 obtain ⟨x2,Zt⟩:=Zv vs b.result.toNat om
 exact Zi (Zr (some v) b.result 1 (Yf Zt)) (Z8 (Zp (.i x2) (li (by rw [hbe,<-Y8,YV om];show _=(YN vs b.result).getD (-1);rw [TC om Zt];rfl))))
theorem Z6d (n:Zj) (hn:YZ n) (hty:QC n) (m:Nat):∀(b:Zf) (us:LI),(b.sz<=m)->(us.length+4*b.sz<=1000000000)->(b.rng)->(∀t∈us,0<=t)->Za 154 [.agg [ZI n.decls,Yr n],Ze us,YG b] [] (ZQ (.i (Yv n us b))):=by
 induction m with
 | zero=>intro b us h;have:=b.sz_pos;omega
 | succ m ih=>intro b us h1 h2 h3 h4;exact Z6e n us b hn h4 h2 h3 fun s us2 k1 k2 k3 k4=>On n us2 s hn hty k4 k2 k3 fun b2 us3 q1 q2 q3 q4=>ih b2 us3 om q2 q3 q4
theorem Oe (n:Zj) (us:LI) (b:Zf) (hn:YZ n) (hty:QC n) (hnn:∀t∈us,0<=t) (hb:us.length+4*b.sz<=1000000000) (hr:b.rng):Za 154 [.agg [ZI n.decls,Yr n],Ze us,YG b] [] (ZQ (.i (Yv n us b))):=
 Z6d n hn hty b.sz b us (X1 _) hb hr hnn
theorem Oc (n:Zj) (hz:WM n:=by exact ob) (hr:∀r∈n.routines,r.body.rng):Za 92 [X6 n] [] (ZQ (.b (XX n))):=by
 have hzl:=hz.len
 refine Zx 37 Tryz.func92 (ar (iA (Wb n) fun b1=>Z0 (ZB 1 [0] (ic [] (Ok n) ?_))))
 rintro _ _ (⟨rfl,rfl,Yd⟩|⟨rfl,rfl,YX⟩)
 ·refine Z1 3 (iA [nl,nl] fun b2=>Y4 0 b2 [ZI n.decls,Yr n] (Z0 (Yt (Yw (!Va n) (p:=¬(Va n=true)) (Yl Iff.rfl) (fun Z5=>?_) (fun Z5=>?_)))))
  ·exact ar (Z8 (Zp (.b false) (lb (by rw [XX,Jj.2 Z5];rfl))))
  have hsg:Va n=true:=by simpa using Z5
  have hok:=Ik hz hsg
  have hty:=Pp hsg
  refine ak (Yp 2 [1] (iw (UJ n.routines) (Z0 (ab 0 (ZU (fun fz gz m F h=>∃(k:Nat),(k<=n.routines.length)/\(Tz n (n.routines.drop k)=Tz n n.routines)/\F=sF [3,15,16] fz [(17,.i k)]/\h=[Zy gz 0]/\m=n.routines.length-k) _ _ _ ⟨0,ob,ob,rfl,rfl,rfl⟩ (wk [0] (ZW fl)) ?_)))))
  rintro m F h ⟨k,Y0,Z9,rfl,rfl,rfl⟩
  refine Zh (aq (Xi ((k:Int)<(n.routines.length:Int)) (fun Zd=>?_) (fun Zd=>?_)))
  ·refine ak (aq (ab 1 (ar ?_)))
   obtain ⟨x1,Z2⟩:=Zv n.routines k om
   have hrm:=YF Z2
   have D1:=hz.body _ hrm
   have hps:=hok.params_at Z2
   refine Zi (Zr none (k:Int) 5 (Us Z2)) (Z1 1 (iA [nl,nl,.i 0,nl,.i 0] fun b3=>Y4 0 b3 (TM x1) (ie (aD 15 (Ya 13 15 [0,1] [0] (ZF 2 (W4 2 [] [] [] (Z68 x1.body) (Jw [3,15,16,17] [(35,.b ((decide ((UM x1.body)<0))||((Yv n x1.params x1.body) != x1.result)))] (fun gz=>gz) ?_ ?_))))))))
   ·refine Zo 10 12 [3,4] (db (b:=(decide ((UM x1.body)<0))) 25 (fun Zc=>?_) (fun Zc=>?_))
    ·have XB:(UM x1.body)<0:=(dq).1 Zc
     exact Zo 0 10 [5,6,7,8,9,10,11,12,13,14] (de (wk [0,0] (Zq true Zc fl)))
    have XH:¬((UM x1.body)<0):=Y3 dq Zc
    exact Ya 3 10 [5,6,7,8,9,11,12] [1,0,0,0] (ZF 10 (W4 10 [] [0] [b3] (Oe n x1.params x1.body ob hty (hty.params _ hrm) ob (hr _ hrm)) (Zo 0 2 [13,14] (de (wk [0,0] (Zq ((Yv n x1.params x1.body) != x1.result) Zc fl))))))
   refine ac ((decide ((UM x1.body)<0))||((Yv n x1.params x1.body) != x1.result)) (p:=((UM x1.body)<0)∨((Yv n x1.params x1.body)≠x1.result)) (Yj dq ZP) (fun Zw=>?_) (fun Zw=>?_)
   ·refine Zh ?_
    rw [ZH Z2] at Z9
    exact ZG (Zp (.b false) (lb (by clear Z2;first|rfl|omega|grind [Tz,XX])))
   refine ak (az (ZK k (Z0 ?_)))
   have hdr:=ZH Z2
   exact ZJ ⟨k+1,ob,(by rw [hdr] at Z9;clear hdr Z2;grind [Tz]),rfl,rfl,rfl⟩ (wk [1] (ZL k fl))
  refine ax 0 (Zh ?_)
  try rw [YV (xs:=n.routines) (k:=k) om] at Z9
  exact ZG (Zp (.b true) (lb (by first|rfl|omega|grind [Tz,XX])))
 exact Z1 3 (iA [nl,nl] fun b4=>Y4 0 b4 [ZI [],C4 []] (Z0 (Ym (W7 (ar (Z8 (Zp (.b false) (lb (by rw [XX,‹Va n=false›];rfl)))))))))
theorem Z6a (a:YM) (hl:a.fds.length<=1000000:=by exact ob) (hf:0<=a.fst/\a.fst<=1000000000:=by exact ob):Za 292 [.agg [.i a.mat,.i a.fst,Ze a.fds,.b a.chg]] [] (ZQ (Ze (VN a.fds a.fst))):=by
 refine Zx 25 Tryz.func292 (ar (iA [.i a.mat,.i a.fst,Ze a.fds,.b a.chg] fun b1=>?_))
 refine Z0 (Zh (Yp 2 [0] (iw (Yn a.fds) (Z0 (ab 0 (TU 1 (ZU (fun fz gz m F h=>∃(k:Nat) (acc:LI) (v:Value),(k<=a.fds.length)/\(acc.length<=k)/\(acc++VN (a.fds.drop k) (a.fst+k)=VN a.fds a.fst)/\F=sF [1,7,8] fz [(3,ZY acc v),(9,.i k)]/\h=[Zy gz 1,.tail v 1]/\m=a.fds.length-k) _ _ _ ⟨0,[],(.slice none 0 0),ob,ob,ob,rfl,rfl,rfl⟩ (wk [1,0] (fc (x:=nl) (Zm.slh _ (by first|rfl|(subst_vars;rfl))) (ZW fl))) ?_)))))))
 rintro m F h ⟨k,acc,v,Y0,Z9,Zz,rfl,rfl,rfl⟩
 refine Zh (aq (Xi ((k:Int)<(a.fds.length:Int)) (fun Z5=>?_) (fun Z5=>?_)))
 ·refine ak (aq (ab 1 (ZM 1 ?_)))
  obtain ⟨x1,Z2⟩:=Zv a.fds k om
  refine Zi (Zr none (k:Int) 1 (Yf Z2)) (Z0 (Zh (Eg (fun fz gz F h=>∃(w:Value),F=sF [1,7,8,9] fz [(3,ZY (if x1≠0 then acc++[a.fst+k] else acc) w)]/\h=[Zy gz 0,.tail w 1]) (fun _ _=>rfl) ?_ ?_)))
  ·refine ac (x1 != 0) ZP (fun Zd=>?_) (fun Zd=>?_)
   ·exact az (Y6 4 [0] (ia ((a.fst+(k:Int))) ((a.fst)+((k:Int))) (iL (Zk [(a.fst+(k:Int))]) 1 1 fun v1=>W2 0 [(21,Ze [(a.fst+(k:Int))])] (ip 2 (Zk (acc++[(a.fst+(k:Int))])) (Zk acc) (Zk [(a.fst+(k:Int))]) v none 1 (Wv _) (Wv _) (Q3 _) (by simp<;>omega) (by simp [Q2,Zk]) fun v2=>Z0 (Xo ⟨v2,rfl,rfl⟩ (wk [2,0] (fc (x:=ZY (acc++[(a.fst+(k:Int))]) v2) (Zm.slh _ (Ys Zk (by first|rfl|(rw [Z6 Zd])|(rw [Z4 Zd])|(simp [Zd];done)|(rw [Wp];simp [Zd];done)|omega))) fl)))))))
   exact ak (Xo ⟨v,rfl,rfl⟩ (wk [0,0] (fc (x:=ZY acc v) (Zm.slh _ (Ys Zk (by first|rfl|(rw [Z6 Zd])|(rw [Z4 Zd])|(simp [Zd];done)|(rw [Wp];simp [Zd];done)|omega))) fl)))
  rintro F h ⟨w,rfl,rfl⟩
  exact az (ZK k (Z0 (ZJ ⟨k+1,(if x1≠0 then acc++[a.fst+k] else acc),w,ob,(by split<;>(try simp)<;>omega),(Z5a Z2 Zz),rfl,rfl,rfl⟩ (wk [0,0] (fr (ZL k fl))))))
 exact ax 0 (ar (Z8 (Zp (ZY acc v) (Zm.sl _ (Ys Zk (Z59 om Zz))))))
theorem BA (b:Nat) (ga:Hd) (gb:Hd) (gc:Hd) (n:Zj) (L:WL) (ln:LI) (am:List YM) (t:Int) (o:Int) (hlb:L.vars.length<=1000000000:=by exact ob) (hlk:Wc L:=by exact ob):Za 211 [.p b 0,.i t,.i o] [.obj b [ZI n.decls,Yr n,Ze ln,YR am,.h ga,.h gb,.h gc],rV ga L.vars,rV gb L.own,rV gc L.tok] (fun r h=>∃(wa:Hd) (wb:Hd) (wc:Hd),h=[.obj b [ZI n.decls,Yr n,Ze ln,YR am,.h wa,.h wb,.h wc],rV wa ((L.grow t o (-1)).vars),rV wb ((L.grow t o (-1)).own),rV wc ((L.grow t o (-1)).tok)]):=by
 have hlk0:=hlk
 obtain ⟨e1,e2,e3,e4,e5⟩:=hlk0
 exact Zx 35 Tryz.func211 (ZB 6 [0] (iL (Zk [t]) 1 1 fun v1=>W2 0 [(12,Ze [t])] (Kf 2 ga L.vars [t] none fun v2=>Z1 2 (Y4 2 b [ZI n.decls,Yr n,Ze ln,YR am,.h v2,.h gb,.h gc] (ie (ZB 6 [0] (iL (Zk [o]) 1 1 fun v3=>W2 0 [(22,Ze [o])] (Kf 4 gb L.own [o] none fun v4=>Z1 2 (Y4 2 b [ZI n.decls,Yr n,Ze ln,YR am,.h v2,.h v4,.h gc] (ie (az (Y6 5 [0] (iL (Zk [-1]) 1 1 fun v5=>W2 0 [(31,Ze [-1])] (Kf 6 gc L.tok [-1] none fun v6=>Z1 2 (Y4 2 b [ZI n.decls,Yr n,Ze ln,YR am,.h v2,.h v4,.h v6] (ie (r2 [0,4,2,0] [] ⟨v2,v4,v6,rfl⟩ (lr _) (eq:=(rc (rv (xs:=(L.vars++[t])) ob (rv (xs:=(L.own++[o])) ob (rv (xs:=(L.tok++[-1])) ob rz))))))))))))))))))))))
theorem E0 (b:Nat) (ga:Hd) (gb:Hd) (gc:Hd) (n:Zj) (L:WL) (ln:LI) (am:List YM) (i:Int) (hlk:Wc L:=by exact ob) (hi:0<=i/\i<L.vars.length:=by exact ob) (hq:∀x∈L.own,-1000000000<=x/\x<=1000000000):Za 214 [.p b 0,.i i] [.obj b [ZI n.decls,Yr n,Ze ln,YR am,.h ga,.h gb,.h gc],rV ga L.vars,rV gb L.own,rV gc L.tok] (fun r h=>r=.b (decide (1<=gI L.own i))/\h=[.obj b [ZI n.decls,Yr n,Ze ln,YR am,.h ga,.h gb,.h gc],rV ga ((Xf L i).vars),rV gb ((Xf L i).own),rV gc ((Xf L i).tok)]):=by
 have hlk0:=hlk
 obtain ⟨e1,e2,e3,e4,e5⟩:=hlk0
 refine Zx 22 Tryz.func214 (Zh (ZB 5 [0] (Zi (XE 2 gb L.own i i.toNat (hq:=rfl)) ?_)))
 obtain ⟨x1,Z2⟩:=Zv L.own i.toNat om
 have hxq:=hq _ (YF Z2)
 have hgi:=Vt Z2
 have hsl:(L.own.set i.toNat (x1-1)).length=L.own.length:=QA
 refine Xx (WV 2 gb L.own i.toNat x1 Z2) (ia ((x1-1)) ((x1)-(1)) (Zi (XE 2 gb L.own i i.toNat (hq:=rfl)) (BW 2 gb L.own i.toNat (x1-1) (ie (ZB 5 [1] (Zi (XE 0 gb (L.own.set i.toNat (x1-1)) i i.toNat (hq:=rfl)) ?_))))))
 obtain ⟨x2,Zt⟩:=Zv (L.own.set i.toNat (x1-1)) i.toNat om
 have hxe:x2=x1-1:=by rw [List.getElem?_set_self om] at Zt;exact (Tn Zt).symm
 exact Xx (WV 0 gb (L.own.set i.toNat (x1-1)) i.toNat x2 Zt) (Z8 (r2 [1,1,0,0] [.b (decide (x2>=0))] ⟨rfl,rfl⟩ (lb (by rw [hxe,hgi,Wp];simp)) (eq:=(rc (rv (xs:=L.vars) ob (rv (xs:=(L.own.set i.toNat (x1-1))) (by rw [Xf,hgi]) (rv (xs:=L.tok) ob rz)))))))
theorem Mv (b:Nat) (ga:Hd) (gb:Hd) (gc:Hd) (n:Zj) (L:WL) (ln:LI) (am:List YM) (hlb:L.vars.length<=1000000000:=by exact ob) (hlk:Wc L:=by exact ob):Za 293 [.p b 0] [.obj b [ZI n.decls,Yr n,Ze ln,YR am,.h ga,.h gb,.h gc],rV ga L.vars,rV gb L.own,rV gc L.tok] (fun r h=>∃(c:Nat) (wa:Hd) (wb:Hd) (wc:Hd),r=.p c 0/\h=[.obj c [ZI n.decls,Yr n,Ze ln,YR am,.h wa,.h wb,.h wc],rV wa L.vars,rV wb L.own,rV wc L.tok,.obj b [ZI n.decls,Yr n,Ze ln,YR am,.h ga,.h gb,.h gc],rV ga L.vars,rV gb L.own,rV gc L.tok]):=by
 have hlk0:=hlk
 obtain ⟨e1,e2,e3,e4,e5⟩:=hlk0
 refine Zx 25 Tryz.func293 (Zh (ZB 3 [0] (iA [nl,nl,nl,nl,nl,nl,nl] fun b1=>Y4 0 b1 [ZI n.decls,Yr n,Ze ln,YR am,.h ga,.h gb,.h gc] (ie (aD 21 (Ya 9 21 [0,1,2,3,5,6,7,8,10,11,12,13] [1,1,1] (ZF 4 (Ue 4 [2] [1,1] [b,b] [rV ga L.vars] (CD L.vars) QL (gL (v:=ga) 0 gN) (Vp VV) ?_))))))))
 rintro _ _ ⟨v1,rfl,rfl⟩
 refine ZF 9 (Ue 9 [4] [1] [b] [rV gb L.own] (CD L.own) QL (gL (v:=gb) 0 gN) (Vp VV) ?_)
 rintro _ _ ⟨v2,rfl,rfl⟩
 refine ZF 14 (Ue 14 [6] [] [] [rV gc L.tok] (CD L.tok) QL (gL (v:=gc) 0 gN) (Vp VV) ?_)
 rintro _ _ ⟨v3,rfl,rfl⟩
 exact Zo 5 6 [15] (ZF 16 (UC 16 6 [] [] b1 [ZI n.decls,Yr n,Ze ln,YR am,.h v1,.h gb,.h gc] (Zo 3 4 [17] (ZF 18 (UC 18 0 [] [] b1 [ZI n.decls,Yr n,Ze ln,YR am,.h v1,.h v2,.h gc] (Zo 1 2 [19] (ZF 20 (UC 20 0 [] [] b1 [ZI n.decls,Yr n,Ze ln,YR am,.h v1,.h v2,.h v3] (de (ar (Z8 (r1 [0,4,2,0,3,2,1,0] ⟨b1,v1,v2,v3,rfl,rfl⟩))))))))))))
theorem Mu (b:Nat) (ga:Hd) (gb:Hd) (gc:Hd) (n:Zj) (L:WL) (ln:LI) (am:List YM) (i:Int) (hlk:Wc L) (har:WD n.decls L am) (hln:ln.length<=4294967296) (hal:am.length<=1000000000) (hlb:L.vars.length<=1000000000) (hd:∀j:Int,0<=j->j<L.vars.length->gI L.par j<j) (hi:0<=i/\i<L.vars.length) (ih:∀(i2:Int),(0<=i2/\i2<i)->Za 290 [.p b 0,.i i2] [.obj b [ZI n.decls,Yr n,Ze ln,YR am,.h ga,.h gb,.h gc],rV ga L.vars,rV gb L.own,rV gc L.tok] (fun r h=>r=.b (XL L ln i2)/\h=[.obj b [ZI n.decls,Yr n,Ze ln,YR am,.h ga,.h gb,.h gc],rV ga L.vars,rV gb L.own,rV gc L.tok])):Za 290 [.p b 0,.i i] [.obj b [ZI n.decls,Yr n,Ze ln,YR am,.h ga,.h gb,.h gc],rV ga L.vars,rV gb L.own,rV gc L.tok] (fun r h=>r=.b (XL L ln i)/\h=[.obj b [ZI n.decls,Yr n,Ze ln,YR am,.h ga,.h gb,.h gc],rV ga L.vars,rV gb L.own,rV gc L.tok]):=by
 have hlk0:=hlk
 obtain ⟨e1,e2,e3,e4,e5⟩:=hlk0
 refine Zx 51 Tryz.func290 (Zh (Yp 5 [0] (Zi (XE 2 gb L.own i i.toNat (hq:=rfl)) ?_)))
 obtain ⟨x1,Z2⟩:=Zv L.own i.toNat om
 have hgi:=Vt Z2
 refine Xx (WV 2 gb L.own i.toNat x1 Z2) (Wa [0,1] [(22,.b ((decide (x1>0))||(decide (i∈ln))))] (fun gz=>gz) ?_ ?_)
 ·refine Z1 2 (ib (b:=(decide (x1>0))) 15 (fun Zc=>?_) (fun Zc=>?_))
  ·have Yd:x1>0:=(dq).1 Zc
   exact Z0 (Y5 4 (Zq true Zc fl))
  have YX:¬(x1>0):=Y3 dq Zc
  exact Y6 5 [0] (ZC [] (Lc ln i) (Z0 (Y5 4 (Zq (decide (i∈ln)) Zc fl))))
 refine ac ((decide (x1>0))||(decide (i∈ln))) (p:=(x1>0)∨(i∈ln)) (Yj dq dq) (fun Z5=>?_) (fun Z5=>?_)
 ·exact ar (Z8 (r2 [0,0,0,0] [.b true] ⟨rfl,rfl⟩ (lb (Z0n (by rw [hgi];exact Z5)).symm)))
 refine ak (Yp 4 [0] (iw (Z3q am) (Z0 (ab 0 (ZU (fun fz gz m F h=>∃(k:Nat),(k<=am.length)/\(∀a∈am.take k,¬(a.fst<=i/\i<a.fst+a.fds.length))/\F=sF [0,1,26,27] fz [(28,.i k)]/\h=gz/\m=am.length-k) _ _ _ ⟨0,ob,ob,rfl,rfl,rfl⟩ (Y5 4 (ZW fl)) ?_)))))
 rintro m F h ⟨k,Y0,Z9,rfl,rfl,rfl⟩
 refine Zh (aq (Xi ((k:Int)<(am.length:Int)) (fun Zd=>?_) (fun Zd=>?_)))
 ·refine ak (aq (ab 1 (ar ?_)))
  obtain ⟨x2,Zt⟩:=Zv am k om
  have ham:=YF Zt
  have hrg:=har.rng _ ham
  refine Zi (Zr none (k:Int) 4 (Z3p Zt)) (Z1 1 (iA [.i 0,.i 0,nl,.b false] fun b1=>Y4 0 b1 [.i x2.mat,.i x2.fst,Ze x2.fds,.b x2.chg] (ie (ar (Wa [0,1,6,26,27,28] [(45,.b ((decide (i>=x2.fst))&&(decide (i<(x2.fst+(x2.fds.length:Int))))))] (fun gz=>gz) ?_ ?_)))))
  ·refine Y6 5 [0] (ib (b:=(decide (i>=x2.fst))) 36 (fun ZD=>?_) (fun ZD=>?_))
   ·have XB:i>=x2.fst:=(dq).1 ZD
    exact Y6 5 [0,0] (iw (Yn x2.fds) (ia ((x2.fst+(x2.fds.length:Int))) ((x2.fst)+((x2.fds.length:Int))) (Z0 (Y5 5 (Zq (decide (i<(x2.fst+(x2.fds.length:Int)))) ZD fl)))))
   have XH:¬(i>=x2.fst):=Y3 dq ZD
   exact Z0 (Y5 5 (Zq false ZD fl))
  refine ac ((decide (i>=x2.fst))&&(decide (i<(x2.fst+(x2.fds.length:Int))))) (p:=(i>=x2.fst)/\(i<(x2.fst+(x2.fds.length:Int)))) (YD dq dq) (fun Zw=>?_) (fun Zw=>?_)
  ·refine ZB 3 [0] (ZC [1,1,1,1] (ih x2.mat ob) (Z0 ?_))
   have hpa:=har.par _ ham i Zw.1 Zw.2
   exact ZG (r2 [0,0,0,0] [.b (XL L ln x2.mat)] ⟨rfl,rfl⟩ (lb (Z0m hi hd (by rw [hgi];exact Z5) hpa hrg.1).symm))
  refine ak (az (ZK k (Z0 ?_)))
  have hdr:=ZH Zt
  exact ZJ ⟨k+1,ob,(by rw [WU Zt];exact fun a ha=>(Yz.1 ha).elim (Z9 a) (fun ha=>by rw [YL.1 ha];exact fun q=>Zw ⟨q.1,q.2⟩)),rfl,rfl,rfl⟩ (wk [1,1,1,1] (ZL k fl))
 refine ax 0 (Zh ?_)
 have hpn:gI L.par i<0:=Int.not_le.1 fun h=>by
  obtain ⟨a,ha,q⟩:=har.non i hi.1 hi.2 h
  exact Z9 a (by rw [W6 om];exact ha) q
 exact ZG (r2 [0,0,0,0] [.b false] ⟨rfl,rfl⟩ (lb (Z0l (by rw [hgi];exact Z5) hpn).symm))
theorem Gu (b:Nat) (ga gb gc:Hd) (n:Zj) (L:WL) (ln:LI) (am:List YM) (i:Int) (hlk:Wc L) (har:WD n.decls L am) (hln:ln.length<=4294967296) (hal:am.length<=1000000000) (hlb:L.vars.length<=1000000000)
  (hd:∀j:Int,0<=j->j<L.vars.length->gI L.par j<j) (hi:0<=i/\i<L.vars.length):Za 290 [.p b 0,.i i] [.obj b [ZI n.decls,Yr n,Ze ln,YR am,.h ga,.h gb,.h gc],rV ga L.vars,rV gb L.own,rV gc L.tok] (fun r h=>r=.b (XL L ln i)/\h=[.obj b [ZI n.decls,Yr n,Ze ln,YR am,.h ga,.h gb,.h gc],rV ga L.vars,rV gb L.own,rV gc L.tok]):=by
 have key:∀m:Nat,∀j:Int,0<=j->j.toNat<=m->j<L.vars.length->Za 290 [.p b 0,.i j] [.obj b [ZI n.decls,Yr n,Ze ln,YR am,.h ga,.h gb,.h gc],rV ga L.vars,rV gb L.own,rV gc L.tok] (fun r h=>r=.b (XL L ln j)/\h=[.obj b [ZI n.decls,Yr n,Ze ln,YR am,.h ga,.h gb,.h gc],rV ga L.vars,rV gb L.own,rV gc L.tok]):=by
  intro m
  induction m with
  | zero=>intro j h1 h2 h3;exact Mu b ga gb gc n L ln am j hlk har hln hal hlb hd ⟨h1,h3⟩ fun i2 q=>by omega
  | succ m ih=>intro j h1 h2 h3;exact Mu b ga gb gc n L ln am j hlk har hln hal hlb hd ⟨h1,h3⟩ fun i2 q=>ih i2 q.1 om om
 exact key i.toNat i hi.1 (X1 _) hi.2
end Go.Abs
section
namespace Go.Proofs
open Go.RowKit Go.Shelf
attribute [local go_sem] Oper.semAt_some
structure ArmV where
 m:Int
 f:Int
 sa:Option Addr
 sl:Nat
 sc:Nat
 c:Bool
 deriving Inhabited
def ArmV.enc (a:ArmV):Value:=.agg #[.int .i64 a.m,.int .i64 a.f,.slice a.sa a.sl a.sc,.bool a.c]
def WX (zs:List ArmV) (i:Nat):ArmV:=zs[i]?.getD default
def dn (zs:List ArmV) (k:Nat):List (Nat × ArmV):=(List.range k).map fun j=>(zs.length-1-j,WX zs (zs.length-1-j))
theorem H5 (zs:List ArmV) (k:Nat):dn zs (k+1)=dn zs k++[(zs.length-1-k,WX zs (zs.length-1-k))]:=by simp [dn,List.range_succ]
theorem Z3j (zs:List ArmV) (k:Nat):(dn zs k).length=k:=by simp [dn]
def AQ (n₀:Nat) (W:World) (v:Value) (zs:List ArmV):Prop:=
 (∃a c,v=.slice a 0 c∧zs=[])∨∃b off cap,v=.slice (some ⟨b,off,none⟩) zs.length cap∧b<n₀∧∀j,j<zs.length →
  W.cell? ⟨b,off+j*4,none⟩=some (.int .i64 (WX zs j).m)∧W.cell? ⟨b,off+j*4+1,none⟩=some (.int .i64 (WX zs j).f) ∧
  W.cell? ⟨b,off+j*4+2,none⟩=some (.slice (WX zs j).sa (WX zs j).sl (WX zs j).sc)∧W.cell? ⟨b,off+j*4+3,none⟩=some (.bool (WX zs j).c)
theorem AQ.below {n₀:Nat} {A B:World} {v:Value} {zs:List ArmV} (h:Below n₀ A B) (H:AQ n₀ A v zs):AQ n₀ B v zs:=by
 rcases H with H|⟨b,off,cap,e,hb,hc⟩
 ·exact .inl H
 ·refine .inr ⟨b,off,cap,e,hb,fun j hj=>?_⟩
  obtain ⟨h0,h1,h2,h3⟩:=hc j hj
  exact ⟨(h.cell (p:=⟨b,_,none⟩) hb).trans h0,(h.cell (p:=⟨b,_,none⟩) hb).trans h1,(h.cell (p:=⟨b,_,none⟩) hb).trans h2,(h.cell (p:=⟨b,_,none⟩) hb).trans h3⟩
set_option maxRecDepth 100000 in
set_option maxHeartbeats 2000000 in
theorem Z13 (F:Fence) (n:Nat) (h8:F.fn 343) (hro:F.round=none) (hn:1≤n) (l Bs n₀ b off cap:Nat) (zs:List ArmV) (hreach:zs.length≤1000000000) (hb:b<n₀) (J Jx:List (Nat × ArmV)→World→Prop)
  (hY:∀pre x W,J pre W→pre.length<zs.length→YieldAt F (n-1) Tryz.prog l #[.int .i64 ((x.1:Nat):Int),x.2.enc] W fun e W'=>
   (e=.returned (.bool true)∧J (pre++[x]) W'∧Below n₀ W W')∨(e=.returned (.bool false)∧Jx (pre++[x]) W'))
  (W:World) (hBn:Bs<n₀) (hBs:W.cell? ⟨Bs,0,none⟩=some (.slice (some ⟨b,off,none⟩) zs.length cap)) (hc:∀j,j<zs.length →
  W.cell? ⟨b,off+j*4,none⟩=some (.int .i64 (WX zs j).m)∧W.cell? ⟨b,off+j*4+1,none⟩=some (.int .i64 (WX zs j).f) ∧
  W.cell? ⟨b,off+j*4+2,none⟩=some (.slice (WX zs j).sa (WX zs j).sl (WX zs j).sc)∧W.cell? ⟨b,off+j*4+3,none⟩=some (.bool (WX zs j).c)) (h0:J [] W) :
  CallsIn F n Tryz.prog 343 #[.func (.yield l) #[] #[],.pointer (some ⟨Bs,0,none⟩)] W fun e W'=>(∃v,e=.returned v) ∧
   ((∃ys,ys=dn zs zs.length∧J ys W')∨(∃pre,(∃k,k≤zs.length∧pre=dn zs k)∧Jx pre W')):=by
 refine callsIn_of_wp Tryz.func343 rfl h8 ?_ hro
 simp only [Tryz.ntmps343,List.size_toArray,List.length_cons,List.length_nil,Nat.reduceAdd,Nat.reduceSub,Array.replicate_succ,Array.replicate_zero,List.push_toArray,List.append_toArray,List.nil_append,List.cons_append]
 gi_wp2
 gi_loopw [3] (fun i wr=>∃k:Nat,k≤zs.length∧i=.int .i64 ((zs.length:Int)-1-k)∧J (dn zs k) wr∧Below n₀ W wr)
  (fun i _=>(intOf i+1).toNat)
 case atStart=>exact ⟨0,Nat.zero_le _,by simp,h0,Below.refl _ _⟩
 case round=>
  obtain ⟨k,hk,rfl,hJs,hnx⟩:=hrel
  have hBx:wr.cell? ⟨Bs,0,none⟩=some (.slice (some ⟨b,off,none⟩) zs.length cap):=(hnx.cell (p:=⟨Bs,0,none⟩) hBn).trans hBs
  by_cases hlt:k<zs.length
  ·obtain ⟨q,hq⟩:∃q:Nat,(zs.length:Int)-1-k=(q:Int):=⟨zs.length-1-k,by omega⟩
   have hqk:zs.length-1-k=q:=by omega
   obtain ⟨g0,g1,g2,g3⟩:=hc q (by omega)
   have c0:=(hnx.cell (p:=⟨b,off+q*4,none⟩) hb).trans g0
   have c1:=(hnx.cell (p:=⟨b,off+q*4+1,none⟩) hb).trans g1
   have c2:=(hnx.cell (p:=⟨b,off+q*4+2,none⟩) hb).trans g2
   have c3:=(hnx.cell (p:=⟨b,off+q*4+3,none⟩) hb).trans g3
   obtain ⟨fn,tmps,assign,body,hy,hR⟩:=hY _ (q,WX zs q) wr hJs (by rw [Z3j];exact hlt)
   dsimp only [ArmV.enc] at hy
   rw [hq]
   have hql:(q:Int)<zs.length:=by omega
   gi_wp2
   refine hR.mono ?_
   rintro e W3 (⟨rfl,hJ3,hk3⟩|⟨rfl,hJx3⟩)
   ·gi_wp2
    go_roundw
    case rel=>exact ⟨k+1,by omega,by congr 1;omega,by rw [H5,hqk];exact hJ3,hnx.trans hk3⟩
    case measure=>simp [intOf]
   ·gi_wp2
    refine bodyPost_ret (results_none rfl _ _ _) rfl ?_
    exact ⟨⟨_,rfl⟩,.inr ⟨_,⟨k+1,by omega,by rw [H5,hqk]⟩,hJx3⟩⟩
  ·obtain rfl:k=zs.length:=by omega
   have hneg:¬(0≤(zs.length:Int)-1-zs.length):=by omega
   gi_wp2
   go_end0
   first|exact ⟨⟨_,rfl⟩,.inl ⟨_,rfl,hJs⟩⟩|exact ⟨⟨_,rfl⟩,.inl hJs⟩
set_option maxRecDepth 100000 in
set_option maxHeartbeats 1000000 in
theorem Z14 (F:Fence) (n:Nat) (h8:F.fn 343) (hro:F.round=none) (l Bs:Nat) (a:Option Addr) (c:Nat) (J:List (Nat × ArmV)→World→Prop) (W:World) (hBs:W.cell? ⟨Bs,0,none⟩=some (.slice a 0 c)) (h0:J [] W) :
  CallsIn F n Tryz.prog 343 #[.func (.yield l) #[] #[],.pointer (some ⟨Bs,0,none⟩)] W fun e W'=>(∃v,e=.returned v)∧J [] W':=by
 refine callsIn_of_wp Tryz.func343 rfl h8 ?_ hro
 simp only [Tryz.ntmps343,List.size_toArray,List.length_cons,List.length_nil,Nat.reduceAdd,Nat.reduceSub,Array.replicate_succ,Array.replicate_zero,List.push_toArray,List.append_toArray,List.nil_append,List.cons_append]
 gi_wp2
 gi_loopw [3] (fun i wr=>i=.int .i64 (-1)∧J [] wr) (fun _ _=>0)
 case atStart=>exact ⟨rfl,h0⟩
 case round=>
  obtain ⟨rfl,hJs⟩:=hrel
  gi_wp2
  go_end0
  exact ⟨⟨_,rfl⟩,hJs⟩
set_option maxHeartbeats 1000000 in
theorem Z15 (F:Fence) (n:Nat) (h6:F.fn 326) (hro:F.round=none) (v:Value) (hv1:∃a l c,v=.slice a l c) (w:World) :
  CallsIn F n Tryz.prog 326 #[v] w fun e w'=>e=.returned (.func (.func 343) #[] #[.pointer (some ⟨w.heap.size,0,none⟩)])∧w'=w.alloc (.cells #[v] 247):=by
 obtain ⟨a,ll,c,rfl⟩:=hv1
 refine callsIn_of_wp Tryz.func326 rfl h6 ?_ hro
 simp only [Tryz.ntmps326,List.size_toArray,List.length_cons,List.length_nil,Nat.reduceAdd,Nat.reduceSub,Array.replicate_succ,Array.replicate_zero,List.push_toArray,List.append_toArray,List.nil_append,List.cons_append]
 gi_wp2
 go_ret
 exact ⟨rfl,rfl⟩
theorem Z16 (F:Fence) (n:Nat) (h8:F.fn 343) (hro:F.round=none) (hn:1≤n) (Bs n₀:Nat) (v:Value) (zs:List ArmV) (hreach:zs.length≤1000000000) (w:World) (hBs:Bs<n₀) (hn₀:n₀≤w.heap.size)
  (hc:w.cell? ⟨Bs,0,none⟩=some v) (hI:AQ n₀ w v zs) :
  SeqStopsK F n Tryz.prog 343 #[.pointer (some ⟨Bs,0,none⟩)] (fun x:Nat × ArmV=>#[Value.int .i64 ((x.1:Nat):Int),x.2.enc]) (Below n₀) (fun ys=>ys=dn zs zs.length) (fun pre=>∃k,k≤zs.length∧pre=dn zs k) zs.length w:=by
 intro l J Jx W hW _ _ hY h0
 have hc':=(hW.cell (p:=⟨Bs,0,none⟩) (Nat.lt_of_lt_of_le hBs hn₀)).trans hc
 rcases hI.below (hW.mono hn₀) with ⟨a,c,rfl,rfl⟩|⟨b,off,cap,rfl,hb,hcs⟩
 ·exact (Z14 F n h8 hro l Bs a c J W hc' h0).mono fun e W' ⟨he,hj⟩=>⟨he,.inl ⟨_,rfl,hj⟩⟩
 ·exact Z13 F n h8 hro hn l Bs n₀ b off cap zs hreach hb J Jx hY W hBs hc' hcs h0
def VS (W:World) (B:Nat) (a:ArmV):Prop:=W.heap[B]? = some (.cells #[.int .i64 a.m,.int .i64 a.f,.slice a.sa a.sl a.sc,.bool a.c] 312 (0,0))
theorem Gx {β:Type} (B:Nat) (f:β→ArmV):Own (fun s W=>VS W B (f s)):=fun s X Y row hs hg hrow=>
 (grownBy_keeps_cells hg hrow hs rfl).trans hs
theorem VS.lt {W:World} {B:Nat} {a:ArmV} (h:VS W B a):B<W.heap.size:=(Array.getElem?_eq_some_iff.1 h).1
theorem VS.alloc {W:World} {B:Nat} {a:ArmV} (h:VS W B a) (o:Obj):VS (W.alloc o) B a:=(Below.heap_alloc W o B h.lt).trans h
theorem VS.other {W:World} {B B':Nat} {a:ArmV} (h:VS W B a) (hne:B≠B') (j:Nat) (u:Value):VS (W.setCell ⟨B',j,none⟩ u) B a:=(heap_setCell_other W ⟨B',j,none⟩ B u hne).trans h
theorem VS.cells {W:World} {B:Nat} {a:ArmV} (h:VS W B a):W.cell? ⟨B,0,none⟩=some (.int .i64 a.m)∧W.cell? ⟨B,1,none⟩=some (.int .i64 a.f)∧W.cell? ⟨B,2,none⟩=some (.slice a.sa a.sl a.sc)∧W.cell? ⟨B,3,none⟩=some (.bool a.c):=by
 have h':W.heap[B]? = _:=h
 refine ⟨?_,?_,?_,?_⟩<;>simp [World.cell?,h']
theorem VS.frozen {W:World} {B:Nat} {a:ArmV} (h:VS W B a) (j:Nat):W.frozen? ⟨B,j,none⟩=false:=by simp [World.frozen?,show W.heap[B]? = _ from h]
def w4 (W:World) (B:Nat) (a:ArmV):World:=(((W.setCell ⟨B,0,none⟩ (.int .i64 a.m)).setCell ⟨B,1,none⟩ (.int .i64 a.f)).setCell ⟨B,2,none⟩ (.slice a.sa a.sl a.sc)).setCell ⟨B,3,none⟩ (.bool a.c)
theorem VS.put {W:World} {B:Nat} {a:ArmV} (b:ArmV) (h:VS W B a):VS (w4 W B b) B b:=
 heap_setCell_same _ B 3 _ 312 _ (heap_setCell_same _ B 2 _ 312 _ (heap_setCell_same _ B 1 _ 312 _ (heap_setCell_same _ B 0 _ 312 _ h)))
theorem SF (W:World) (B:Nat) (a:ArmV) (k:Nat) (h:k≠B):(w4 W B a).heap[k]? = W.heap[k]?:=
 (heap_setCell_other _ ⟨B,3,none⟩ k _ h).trans ((heap_setCell_other _ ⟨B,2,none⟩ k _ h).trans ((heap_setCell_other _ ⟨B,1,none⟩ k _ h).trans (heap_setCell_other _ ⟨B,0,none⟩ k _ h)))
theorem SE (W:World) (B:Nat) (a:ArmV):KeepsOthers W (w4 W B a):=(((KeepsOthers.setCell _ _ _).trans (KeepsOthers.setCell _ _ _)).trans (KeepsOthers.setCell _ _ _)).trans (KeepsOthers.setCell _ _ _)
theorem SD {n₀:Nat} {w W:World} {B:Nat} (a:ArmV) (h:Below n₀ w W) (hB:n₀≤B):Below n₀ w (w4 W B a):=
 (((h.setCell (p:=⟨B,0,none⟩) hB _).setCell (p:=⟨B,1,none⟩) hB _).setCell (p:=⟨B,2,none⟩) hB _).setCell (p:=⟨B,3,none⟩) hB _
set_option maxRecDepth 100000 in
set_option maxHeartbeats 4000000 in
theorem Z9r (F:Fence) (n:Nat) (h61:F.fn 291) (h122:F.fn 326) (h165:F.fn 343) (hro:F.round=none) (hn:6≤n) (v:Int) (av:Value) (zs:List ArmV) (hreach:zs.length≤1000000000) (w:World) (hav:∃a l c,av=.slice a l c) (hA:AQ w.heap.size w av zs) :
  CallsIn F n Tryz.prog 291 #[av,.int .i64 v] w fun e W'=>((∃k,k<zs.length∧(WX zs (zs.length-1-k)).m=v∧(∀j,j<k→(WX zs (zs.length-1-j)).m≠v)∧e=.returned (.tuple #[(WX zs (zs.length-1-k)).enc,.bool true])) ∨
   ((∀j,j<zs.length→(WX zs (zs.length-1-j)).m≠v)∧e=.returned (.tuple #[.agg #[.int .i64 0,.int .i64 0,.slice none 0 0,.bool false],.bool false])))∧Below w.heap.size w W':=by
 have h1:1≤n:=by omega
 refine callsIn_of_wp_marks Tryz.func291 rfl h61 ?_ hro
 simp only [Tryz.ntmps291,List.size_toArray,List.length_cons,List.length_nil,Nat.reduceAdd,Nat.reduceSub,Array.replicate_succ,Array.replicate_zero,List.push_toArray,List.append_toArray,List.nil_append,List.cons_append]
 obtain ⟨aa,al,ac,rfl⟩:=hav
 gi_wp2_with (gi_at_call 326;refine (Z15 F (n-1) h122 hro _ ⟨_,_,_,rfl⟩ _).mono ?_;rintro e w' ⟨rfl,rfl⟩)
 obtain ⟨W0,hW0⟩:∃W0,(((w.alloc (.cells #[.int .i64 v] 3)).alloc (.cells #[.int .i64 0,.int .i64 0,.slice none 0 0,.bool false] 312)).alloc (.cells #[.bool false] 4)).alloc (.cells #[.slice aa al ac] 247)=W0:=⟨_,rfl⟩
 have hB0:Below w.heap.size w W0:=by rw [←hW0];exact ((((Below.refl _ w).alloc (Nat.le_refl _) _).alloc (by simp) _).alloc (by simp;omega) _).alloc (by simp;omega) _
 have hsz:W0.heap.size=w.heap.size+4:=by rw [←hW0];simp
 have bV:Boxed W0 w.heap.size 3 (.int .i64 v):=by rw [←hW0];exact (((Boxed.new w 3 (.int .i64 v)).alloc _).alloc _).alloc _
 have bR:VS W0 (w.heap.size+1) default:=by
  rw [←hW0]
  have h:VS ((w.alloc (.cells #[.int .i64 v] 3)).alloc (.cells #[.int .i64 0,.int .i64 0,.slice none 0 0,.bool false] 312)) (w.alloc (.cells #[.int .i64 v] 3)).heap.size default:=World.alloc_heap_new _ _
  rw [World.size_alloc] at h
  exact (h.alloc _).alloc _
 have bO:Boxed W0 (w.heap.size+1+1) 4 (.bool false):=by
  rw [←hW0]
  have h:=Boxed.new ((w.alloc (.cells #[.int .i64 v] 3)).alloc (.cells #[.int .i64 0,.int .i64 0,.slice none 0 0,.bool false] 312)) 4 (.bool false)
  simp only [World.size_alloc] at h
  exact h.alloc _
 have bA:Boxed W0 (w.heap.size+1+1+1) 247 (.slice aa al ac):=by
  rw [←hW0]
  have h:=Boxed.new (((w.alloc (.cells #[.int .i64 v] 3)).alloc (.cells #[.int .i64 0,.int .i64 0,.slice none 0 0,.bool false] 312)).alloc (.cells #[.bool false] 4)) 247 (.slice aa al ac)
  simp only [World.size_alloc] at h
  exact h
 have hA0:AQ (w.heap.size+4) W0 (.slice aa al ac) zs:=by
  rcases hA.below hB0 with h|⟨b,off,cap,e,hb,hc⟩
  ·exact .inl h
  ·exact .inr ⟨b,off,cap,e,by omega,hc⟩
 rw [hW0]
 clear hW0
 refine wpIn_rangeFunc_ownH hro h1 (gf:=343) (lb:=#[.pointer (some ⟨w.heap.size+1+1+1,0,none⟩)]) rfl h165 (enters_of Tryz.func343 (by kernel_rfl) rfl)
  (Z16 F (n-1) h165 hro (by omega) (w.heap.size+1+1+1) (w.heap.size+4) _ zs hreach W0 (by omega) (by omega) bA.cell hA0) belowK_t (belowK_b (by omega)) (Below.refl _ _) (fun _=>rfl)
  (fun pre W=>(((((∀x∈pre,x.2.m≠v)∧Boxed W w.heap.size 3 (.int .i64 v))∧VS W (w.heap.size+1) default)∧Boxed W (w.heap.size+1+1) 4 (.bool false))∧Boxed W (w.heap.size+1+1+1) 247 (.slice aa al ac))∧Below w.heap.size w W)
  (fun c pre W=>((∃pre0 x,(c=.ret∧pre=pre0++[x]∧x.2.m=v∧∀y∈pre0,y.2.m≠v)∧VS W (w.heap.size+1) x.2)∧Boxed W (w.heap.size+1+1) 4 (.bool true))∧Below w.heap.size w W)
  (OwnFrom.and (OwnFrom.and (OwnFrom.and (OwnFrom.and (OwnFrom.and (ownFrom_pure _ _) (Own.from (boxed_own _ _ _) _)) (Own.from (Gx _ _) _)) (Own.from (boxed_own _ _ _) _)) (Own.from (boxed_own _ _ _) _)) (ownFrom_below (Nat.le_refl _) (by omega)))
  (fun c=>OwnFrom.and (OwnFrom.and (fun s X Y row hs hg hr=>by
   obtain ⟨pre0,x,h,hb⟩:=hs
   exact ⟨pre0,x,h,Gx (w.heap.size+1) (fun (_:Unit)=>x.2) () X Y row hb hg (fun r e=>(hr r e).2)⟩) (Own.from (boxed_own _ _ _) _)) (ownFrom_below (Nat.le_refl _) (by omega)))
  ⟨⟨⟨⟨⟨by simp,bV⟩,bR⟩,bO⟩,bA⟩,hB0⟩
  (fun x a' W=>∃Bx,w.heap.size+1+1<Bx∧VS W Bx x.2∧a'={ tmps:=#[.slice aa al ac,.int .i64 v,undef,.pointer (some ⟨w.heap.size,0,none⟩),.pointer (some ⟨w.heap.size+1,0,none⟩),.pointer (some ⟨w.heap.size+1+1,0,none⟩),undef,.pointer (some ⟨Bx,0,none⟩),.slice aa al ac,.func (.func 343) #[] #[.pointer (some ⟨w.heap.size+1+1+1,0,none⟩)],.int .i64 ((x.1:Nat):Int),x.2.enc,undef,undef,undef,undef,undef,undef],defers:=[] })
  (fun x a' _ X Y row hs hg hr=>by obtain ⟨Bx,e1,e2,e3⟩:=hs;exact ⟨Bx,e1,Gx Bx (fun (_:Unit)=>x.2) () X Y row e2 hg (fun r e=>(hr r e).2),e3⟩)
  ?assign ?body ?done ?stop
 case assign=>
  rintro l pre ⟨xi,x⟩ W K ⟨⟨⟨⟨⟨hp,bV1⟩,bR1⟩,bO1⟩,bA1⟩,hB1⟩ hK
  obtain ⟨xm,xf,xsa,xsl,xsc,xc⟩:=x
  dsimp only [ArmV.enc] at hK ⊢
  gi_wp2
  have hbA:=bA1.lt
  exact hK _ _ ((KeepsOthers.alloc _ _).from _) ((Below.refl _ W).alloc (by omega) _) ⟨⟨⟨⟨⟨hp,bV1.alloc _⟩,bR1.alloc _⟩,bO1.alloc _⟩,bA1.alloc _⟩,hB1.alloc hB1.size _⟩ ⟨W.heap.size,by omega,World.alloc_heap_new W _,rfl⟩
 case body=>
  rintro l pre ⟨xi,x⟩ a' W hl ⟨r,hr⟩ ⟨⟨⟨⟨⟨hp,bV1⟩,bR1⟩,bO1⟩,bA1⟩,hB1⟩ ⟨Bx,hBx,bX,rfl⟩ hlt
  obtain ⟨xm,xf,xsa,xsl,xsc,xc⟩:=x
  have cV:=bV1.cell
  obtain ⟨x0,x1,x2,x3⟩:=bX.cells
  dsimp only at x0 x1 x2 x3
  obtain ⟨r0,r1,r2,r3⟩:=bR1.cells
  have f0:=bR1.frozen 0
  have f1:=bR1.frozen 1
  have f2:=bR1.frozen 2
  have f3:=bR1.frozen 3
  have cO:=bO1.cell
  have fO:=bO1.frozen
  gi_wp2
  ·rename_i hxy
   have hxv:xm=v:=by first|exact hxy|exact eq_of_beq hxy|(simp at hxy;exact hxy)
   have b4:=bR1.put ⟨xm,xf,xsa,xsl,xsc,xc⟩
   have b5:Boxed (w4 W (w.heap.size+1) ⟨xm,xf,xsa,xsl,xsc,xc⟩) (w.heap.size+1+1) 4 (.bool false):=(SF W _ _ _ (by omega)).trans bO1
   have b6:VS ((w4 W (w.heap.size+1) ⟨xm,xf,xsa,xsl,xsc,xc⟩).setCell ⟨w.heap.size+1+1,0,none⟩ (.bool true)) (w.heap.size+1) ⟨xm,xf,xsa,xsl,xsc,xc⟩:=b4.other (by omega) 0 _
   exact ⟨((SE W (w.heap.size+1) ⟨xm,xf,xsa,xsl,xsc,xc⟩).trans (KeepsOthers.setCell _ _ _)).from _,⟨⟨pre,xi,⟨xm,xf,xsa,xsl,xsc,xc⟩,⟨rfl,rfl,hxv,fun a b h=>hp (a,b) h⟩,b6⟩,b5.set _⟩,(SD ⟨xm,xf,xsa,xsl,xsc,xc⟩ hB1 (by omega)).setCell (p:=⟨w.heap.size+1+1,0,none⟩) (by simp;omega) _⟩
  ·rename_i hxy
   exact ⟨KeepsFrom.refl _ _,Below.refl _ _,⟨⟨⟨⟨fun a b h=>(List.mem_append.1 h).elim (hp (a,b)) (fun e=>by simp at e;obtain ⟨rfl,rfl⟩:=e;simpa using hxy),bV1⟩,bR1⟩,bO1⟩,bA1⟩,hB1⟩
 case done=>
  rintro D ys W hD rfl ⟨⟨⟨⟨⟨hp,bV1⟩,bR1⟩,bO1⟩,bA1⟩,hB1⟩ hK
  obtain ⟨r0,r1,r2,r3⟩:=bR1.cells
  have f0:=bR1.frozen 0
  have f1:=bR1.frozen 1
  have f2:=bR1.frozen 2
  have f3:=bR1.frozen 3
  have cO:=bO1.cell
  have fO:=bO1.frozen
  gi_wp2
  have hK':=((SE W (w.heap.size+1) (⟨0,0,none,0,0,false⟩:ArmV)).trans (KeepsOthers.setCell _ ⟨w.heap.size+1+1,0,none⟩ (.bool false))).same D _ hK rfl
  refine ⟨by simp,.inl ⟨_,_,rfl,run_takeDeferred hK',?_⟩⟩
  have b4:=bR1.put (⟨0,0,none,0,0,false⟩:ArmV)
  have b5:Boxed (w4 W (w.heap.size+1) (⟨0,0,none,0,0,false⟩:ArmV)) (w.heap.size+1+1) 4 (.bool false):=(SF W _ _ _ (by omega)).trans bO1
  have b6:VS ((w4 W (w.heap.size+1) (⟨0,0,none,0,0,false⟩:ArmV)).setCell ⟨w.heap.size+1+1,0,none⟩ (.bool false)) (w.heap.size+1) (⟨0,0,none,0,0,false⟩:ArmV):=b4.other (by omega) 0 _
  have b7:=b5.set (.bool false)
  have n4:w.heap.size+1≠D:=by omega
  have n5:w.heap.size+1+1≠D:=by omega
  have b8:VS (((w4 W (w.heap.size+1) (⟨0,0,none,0,0,false⟩:ArmV)).setCell ⟨w.heap.size+1+1,0,none⟩ (.bool false)).putObj D (.deferred none)) (w.heap.size+1) (⟨0,0,none,0,0,false⟩:ArmV):=(World.putObj_heap_other n4).trans b6
  have b9:Boxed (((w4 W (w.heap.size+1) (⟨0,0,none,0,0,false⟩:ArmV)).setCell ⟨w.heap.size+1+1,0,none⟩ (.bool false)).putObj D (.deferred none)) (w.heap.size+1+1) 4 (.bool false):=(World.putObj_heap_other n5).trans b7
  obtain ⟨y0,y1,y2,y3⟩:=b8.cells
  have y4:=b9.cell
  dsimp only [w4] at y0 y1 y2 y3 y4
  refine ⟨.tuple #[.agg #[.int .i64 0,.int .i64 0,.slice none 0 0,.bool false],.bool false],?_,⟨.inr ⟨fun j hj=>hp (zs.length-1-j,WX zs (zs.length-1-j)) (List.mem_map.2 ⟨j,List.mem_range.2 hj,rfl⟩),rfl⟩,
   ((SD (⟨0,0,none,0,0,false⟩:ArmV) hB1 (by omega)).setCell (p:=⟨w.heap.size+1+1,0,none⟩) (by simp;omega) _).trans (belowK_b (w:=w) (Nat.le_refl _) _ D _ _ (by omega) hK' rfl rfl)⟩⟩
  simp [results,Tryz.f291,go_sem,y0,y1,y2,y3,y4]
 case stop=>
  rintro D c pre W hD hpre ⟨⟨⟨pre0,x,⟨rfl,he,hx,hy⟩,bR1⟩,bO1⟩,hB1⟩ hK
  gi_wp2
  refine ⟨by simp,.inl ⟨_,_,rfl,run_takeDeferred hK,?_⟩⟩
  have n4:w.heap.size+1≠D:=by omega
  have n5:w.heap.size+1+1≠D:=by omega
  have b8:VS (W.putObj D (.deferred none)) (w.heap.size+1) x.2:=(World.putObj_heap_other n4).trans bR1
  have b9:Boxed (W.putObj D (.deferred none)) (w.heap.size+1+1) 4 (.bool true):=(World.putObj_heap_other n5).trans bO1
  obtain ⟨y0,y1,y2,y3⟩:=b8.cells
  have y4:=b9.cell
  obtain ⟨k,hk,rfl⟩:=hpre
  obtain ⟨k',rfl⟩:∃k',k=k'+1:=by
   cases k with
   | zero=>simp [dn] at he
   | succ k'=>exact ⟨k',rfl⟩
  rw [H5] at he
  obtain ⟨e1,e2⟩:=List.append_inj' he rfl
  have e3:x=(zs.length-1-k',WX zs (zs.length-1-k')):=(List.cons.inj e2).1.symm
  subst e3
  refine ⟨.tuple #[(WX zs (zs.length-1-k')).enc,.bool true],?_,⟨.inl ⟨k',by omega,hx,fun j hj=>hy (zs.length-1-j,WX zs (zs.length-1-j)) (e1▸List.mem_map.2 ⟨j,List.mem_range.2 hj,rfl⟩),rfl⟩,
   hB1.trans (belowK_b (w:=w) (Nat.le_refl _) W D _ _ (by omega) hK rfl rfl)⟩⟩
  simp [results,Tryz.f291,go_sem,y0,y1,y2,y3,y4,ArmV.enc]
end Go.Proofs
end
namespace Go.Abs
open Go.Proofs
theorem Pz {v:Int}:∀{am:List YM} {i:Nat} {a:YM},am[i]? = some a->a.mat=v->(∀j b,i<j->am[j]? = some b->b.mat≠v)->Ui am v=some a
 | [],_,_,h,_,_=>by simp at h
 | x::r,0,a,h,hm,hl=>by
  simp at h
  subst h
  have:Ui r v=none:=Dh fun b hb=>by
   obtain ⟨j,hj⟩:=DM hb
   exact hl (j+1) b om (by simpa using hj)
  rw [Ui,this]
  simp [hm]
 | x::r,i+1,a,h,hm,hl=>by
  have:Ui r v=some a:=Pz (by simpa using h) hm fun j b hj hb=>hl (j+1) b om (by simpa using hb)
  rw [Ui,this]
def LM (w:World) (G:ZE) (b o:Nat) (a:YM) (z:ArmV):Prop:=
 w.cell? ⟨b,o,none⟩=some (.int .i64 z.m)/\w.cell? ⟨b,o+1,none⟩=some (.int .i64 z.f)/\w.cell? ⟨b,o+2,none⟩=some (.slice z.sa z.sl z.sc)/\w.cell? ⟨b,o+3,none⟩=some (.bool z.c) /\
  z.m=a.mat/\z.f=a.fst/\z.c=a.chg/\RV w G (Ze a.fds) (.slice z.sa z.sl z.sc)/\G b o
theorem Zc9 {w:World} {G:ZE} {es:List AV} {hv:Option Value} {u:Value} (h:RV w G (.sl es hv) u):∃a l c,u=.slice a l c:=by
 cases h with
 | nil _=>exact ⟨_,_,_,rfl⟩
 | sl _ _ _=>exact ⟨_,_,_,rfl⟩
theorem Z0y {w:World} {G:ZE} {b o:Nat} {a:YM} (h:Xl w G b o (OP a)):∃z,LM w G b o a z:=by
 cases h with
 | cons c0 g0 r0 t=>cases t with
  | cons c1 _ r1 t=>cases t with
   | cons c2 _ r2 t=>cases t with
    | cons c3 _ r3 t=>
     have e0:=r0.val_inv;subst e0
     have e1:=r1.val_inv;subst e1
     have e3:=r3.val_inv;subst e3
     have hs:∃sa sl sc,∃u,u=Value.slice sa sl sc/\w.cell? ⟨b,o+2,none⟩=some u/\RV w G (Ze a.fds) u:=by
      obtain ⟨sa,sl,sc,e⟩:=Zc9 r2
      exact ⟨sa,sl,sc,_,e,c2,r2⟩
     obtain ⟨sa,sl,sc,u,rfl,c2',r2'⟩:=hs
     exact ⟨⟨a.mat,a.fst,sa,sl,sc,a.chg⟩,c0,c1,c2',c3,rfl,rfl,rfl,r2',g0⟩
theorem Mr {w:World} {G:ZE} {b k:Nat}:∀{o:Nat} {am:List YM},XR w G k b o (Wu am)->∃zs:List ArmV,zs.length=am.length/\∀(j:Nat) a,am[j]? = some a->LM w G b (o+j*4) a (WX zs j)
 | _,[],_=>⟨[],rfl,fun j a h=>by simp at h⟩
 | o,x::r,.cons hl h t=>by
  have hk:4=k:=hl
  subst hk
  obtain ⟨z,hz⟩:=Z0y h
  obtain ⟨zs,hlen,hzs⟩:=Mr t
  refine ⟨z::zs,by simp [hlen],fun j a hj=>?_⟩
  cases j with
  | zero=>simp at hj;subst hj;simpa [WX] using hz
  | succ j=>
   have:=hzs j a (by simpa using hj)
   rw [show o+(j+1)*4=o+4+j*4 by omega]
   simpa [WX] using this
theorem Z10 (am:List YM) (v:Int) (hal:am.length<=1000000000):Wj Tryz.prog 291 [YR am,.i v] [] (fun r h=>(∃(a:YM),r=.tup [.agg [.i a.mat,.i a.fst,Ze a.fds,.b a.chg],.b true]/\h=[]/\Ui am v=some a)∨(r=.tup [.agg [.i 0,.i 0,ZY [] (.slice none 0 0),.b false],.b false]/\h=[]/\Ui am v=none)):=by
 intro w G vs ha hh
 obtain ⟨u,rfl,hu⟩:∃u,vs=[u,.int .i64 v]/\RV w G (YR am) u:=by
  cases ha with
  | cons h1 t=>cases t with
   | cons h2 t=>cases t;have:=h2.val_inv;subst this;exact ⟨_,rfl,h1⟩
 obtain ⟨zs,hlen,hat,hav,hrel⟩:∃zs:List ArmV,zs.length=am.length/\AQ w.heap.size w u zs/\(∃a l c,u=.slice a l c)/\∀(j:Nat) a,am[j]? = some a->(WX zs j).m=a.mat/\(WX zs j).f=a.fst/\(WX zs j).c=a.chg/\RV w G (Ze a.fds) (.slice (WX zs j).sa (WX zs j).sl (WX zs j).sc):=by
  have hu':RV w G (.sl (Wu am) none) u:=hu
  generalize hes:Wu am=es at hu'
  cases hu' with
  | nil _=>
   cases am with
   | nil=>exact ⟨[],rfl,.inl ⟨_,_,rfl,rfl⟩,⟨_,_,_,rfl⟩,fun j a h=>by simp at h⟩
   | cons _ _=>simp [Wu] at hes
  | @sl _ _ b o k cap _ hc hm=>
   subst hes
   obtain ⟨zs,hlen,hzs⟩:=Mr hm
   have hel:(Wu am).length=zs.length:=by simp [Wu,hlen]
   refine ⟨zs,hlen,?_,⟨_,_,_,rfl⟩,fun j a hj=>by obtain ⟨_,_,_,_,q1,q2,q3,q4,_⟩:=hzs j a hj;exact ⟨q1,q2,q3,q4⟩⟩
   cases am with
   | nil=>exact .inl ⟨_,_,rfl,List.eq_nil_of_length_eq_zero hlen⟩
   | cons x r=>
    refine .inr ⟨b,o,cap,by rw [hel],hh.lt b _ (hzs 0 x rfl).2.2.2.2.2.2.2.2,fun j hj=>?_⟩
    have hj2:j<(x::r).length:=by omega
    obtain ⟨q0,q1,q2,q3,_⟩:=hzs j _ (Qz hj2)
    exact ⟨q0,q1,q2,q3⟩
 refine (callsIn_wide.1 (Z9r Fence.wide 6 trivial trivial trivial rfl om v u zs om w hav hat)).mono ?_
 rintro e W' ⟨hres,hB⟩
 have hA:Vz G w W' G:=⟨fun b o hg=>hB.cell (p:=⟨b,o,none⟩) (hh.lt b o hg),fun _ _ h=>h⟩
 have hH:ZZ W' G []:=⟨(fun r hr=>by cases hr),List.Pairwise.nil,(fun r hr=>by cases hr),fun b o hg=>Bv (hh.lt b o hg) hB.size⟩
 have hX:Yu w G [] W' G []:=⟨hB.os,hB.tape,hB.output,hB.size,fun _ _ h=>h,fun b hb=>.inl (hB.block b hb),fun _ _ _ h=>.inl h,fun _ _ _ h=>h⟩
 have hmn:∀j,j<zs.length->∃a,am[zs.length-1-j]? = some a:=fun j hj=>⟨_,Qz om⟩
 rcases hres with ⟨k,hk,hm,hlt,rfl⟩|⟨hno,rfl⟩
 ·obtain ⟨a,hga⟩:=hmn k hk
  obtain ⟨q1,q2,q3,q4⟩:=hrel _ a hga
  have hof:Ui am v=some a:=Pz hga (q1▸hm) fun j b hj hb=>by
   have hjl:=(W5.1 hb).1
   have:=hlt (zs.length-1-j) om
   rw [show zs.length-1-(zs.length-1-j)=j by omega,(hrel j b hb).1] at this
   exact this
  refine ⟨_,.tup [.agg [.i a.mat,.i a.fst,Ze a.fds,.b a.chg],.b true],[],G,rfl,.inl ⟨a,rfl,rfl,hof⟩,?_,hH,hX⟩
  refine .tup (.cons (.agg (cs:=[_,_,_,_]) (.cons ?_ (.cons ?_ (.cons (q4.mono hA) (.cons ?_ .nil))))) (.cons .val .nil))
  ·rw [q1];exact .val
  ·rw [q2];exact .val
  ·rw [q3];exact .val
 ·have hof:Ui am v=none:=Dh fun a ha=>by
   obtain ⟨j,hj⟩:=DM ha
   have hjl:=(W5.1 hj).1
   have:=hno (zs.length-1-j) om
   rw [show zs.length-1-(zs.length-1-j)=j by omega,(hrel j a hj).1] at this
   exact this
  refine ⟨_,.tup [.agg [.i 0,.i 0,ZY [] (.slice none 0 0),.b false],.b false],[],G,rfl,.inr ⟨rfl,rfl,hof⟩,?_,hH,hX⟩
  exact .tup (.cons (.agg (cs:=[_,_,_,_]) (.cons .val (.cons .val (.cons (.nil (fun x hx=>(Tn hx).symm)) (.cons .val .nil))))) (.cons .val .nil))
theorem Gv (b:Nat) (ga:Hd) (gb:Hd) (gc:Hd) (n:Zj) (L:WL) (ln:LI) (am:List YM) (x:Zf) (mm:Nat) (hlk:Wc L:=by exact ob) (hlb:L.vars.length<=1000000000:=by exact ob) (hm:mm<=L.vars.length:=by exact ob) (hr:0<=x.result/\x.result<L.vars.length:=by exact ob) (hq:∀y∈L.own,-999999999<=y/\y<=1000000000):Za 160 [.p b 0,YG x,.i mm] [.obj b [ZI n.decls,Yr n,Ze ln,YR am,.h ga,.h gb,.h gc],rV ga L.vars,rV gb L.own,rV gc L.tok] (fun r h=>(r=.b true/\h=[.obj b [ZI n.decls,Yr n,Ze ln,YR am,.h ga,.h gb,.h gc],rV ga ((XJ L x.result).vars),rV gb ((XJ L x.result).own),rV gc ((XJ L x.result).tok)]/\VM mm x.result L=some ((XJ L x.result).take mm))∨(r=.b false/\h=[]/\VM mm x.result L=none)):=by
 have hlk0:=hlk
 obtain ⟨e1,e2,e3,e4,e5⟩:=hlk0
 have d1:(Xf L x.result).own.length=L.own.length:=QA
 have d2:(Xf L x.result).tok.length=L.tok.length:=rfl
 have d3:(Xf L x.result).vars.length=L.vars.length:=rfl
 refine Zx 52 Tryz.func160 (ar (iA (VE x) fun b1=>Z0 (aq (aD 16 (Ya 10 16 [0,1,2,3,4,5] [1,0] (dx 6 (XE 2 ga L.vars x.result x.result.toNat (hq:=rfl)) ?_))))))
 obtain ⟨x1,Z2⟩:=Zv L.vars x.result.toNat om
 have hgv:=Vt Z2
 refine Qm 7 (WV 2 ga L.vars x.result.toNat x1 Z2) (Zo 6 8 [8,9] (db (b:=(x1 != 0)) 17 (fun Zc=>?_) (fun Zc=>?_)))
 ·have Yd:x1≠0:=(ZP).1 Zc
  refine Ya 3 6 [10,11,12] [0] (ZF 13 (W4 13 [1,1,1,1] [] [] (E0 b ga gb gc n L ln am x.result (hq:=(fun y hy=>by have:=hq y hy;omega))) (Zo 0 2 [14,15] (de (ac (!decide (1<=gI L.own x.result)) (p:=¬(decide (1<=gI L.own x.result)=true)) (Yl Iff.rfl) (fun Z5=>?_) (fun Z5=>?_))))))
  ·exact ar (Z8 (r1 [] (.inr ⟨rfl,rfl,(Z4c (by rw [hgv];exact Yd) (fun q=>Z5 (decide_eq_true q)))⟩)))
  refine ak (Ym (ab 0 (ZU (fun fz gz m F h=>∃(k:Nat),(mm<=k/\k<=L.vars.length)/\(WJ ((Xf L x.result).own.drop k) ((Xf L x.result).tok.drop k)=WJ ((Xf L x.result).own.drop mm) ((Xf L x.result).tok.drop mm))/\F=sF [0] fz [(7,.i k)]/\h=[Zy gz 0,Zy gz 1,Zy gz 2,Zy gz 3]/\m=L.vars.length-k) _ _ _ ⟨mm,om,ob,rfl,rfl,rfl⟩ (Y5 4 fl) ?_)))
  rintro m F h ⟨k,Y0,Z9,rfl,rfl,rfl⟩
  refine Yp 5 [0] (Zi (KW 1 ga ((Xf L x.result).vars)) (ZO ((k:Int)<((((Xf L x.result).vars).length:Nat):Int)) (fun Zd=>?_) (fun Zd=>?_)))
  ·refine ak (aq (ab 1 (ZB 5 [0] (Zi (XE 2 gb ((Xf L x.result).own) (k:Int) k) ?_))))
   obtain ⟨x2,Zt⟩:=Zv ((Xf L x.result).own) k om
   refine Xx (WV 2 gb ((Xf L x.result).own) k x2 Zt) (Z1 2 (ib (b:=(x2 != 0)) 42 (fun ZD=>?_) (fun ZD=>?_)))
   ·have YX:x2≠0:=(ZP).1 ZD
    refine Z0 (W7 (Zh ?_))
    have hE:XJ L x.result=Xf L x.result:=Z6 (by rw [hgv];exact Yd)
    obtain ⟨y,hy⟩:=Zv ((Xf L x.result).tok) k om
    exact ZG (r1 [] (.inr ⟨rfl,rfl,(Eu (by rw [hE];exact FT Zt hy (.inl YX) Z9))⟩))
   have XB:¬(x2≠0):=Y3 ZP ZD
   refine Y6 5 [0] (Zi (XE 3 gc ((Xf L x.result).tok) (k:Int) k) ?_)
   obtain ⟨x3,X0⟩:=Zv ((Xf L x.result).tok) k om
   refine Xx (WV 3 gc ((Xf L x.result).tok) k x3 X0) (ZO (x3>=0) (fun Zw=>?_) (fun Zw=>?_))
   ·refine Zh ?_
    have hE:XJ L x.result=Xf L x.result:=Z6 (by rw [hgv];exact Yd)
    exact ZG (r1 [] (.inr ⟨rfl,rfl,(Eu (by rw [hE];exact FT Zt X0 (.inr Zw) Z9))⟩))
   exact ak (az (Z1 1 (ZK k (Z0 (ZJ ⟨k+1,ob,(by first|exact FU Zt X0 om Z9|exact FU Tk KO om Z9),rfl,rfl,rfl⟩ (Y5 4 (ZL k fl)))))))
  refine ax 0 (Zh ?_)
  have hE:XJ L x.result=Xf L x.result:=Z6 (by rw [hgv];exact Yd)
  exact ZG (r1 [0,0,0,0] (.inl ⟨rfl,rfl,(NE (fun _=>of_decide_eq_true (Ww.1 Z5)) (by rw [hE];exact SU om Z9))⟩) (eq:=(rc (rv (xs:=(Xf L x.result).vars) (by rw [hE]) (rv (xs:=(Xf L x.result).own) (by rw [hE]) (rv (xs:=(Xf L x.result).tok) (by rw [hE]) rz))))))
 have XH:¬(x1≠0):=Y3 ZP Zc
 refine Zo 0 6 [10,11,12,13,14,15] (de (XF (ak (Ym (ab 0 (ZU (fun fz gz m F h=>∃(k:Nat),(mm<=k/\k<=L.vars.length)/\(WJ (L.own.drop k) (L.tok.drop k)=WJ (L.own.drop mm) (L.tok.drop mm))/\F=sF [0] fz [(7,.i k)]/\h=[Zy gz 1,Zy gz 2,Zy gz 3,Zy gz 4]/\m=L.vars.length-k) _ _ _ ⟨mm,om,ob,rfl,rfl,rfl⟩ (wk [1,1,1,1] fl) ?_))))))
 rintro m F h ⟨k,Y0,Z9,rfl,rfl,rfl⟩
 refine Yp 5 [0] (Zi (KW 1 ga L.vars) (ZO ((k:Int)<(L.vars.length:Int)) (fun Yg=>?_) (fun Yg=>?_)))
 ·refine ak (aq (ab 1 (ZB 5 [0] (Zi (XE 2 gb L.own (k:Int) k) ?_))))
  obtain ⟨x4,Tk⟩:=Zv L.own k om
  refine Xx (WV 2 gb L.own k x4 Tk) (Z1 2 (ib (b:=(x4 != 0)) 42 (fun Yq=>?_) (fun Yq=>?_)))
  ·have VT:x4≠0:=(ZP).1 Yq
   refine Z0 (W7 (Zh ?_))
   have hE:XJ L x.result=L:=Z4 (by rw [hgv];exact XH)
   obtain ⟨y,hy⟩:=Zv L.tok k om
   exact ZG (r1 [] (.inr ⟨rfl,rfl,(Eu (by rw [hE];exact FT Tk hy (.inl VT) Z9))⟩))
  have Uu:¬(x4≠0):=Y3 ZP Yq
  refine Y6 5 [0] (Zi (XE 3 gc L.tok (k:Int) k) ?_)
  obtain ⟨x5,KO⟩:=Zv L.tok k om
  refine Xx (WV 3 gc L.tok k x5 KO) (ZO (x5>=0) (fun Xp=>?_) (fun Xp=>?_))
  ·refine Zh ?_
   have hE:XJ L x.result=L:=Z4 (by rw [hgv];exact XH)
   exact ZG (r1 [] (.inr ⟨rfl,rfl,(Eu (by rw [hE];exact FT Tk KO (.inr Xp) Z9))⟩))
  exact ak (az (Z1 1 (ZK k (Z0 (ZJ ⟨k+1,ob,(by first|exact FU Zt X0 om Z9|exact FU Tk KO om Z9),rfl,rfl,rfl⟩ (Y5 4 (ZL k fl)))))))
 refine ax 0 (Zh ?_)
 have hE:XJ L x.result=L:=Z4 (by rw [hgv];exact XH)
 exact ZG (r1 [0,0,0,0] (.inl ⟨rfl,rfl,(NE (fun q=>absurd (by rw [<-hgv];exact q) XH) (by rw [hE];exact SU om Z9))⟩) (eq:=(rc (rv (xs:=L.vars) (by rw [hE]) (rv (xs:=L.own) (by rw [hE]) (rv (xs:=L.tok) (by rw [hE]) rz))))))
theorem Z1f (b:Nat) (ga:Hd) (gb:Hd) (gc:Hd) (n:Zj) (L:WL) (ln:LI) (am:List YM) (i:Int) (hlk:Wc L) (hi:0<=i/\i<L.vars.length) (hq:∀x∈L.own,-1000000000<=x/\x<=1000000000):Za 214 [.p b 0,.i i] [.obj b [ZI n.decls,Yr n,Ze ln,YR am,.h ga,.h gb,.h gc],rV ga L.vars,rV gb L.own,rV gc L.tok] (fun r h=>(r=.b true/\h=[.obj b [ZI n.decls,Yr n,Ze ln,YR am,.h ga,.h gb,.h gc],rV ga ((Xf L i).vars),rV gb ((Xf L i).own),rV gc ((Xf L i).tok)]/\1<=gI L.own i)∨(r=.b false/\h=[.obj b [ZI n.decls,Yr n,Ze ln,YR am,.h ga,.h gb,.h gc],rV ga ((Xf L i).vars),rV gb ((Xf L i).own),rV gc ((Xf L i).tok)]/\¬1<=gI L.own i)):=by
 refine (E0 b ga gb gc n L ln am i hlk hi hq).mono fun r h q=>?_
 obtain ⟨rfl,rfl⟩:=q
 by_cases hc:1<=gI L.own i
 ·exact .inl ⟨by rw [decide_eq_true hc],rfl,hc⟩
 ·exact .inr ⟨by rw [decide_eq_false hc],rfl,hc⟩
theorem Z19 (b:Nat) (ga:Hd) (gb:Hd) (gc:Hd) (n:Zj) (L:WL) (ln:LI) (am:List YM) (op:Int) (v:Int) (q:Int) (hn:YZ n:=by exact ob) (hk:YK n.decls L q:=by exact ob) (har:WD n.decls L am:=by exact ob) (hln:ln.length<=4294967296:=by exact ob) (hal:am.length<=1000000000:=by exact ob) (hlb:L.vars.length<=1000000000:=by exact ob) (hi:0<=v/\v<L.vars.length:=by exact ob) (hq:0<=q/\q<=999999980:=by exact ob):Za 248 [.p b 0,.i op,.i v] [.obj b [ZI n.decls,Yr n,Ze ln,YR am,.h ga,.h gb,.h gc],rV ga L.vars,rV gb L.own,rV gc L.tok] (fun r h=>(∃(L':WL),r=.b true/\h=[.obj b [ZI n.decls,Yr n,Ze ln,YR am,.h ga,.h gb,.h gc],rV ga L'.vars,rV gb L'.own,rV gc L'.tok]/\Qj n ln L op v=some L')∨(r=.b false/\h=[]/\Qj n ln L op v=none)):=by
 have hlk:=hk.len
 obtain ⟨e1,e2,e3,e4,e5⟩:=hk.len
 have Wy:=hn.decls
 obtain ⟨xo,hxo⟩:=Zv L.own v.toNat om
 have hgo:=Vt hxo
 obtain ⟨xt,hxt⟩:=Zv L.tok v.toNat om
 have hgt:=Vt hxt
 have hob:=hk.bd xo (YF hxo)
 have hon:=hk.nn xo (YF hxo)
 have d1:(Xf L v).own.length=L.own.length:=QA
 have d2:(Xf L v).tok.length=L.tok.length:=rfl
 have d3:(Xf L v).vars.length=L.vars.length:=rfl
 refine Zx 91 Tryz.func248 (Zh (Ym (ab 0 (ar (Yw (op==14) Zs (fun Z5=>?_) (fun Z5=>?_))))))
 ·refine Yb 2 (ZC [0,0,0,0] (Gu b ga gb gc _ L ln am v ob ob ob ob ob hk.down ob) (Yw (!XL L ln v) (p:=¬(XL L ln v=true)) (Yl Iff.rfl) (fun Zd=>?_) (fun Zd=>?_)))
  ·exact ar (Z8 (r1 [] (.inr ⟨rfl,rfl,(Z2h Z5 Zd)⟩)))
  exact ak (ZB 5 [0] (Zi (XE 2 gb L.own v v.toNat (hq:=rfl)) (Xx (WV 2 gb L.own v.toNat xo hxo) (ia ((xo+1)) ((xo)+(1)) (Zi (XE 2 gb L.own v v.toNat (hq:=rfl)) (BW 2 gb L.own v.toNat (xo+1) (ie (ar (Z8 (r1 [1,1,0,0] (.inl ⟨(Zb.mk L.vars (L.own.set v.toNat (xo+1)) L.par L.con L.fst L.tok),rfl,rfl,(Z2i Z5 (Ww.1 Zd) hgo)⟩) (eq:=(rc (rv (xs:=L.vars) ob (rv (xs:=(L.own.set v.toNat (xo+1))) ob (rv (xs:=L.tok) ob rz)))))))))))))))
 refine ar (Yw (op==15) Zs (fun Zw=>?_) (fun Zw=>?_))
 ·refine ZM 2 (ic [0,0,0,0] (Z1f b ga gb gc n L ln am v ob ob (fun y hy=>by have h1:=hk.nn y hy;have h2:=hk.bd y hy;omega)) ?_)
  rintro _ _ (⟨rfl,rfl,Yd⟩|⟨rfl,rfl,YX⟩)
  ·exact Z8 (r1 [0,0,0,0] (.inl ⟨(Xf L v),rfl,rfl,(Z2k Zw Yd)⟩))
  exact Z8 (r1 [] (.inr ⟨rfl,rfl,(Z2j Zw YX)⟩))
 refine ak (ZB 5 [0] (ic [] (Z10 am v ob) ?_))
 rintro _ _ (⟨a1,rfl,rfl,XB⟩|⟨rfl,rfl,XH⟩)
 ·have hof:=XB
  have hmem:=(PA hof).1
  have hrg:=har.rng _ hmem
  have hO:=(N3 (n:=n) (ln:=ln) Z5 Zw).trans (Zac (op:=op) har hi hof hgt)
  have hfl:a1.fds.length<=3:=by
   have h:=har.off v hi.1 hi.2
   rw [hof] at h
   rw [h.2.2]
   exact TZ Wy _
  have hhl:=O2 a1.fds a1.fst
  refine Z1 3 (iA [.i 0,.i 0,nl,.b false] fun b1=>Y4 0 b1 [.i a1.mat,.i a1.fst,Ze a1.fds,.b a1.chg] (Z0 (Yb 5 (ZC [1,1,1,1] (E0 b ga gb gc n L ln am v (hlk:=hlk) (hq:=(fun y hy=>by have h1:=hk.nn y hy;have h2:=hk.bd y hy;omega))) (Wa [0,1,2,7] [(62,.b ((!decide (1<=gI L.own v))||((op==17)&&(decide (xt>=0)))))] (fun gz=>gz) ?_ ?_)))))
  ·refine Z1 3 (ib (b:=(!decide (1<=gI L.own v))) 49 (fun Zc=>?_) (fun Zc=>?_))
   ·have VT:¬(decide (1<=gI L.own v)=true):=((Yl Iff.rfl)).1 Zc
    exact Z0 (Y5 5 (Zq true Zc fl))
   have Uu:¬(¬(decide (1<=gI L.own v)=true)):=Y3 (Yl Iff.rfl) Zc
   refine Z1 3 (ib (b:=(op==17)) 52 (fun ZD=>?_) (fun ZD=>?_))
   ·have T1:op=17:=(Zs).1 ZD
    exact Y6 5 [0] (Zi (XE 3 gc ((Xf L v).tok) v v.toNat (hq:=rfl)) (Xx (WV 3 gc ((Xf L v).tok) v.toNat xt hxt) (Z0 (Y5 5 (Zq (decide (xt>=0)) (And.intro Zc ZD) fl)))))
   have Tj:¬(op=17):=Y3 Zs ZD
   exact Z0 (Y5 5 (Zq false (And.intro Zc ZD) fl))
  refine ac ((!decide (1<=gI L.own v))||((op==17)&&(decide (xt>=0)))) (p:=(¬(decide (1<=gI L.own v)=true))∨((op=17)/\(xt>=0))) (Yj (Yl Iff.rfl) (YD Zs dq)) (fun Yg=>?_) (fun Yg=>?_)
  ·exact ar (Z8 (r1 [] (.inr ⟨rfl,rfl,(by rw [hO,Z6 (Yg.imp (fun h g=>h (decide_eq_true g)) id)])⟩)))
  have hG:¬(¬1<=gI L.own v∨(op=17/\xt>=0)):=fun z=>Yg (z.imp (fun h g=>h (of_decide_eq_true g)) id)
  have hbd:=Z3d hk (Ww.1 fun z=>hG (.inl z)) hi
  refine ak (Yp 1 [4] (ZC [] (Z6a a1) (io (.i (((VN a1.fds a1.fst).length:Nat):Int)) (.i (((Zk (VN a1.fds a1.fst)).length:Nat):Int)) (li (by rw [Yn])) (Z0 (ab 1 (ZU (fun fz gz m F h=>∃(k:Nat) (o:LI),(k<=(VN a1.fds a1.fst).length)/\(o.length=L.vars.length)/\(∀y∈o,0<=y/\y<=q+k)/\(BE o ((VN a1.fds a1.fst).drop k)=UP (Xf L v).own a1.fst a1.fds)/\F=sF [0,1,2,7,64,65] fz [(66,.i k)]/\h=[Zy gz 0,Zy gz 1,rV gb o,Zy gz 3,Zy gz 4]/\m=(VN a1.fds a1.fst).length-k) _ _ _ ⟨0,(Xf L v).own,ob,ob,(fun y hy=>by have:=hbd y hy;omega),(by rw [TR];exact Z1n),rfl,rfl,rfl⟩ (Y5 5 (ZW fl)) ?_))))))
  rintro m F h ⟨k,o,Y0,Z9,Zz,Y8,rfl,rfl,rfl⟩
  refine Zh (aq (Xi ((k:Int)<(((VN a1.fds a1.fst).length:Nat):Int)) (fun Xp=>?_) (fun Xp=>?_)))
  ·refine ak (aq (ab 2 (ar ?_)))
   obtain ⟨x1,Z2⟩:=Zv (VN a1.fds a1.fst) k om
   have hfm:=HH (YF Z2)
   refine Zi (Zr none (k:Int) 1 (Yf Z2)) (Z0 (az (Y6 5 [0] (Zi (XE 2 gb o x1 x1.toNat (hq:=rfl)) ?_))))
   obtain ⟨x2,Zt⟩:=Zv o x1.toNat om
   have hy2:=Zz _ (YF Zt)
   have hgx:=Vt Zt
   exact Xx (WV 2 gb o x1.toNat x2 Zt) (ia ((x2+1)) ((x2)+(1)) (Zi (XE 2 gb o x1 x1.toNat (hq:=rfl)) (BW 2 gb o x1.toNat (x2+1) (ie (az (ZK k (Z0 (ZJ ⟨k+1,(o.set x1.toNat (x2+1)),ob,(by simp [Z9]),(by intro y hy;rcases QP hy with hy|rfl<;>first|(have:=Zz y hy;omega)|omega),(Z1o Z2 hgx Y8),rfl,rfl,rfl⟩ (wk [1,1,0,0,0] (ZL k fl))))))))))
  refine ax 1 (Yt (Yw (op==17) Zs (fun Wf=>?_) (fun Wf=>?_)))
  ·refine aE 10 (Ya 3 10 [0,1,2,3,4,5,6] [0,4] (dw 7 (Yn a1.fds) (dx 8 (XE 3 gc ((Xf L v).tok) v v.toNat (hq:=rfl)) (ZF 9 (Jy 9 3 [] [] gc ((Xf L v).tok) v.toNat (a1.fds.length:Int) (de (Zh ?_)))))))
   have hE:=MF om Y8
   exact ZG (r1 [1,1,1,0] (.inl ⟨(Zb.mk L.vars o L.par L.con L.fst (L.tok.set v.toNat a1.fds.length)),rfl,rfl,(by rw [hO,Z4 hG,Z6 Wf,hE];rfl)⟩) (eq:=(rc (rv (xs:=(Xf L v).vars) ob (rv (xs:=o) ob (rv (xs:=(((Xf L v).tok).set v.toNat (a1.fds.length:Int))) ob rz))))))
  refine ak (Zh ?_)
  have hE:=MF om Y8
  exact ZG (r1 [0,0,0,0] (.inl ⟨(Zb.mk L.vars o L.par L.con L.fst L.tok),rfl,rfl,(by rw [hO,Z4 hG,Z4 Wf,hE];rfl)⟩) (eq:=(rc (rv (xs:=(Xf L v).vars) ob (rv (xs:=o) ob (rv (xs:=(Xf L v).tok) ob rz))))))
 exact Z1 3 (iA [.i 0,.i 0,nl,.b false] fun b2=>Y4 0 b2 [.i 0,.i 0,ZY [] (.slice none 0 0),.b false] (Z0 (Ym (W7 (ar (Z8 (r1 [] (.inr ⟨rfl,rfl,((N3 (n:=n) (ln:=ln) Z5 Zw).trans (Zad har hi XH))⟩))))))))
end Go.Abs
section
namespace Go.Proofs
open Go.Shelf Go.RowKit Go.Lib
section
variable {P:Program}
theorem Zfk (w:World) {o:Oper} {a:Act} {K:Act→World→Prop} {Q:Exit→Act→World→Prop} (d s:Operand) (t t':TypeId)
  (ho:o.op=.call { callee:=.builtin .copy,args:=#[d,s],argTypes:=#[t,t'] }) (v u:Value) (hd:a.eval d=v) (hs:a.eval s=u) {v':Value} {w':World}
  (hr:(Builtin.copy_ #[t,t'] o.type #[v,u]).run P w=.ok v' w') (h:K (a.put o.dst v') w'):o.wp P a w K Q:=by
 unfold Oper.wp execOp
 simp only [ho,resolve,invoke,builtin,Sem.run_bind,Sem.run_pure,Result.andThen_ok,List.map_toArray,List.map_cons,List.map_nil,hd,hs,hr]
 exact h
theorem LF (w:World) {ops:Array Oper} {rest:List Oper} {o:Oper} {a:Act} {Q:Exit→Act→World→Prop} (hgd:o.guard=none) (d s:Operand) (t t':TypeId)
  (ho:o.op=.call { callee:=.builtin .copy,args:=#[d,s],argTypes:=#[t,t'] }) (v u:Value) (hd:a.eval d=v) (hs:a.eval s=u) {v':Value} {w':World}
  (hr:(Builtin.copy_ #[t,t'] o.type #[v,u]).run P w=.ok v' w') (h:wpList P ops Q rest (a.put o.dst v') w'):wpList P ops Q (o::rest) a w:=
 wpList_plain hgd fun _ hK=>Zfk w d s t t' ho v u hd hs hr (hK _ _ h)
theorem Se {ops:Array Oper} {o:Oper} {a:Act} {w:World} {K:Act→World→Prop} {Q:Exit→Act→World→Prop} {E:Prop}
  (hg:o.guard=none) (d x:Operand) (dT sT:TypeId) (hop:o.op=Op.call { callee:=Callee.builtin Builtin.copy,args:=#[d,x],argTypes:=#[dT,sT] })
  (v u:Value) (hd:a.eval d=v) (hx:a.eval x=u) {v':Value} {w':World} (hr:(Builtin.copy_ #[dT,sT] o.type #[v,u]).run P w=.ok v' w') (hK:K (a.put o.dst v') w') :
  if Region.wanted o (yielded ops a.tmps)=true then Oper.wp P o a w K Q else E:=by
 have hw:Region.wanted o (yielded ops a.tmps)=true:=by simp [Region.wanted,hg]
 rw [if_pos hw]
 unfold Oper.wp
 simp [execOp,hop,resolve,invoke,builtin,hd,hx,hr,Result.andThen]
 exact hK
theorem EU (b:Nat) (vs:List Value) (o:Nat) (w:World) (h:∀j,j<vs.length→(w.cell? ⟨b,o+j,none⟩).isSome=true) (k:Nat) (hk:(w.cell? ⟨b,k,none⟩).isSome=true):((w.setCells b o vs).cell? ⟨b,k,none⟩).isSome=true:=by
 by_cases hin:o≤k∧k<o+vs.length
 ·have:=World.cell?_setCells_in b vs o w h (k-o) (by omega)
  rw [show o+(k-o)=k by omega] at this
  rw [this];rfl
 ·rw [World.cell?_setCells_out b vs o w ⟨b,k,none⟩ (fun _ _=>by show k<o∨o+vs.length≤k;omega)]
  exact hk
end
theorem i3:(Tryz.prog.info? 3).map (fun i=>(i.zero,i.size,i.bytes))=some (some (Value.int IntKind.i64 0),1,8):=by kernel_rfl
theorem z3 (w:World):(Go.sizeOf 3).run Tryz.prog w=.ok 1 w:=by
 obtain ⟨i0,hi0,h0,h1,h2⟩:=info_parts i3
 have e:=run_sizeOf (P:=Tryz.prog) w hi0
 rwa [show Tryz.prog.cellsOf 3=1 by kernel_rfl] at e
set_option maxHeartbeats 4000000 in
set_option maxRecDepth 100000 in
theorem Z7o (b off n c i vb voff m vc:Nat) (cs vs:List Value) (w:World) (hi:i<n) (hm:0<m) (hroom:n+m≤c) (hc63:n+m≤9223372036854775807) (hvb:vb≠b)
  (hcl:cs.length=n) (hvl:vs.length=m)
  (hcs:∀j v,cs[j]? = some v→w.cell? ⟨b,off+j,none⟩=some v) (hsp:∀j,j<n+m→(w.cell? ⟨b,off+j,none⟩).isSome=true) (hfz:∀j,j<n+m→w.frozen? ⟨b,off+j,none⟩=false)
  (hvs:∀j v,vs[j]? = some v→w.cell? ⟨vb,voff+j,none⟩=some v) (h1c:∀v∈cs,v.oneCell'=true) (h1v:∀v∈vs,v.oneCell'=true)
  (tA tB:TypeId) (kA kB:Nat) (hsa:w.shape? vb=some (tA,kA)) (hsb:w.shape? b=some (tB,kB)) (hkB:kB≠0) (hfa:w.frozen? ⟨vb,voff,none⟩=false) (hfe:w.frozen? ⟨vb,kA,none⟩=false) :
  Calls Tryz.prog 345 #[.slice (some ⟨b,off,none⟩) n c,.int .i64 i,.slice (some ⟨vb,voff,none⟩) m vc] w fun e w'=>
   e=.returned (.slice (some ⟨b,off,none⟩) (n+m) c)∧w'=(w.drew.setCells b (off+(i+m)) (cs.drop i)).setCells b (off+i) vs:=by
 have mixed:Tryz.prog.follows .mixedOrders=true:=by kernel_rfl
 have hz1:¬((m:Int)=0):=by omega
 have hz2:¬((i:Int)=(n:Int)):=by omega
 have hsz:(Tryz.prog.info? 3).map (·.size)=some 1:=by
  obtain ⟨i0,hi0,h0,h1,h2⟩:=info_parts i3
  rw [hi0];simp [h1]
 have hov:∀lb cb,(callFunc 359 #[.slice (some ⟨vb,voff,none⟩) m vc,.slice (some ⟨b,off+(i+m),none⟩) lb cb]).run Tryz.prog w=.ok (.value (.bool false)) w:=fun lb cb=>by
  rw [run_callFunc_extern Tryz.func359 (by kernel_rfl) (by kernel_rfl) (by kernel_rfl) (e:=Extern.SlicesOverlaps.overlaps #[23,23] #[4]) (by kernel_rfl),
   Lib.run_overlaps_apart w 23 4 3 Tryz.underlying23 1 z3 ⟨vb,voff,none⟩ ⟨b,off+(i+m),none⟩ m vc lb cb hvb tA tB kA kB hsa hsb hkB hfa hfe]
  rfl
 have hdl:(cs.drop i).length=n-i:=by rw [List.length_drop,hcl]
 have hw1:IntKind.i64.wrap ((i:Int)+(m:Int))=(i:Int)+(m:Int):=by rw [IntKind.wrap_i64];omega
 have hb1:(0:Int)≤(i:Int)+(m:Int):=by omega
 have hin:i≤n:=by omega
 have htn:((i:Int)+(m:Int)).toNat=i+m:=by omega
 have hb2:¬(c=i+m):=by omega
 have hb3:(i:Int)≤(n:Int)+(m:Int):=by omega
 have hb4:¬(c=i):=by omega
 have hcp1:∀ty dc sc,(Builtin.copy_ #[317,317] ty #[.slice (some ⟨b,off+(i+m),none⟩) (n+m-(i+m)) dc,.slice (some ⟨b,off+i,none⟩) (n+m-i) sc]).run Tryz.prog w.drew=.ok (goInt (cs.drop i).length) (w.drew.setCells b (off+(i+m)) (cs.drop i)):=fun ty dc sc=>
  run_copy_cells w.drew _ _ ty 3 b (off+(i+m)) (n+m-(i+m)) dc ⟨b,off+i,none⟩ (n+m-i) sc (cs.drop i) Tryz.underlying317 hsz (by rw [hdl];simp only [Nat.min_def];split<;>omega)
   (fun j v hj=>by rw [Addr.add_lit,Nat.add_assoc];exact hcs (i+j) v (by rwa [List.getElem?_drop] at hj))
   (fun j hj=>by rw [Nat.add_assoc];exact hsp _ (by omega)) (fun j hj=>by rw [Nat.add_assoc];exact hfz _ (by omega)) (fun v hv=>h1c v (List.mem_of_mem_drop hv))
 obtain ⟨W1,hW1⟩:∃W1,W1=w.drew.setCells b (off+(i+m)) (cs.drop i):=⟨_,rfl⟩
 have hsp1:∀k,k<n+m→(W1.cell? ⟨b,off+k,none⟩).isSome=true:=fun k hk=>by
  rw [hW1]
  exact EU b _ _ _ (fun j hj=>by rw [Nat.add_assoc];exact hsp _ (by omega)) _ (hsp k hk)
 have hcp2:∀(W:World),(∀x,W.cell? x=W1.cell? x)→(∀x,W.frozen? x=W1.frozen? x)→∀ty dc,(Builtin.copy_ #[317,23] ty #[.slice (some ⟨b,off+i,none⟩) (n+m-i) dc,.slice (some ⟨vb,voff,none⟩) m vc]).run Tryz.prog W=.ok (goInt vs.length) (W.setCells b (off+i) vs):=fun W hWc hWf ty dc=>
  run_copy_cells W _ _ ty 3 b (off+i) (n+m-i) dc ⟨vb,voff,none⟩ m vc vs Tryz.underlying317 hsz (by rw [hvl];simp only [Nat.min_def];split<;>omega)
   (fun j v hj=>by
    rw [Addr.add_lit,hWc,hW1,World.cell?_setCells_out b _ _ _ _ (fun h _=>absurd h hvb)]
    exact hvs j v hj)
   (fun j hj=>by rw [hWc,Nat.add_assoc];exact hsp1 _ (by omega)) (fun j hj=>by rw [hWf,hW1,World.frozen?_setCells,Nat.add_assoc];exact hfz _ (by omega)) h1v
 rw [←hW1] at hcp1
 go_enter Tryz.func345,Tryz.ntmps345
 go_wp2_with (simp only [hov])
 go_region_law_o (refine Se rfl _ _ 317 317 rfl _ _ (by simp [Act.eval,Act.put]) (by simp [Act.eval,Act.put]) (hcp1 _ _ _) ?_)
 go_wp2_with (at_builtin;refine LF _ rfl _ _ 317 23 rfl _ _ rfl rfl (hcp2 _ (fun _=>rfl) (fun _=>rfl) _ _) ?_)
 go_ret
 first|exact ⟨rfl,rfl⟩|exact ⟨rfl,by rw [hW1]⟩
set_option maxHeartbeats 4000000 in
set_option maxRecDepth 100000 in
theorem Z7k (b off n c vb voff m vc:Nat) (vs:List Value) (w:World) (hm:0<m) (hroom:n+m≤c) (hc63:n+m≤9223372036854775807)
  (hvl:vs.length=m) (hsp:∀j,j<m→(w.cell? ⟨b,off+n+j,none⟩).isSome=true) (hfz:∀j,j<m→w.frozen? ⟨b,off+n+j,none⟩=false)
  (hvs:∀j v,vs[j]? = some v→w.cell? ⟨vb,voff+j,none⟩=some v) (h1v:∀v∈vs,v.oneCell'=true) :
  Calls Tryz.prog 345 #[.slice (some ⟨b,off,none⟩) n c,.int .i64 n,.slice (some ⟨vb,voff,none⟩) m vc] w fun e w'=>
   e=.returned (.slice (some ⟨b,off,none⟩) (n+m) c)∧w'=w.setCells b (off+n) vs:=by
 have mixed:Tryz.prog.follows .mixedOrders=true:=by kernel_rfl
 have hz1:¬((m:Int)=0):=by omega
 have hsrc:Src Tryz.prog 1 23 (.slice (some ⟨vb,voff,none⟩) m vc) m vs w:=Src.ofSlice w Tryz.underlying23 ⟨vb,voff,none⟩ m vc vs (by omega) (fun j u hj=>by rw [Addr.add_lit];exact hvs j u hj) h1v
 go_enter Tryz.func345,Tryz.ntmps345
 go_wp2_with (at_builtin;refine wpList_append_room1 _ rfl _ _ 317 23 rfl 3 _ _ Tryz.underlying317 i3 b off n c rfl _ rfl m vs hsrc hroom (by rw [hvl];exact hsp) (by rw [hvl];exact hfz) ?_)
 go_ret
 exact ⟨rfl,rfl⟩
set_option maxHeartbeats 4000000 in
set_option maxRecDepth 100000 in
theorem Oy (base:Option Addr) (n c vb voff m vc:Nat) (cs vs:List Value) (w:World) (hm:0<m) (hnc:n≤c) (hroom:c<n+m) (hbig:(n+m)*8≤140737488355328)
  (hcl:cs.length=n) (hvl:vs.length=m) (hnil:base=none→n=0)
  (hcs:∀a,base=some a→∀j v,cs[j]? = some v→w.cell? (a.add j)=some v)
  (hvs:∀j v,vs[j]? = some v→w.cell? ⟨vb,voff+j,none⟩=some v) (h1v:∀v∈vs,v.oneCell'=true) :
  Calls Tryz.prog 345 #[.slice base n c,.int .i64 n,.slice (some ⟨vb,voff,none⟩) m vc] w fun e w'=>
   e=.returned (.slice (some ⟨w.heap.size,0,none⟩) (n+m) (grownCap w (n+m) c 3)) ∧
   w'=w.drew.alloc (.cells ((cs++vs).toArray++Builtin.zeroCells (Value.int .i64 0).cells (grownCap w (n+m) c 3-(n+m))) 3):=by
 obtain ⟨i0,hi0,hz0,hzs,hzb⟩:=info_parts i3
 have mixed:Tryz.prog.follows .mixedOrders=true:=by kernel_rfl
 have hz1:¬((m:Int)=0):=by omega
 have hsrc:Src Tryz.prog i0.size 23 (.slice (some ⟨vb,voff,none⟩) m vc) m vs w:=by
  rw [hzs]
  exact Src.ofSlice w Tryz.underlying23 ⟨vb,voff,none⟩ m vc vs (by omega) (fun j u hj=>by rw [Addr.add_lit];exact hvs j u hj) h1v
 have hold:(Builtin.firstCells i0.size n (.slice base n c)).run Tryz.prog w.drew=.ok cs.toArray w.drew:=by
  rw [hzs]
  cases base with
  | none=>
   have h0:=hnil rfl
   subst h0
   rw [List.length_eq_zero_iff.1 hcl]
   exact run_firstCells_none w.drew 1 0 0 c
  | some a=>exact run_firstCells_some w.drew 1 n a n c cs (by omega) (fun j v hj=>hcs a rfl j v hj)
 have hrun:∀ty,(Builtin.append_ #[317,23] ty #[.slice base n c,.slice (some ⟨vb,voff,none⟩) m vc]).run Tryz.prog w=_:=fun ty=>
  run_append_grow_src w 317 23 ty 3 i0 _ Tryz.underlying317 hi0 hz0 base n c cs hold _ m vs hsrc hroom (by omega) (by rw [hzb];exact growslice_fits hroom hbig)
 go_enter Tryz.func345,Tryz.ntmps345
 cases base with
 | none=>
  have h0:=hnil rfl
  subst h0
  go_wp2_with (at_builtin;refine Lib.wpList_append_run _ rfl _ _ _ _ rfl _ _ rfl rfl _ _ (hrun _) ?_)
  go_ret
  exact ⟨rfl,rfl⟩
 | some a=>
  obtain ⟨ab,ao,asp⟩:=a
  go_wp2_with (at_builtin;refine Lib.wpList_append_run _ rfl _ _ _ _ rfl _ _ rfl rfl _ _ (hrun _) ?_)
  all_goals (go_ret;exact ⟨rfl,rfl⟩)
set_option maxHeartbeats 4000000 in
set_option maxRecDepth 100000 in
theorem Z7l (b off n c i vb voff m vc:Nat) (cs vs:List Value) (w:World) (hi:i<n) (hm:0<m) (hnc:n≤c) (hroom:c<n+m) (hbig:(n+m)*8≤140737488355328)
  (hcl:cs.length=n) (hvl:vs.length=m)
  (hcs:∀j v,cs[j]? = some v→w.cell? ⟨b,off+j,none⟩=some v)
  (hvs:∀j v,vs[j]? = some v→w.cell? ⟨vb,voff+j,none⟩=some v) (h1c:∀v∈cs,v.oneCell'=true) (h1v:∀v∈vs,v.oneCell'=true) :
  Calls Tryz.prog 345 #[.slice (some ⟨b,off,none⟩) n c,.int .i64 i,.slice (some ⟨vb,voff,none⟩) m vc] w fun e w'=>
   e=.returned (.slice (some ⟨w.heap.size,0,none⟩) (n+m) (grownCap w (n+m) c 3)) ∧
   w'=(((w.alloc (.cells ((cs.take i).toArray++Builtin.zeroCells (Value.int .i64 0).cells (n+m-i)++Builtin.zeroCells (Value.int .i64 0).cells (grownCap w (n+m) c 3-(n+m))) 3)).drew.setCells w.heap.size i vs).drew).setCells w.heap.size (i+m) (cs.drop i):=by
 obtain ⟨i0,hi0,hz0,hzs,hzb⟩:=info_parts i3
 have mixed:Tryz.prog.follows .mixedOrders=true:=by kernel_rfl
 have hz1:¬((m:Int)=0):=by omega
 have hz2:¬((i:Int)=(n:Int)):=by omega
 have hz3:(c:Int)<(n:Int)+(m:Int):=by omega
 have hsz:(Tryz.prog.info? 3).map (·.size)=some 1:=by rw [hi0];simp [hzs]
 have hbw:b<w.heap.size:=block_lt_of_cell (hcs 0 _ (List.getElem?_eq_getElem (by omega)))
 have hvw:vb<w.heap.size:=block_lt_of_cell (hvs 0 _ (List.getElem?_eq_getElem (by omega)))
 have hkk:(n:Int)+(m:Int)-(i:Int)=((n+m-i:Nat):Int):=by omega
 have hik:i+(n+m-i)=n+m:=by omega
 have hold:(Builtin.firstCells i0.size i (.slice (some ⟨b,off,none⟩) i c)).run Tryz.prog w.drew=.ok (cs.take i).toArray w.drew:=by
  rw [hzs]
  exact run_firstCells_some w.drew 1 i ⟨b,off,none⟩ i c (cs.take i) (by rw [List.length_take];omega) (fun j v hj=>by
   rw [Addr.add_lit]
   rw [List.getElem?_take] at hj
   split at hj
   ·exact hcs j v hj
   ·cases hj)
 have hrz:∀ty,(Builtin.append_ #[317,3] ty #[.slice (some ⟨b,off,none⟩) i c,.int .i64 ((n:Int)+(m:Int)-(i:Int))]).run Tryz.prog w =
   .ok (.slice (some ⟨w.heap.size,0,none⟩) (n+m) (grownCap w (n+m) c 3)) (w.drew.alloc (.cells ((cs.take i).toArray++Builtin.zeroCells (Value.int .i64 0).cells (n+m-i)++Builtin.zeroCells (Value.int .i64 0).cells (grownCap w (n+m) c 3-(n+m))) 3)):=fun ty=>by
  have h:=Lib.run_append_grow_zeros w 317 3 ty 3 i0 _ .i64 .i64 Tryz.underlying317 Tryz.underlying3 hi0 hz0 (some ⟨b,off,none⟩) i c (cs.take i) hold (n+m-i) (by omega) (by omega) (by omega) (by omega) (by rw [hzb];omega) (by rw [hzb,hik];exact growslice_fits hroom hbig)
  rw [hik] at h
  rw [hkk]
  exact h
 obtain ⟨G,hG⟩:∃G,G=grownCap w (n+m) c 3:=⟨_,rfl⟩
 obtain ⟨ROW,hROW⟩:∃ROW:Array Value,ROW=(cs.take i).toArray++Builtin.zeroCells (Value.int .i64 0).cells (n+m-i)++Builtin.zeroCells (Value.int .i64 0).cells (G-(n+m)):=⟨_,rfl⟩
 rw [←hG] at hrz ⊢
 rw [←hROW] at hrz ⊢
 have hRl:n+m≤ROW.size:=by
  rw [hROW]
  simp [Builtin.zeroCells,Value.cells]
  omega
 obtain ⟨W1,hW1⟩:∃W1,W1=w.drew.alloc (.cells ROW 3):=⟨_,rfl⟩
 rw [←hW1] at hrz
 have hN:∀j,j<n+m→(W1.cell? ⟨w.heap.size,j,none⟩).isSome=true:=fun j hj=>by
  rw [hW1,World.cell?_alloc_at (w:=w.drew) ROW _ w.heap.size j rfl,Array.getElem?_eq_getElem (by omega)];rfl
 have hNf:∀j,W1.frozen? ⟨w.heap.size,j,none⟩=false:=fun j=>by rw [hW1];exact World.frozen?_alloc_at (w:=w.drew) ROW _ w.heap.size j rfl
 have hOb:∀j v,w.cell? ⟨b,j,none⟩=some v→W1.cell? ⟨b,j,none⟩=some v:=fun j v h=>by rw [hW1,World.cell?_alloc_past (w:=w.drew) _ b j hbw];exact h
 have hOv:∀j v,w.cell? ⟨vb,j,none⟩=some v→W1.cell? ⟨vb,j,none⟩=some v:=fun j v h=>by rw [hW1,World.cell?_alloc_past (w:=w.drew) _ vb j hvw];exact h
 have hcpA:∀(W:World),(∀x,W.cell? x=W1.cell? x)→(∀x,W.frozen? x=W1.frozen? x)→∀ty dc,(Builtin.copy_ #[317,23] ty #[.slice (some ⟨w.heap.size,i,none⟩) (n+m-i) dc,.slice (some ⟨vb,voff,none⟩) m vc]).run Tryz.prog W=.ok (goInt vs.length) (W.setCells w.heap.size i vs):=fun W hWc hWf ty dc=>
  run_copy_cells W _ _ ty 3 w.heap.size i (n+m-i) dc ⟨vb,voff,none⟩ m vc vs Tryz.underlying317 hsz (by rw [hvl];simp only [Nat.min_def];split<;>omega)
   (fun j v hj=>by rw [Addr.add_lit,hWc];exact hOv _ v (hvs j v hj))
   (fun j hj=>by rw [hWc];exact hN _ (by omega)) (fun j hj=>by rw [hWf];exact hNf _) h1v
 have hGn:n+m≤G:=by rw [hG];exact grownCap_ge w _ _ _
 have hG63:G≤9223372036854775807:=by
  have:=grownCap_le_maxLen w (n+m) c 3 (by unfold maxLen;omega)
  rw [←hG] at this
  unfold maxLen at this
  omega
 have hGi:¬(G=i):=by omega
 have hGim:¬(G=i+m):=by omega
 have hci:¬(c=i):=by omega
 have hbN:b≠w.heap.size:=by omega
 have hdl:(cs.drop i).length=n-i:=by rw [List.length_drop,hcl]
 have hcpB:∀(W:World),(∀x,W.cell? x=(W1.setCells w.heap.size i vs).cell? x)→(∀x,W.frozen? x=(W1.setCells w.heap.size i vs).frozen? x)→∀ty dc sc,(Builtin.copy_ #[317,317] ty #[.slice (some ⟨w.heap.size,i+m,none⟩) (n+m-(i+m)) dc,.slice (some ⟨b,off+i,none⟩) (n-i) sc]).run Tryz.prog W=.ok (goInt (cs.drop i).length) (W.setCells w.heap.size (i+m) (cs.drop i)):=fun W hWc hWf ty dc sc=>
  run_copy_cells W _ _ ty 3 w.heap.size (i+m) (n+m-(i+m)) dc ⟨b,off+i,none⟩ (n-i) sc (cs.drop i) Tryz.underlying317 hsz (by rw [hdl];simp only [Nat.min_def];split<;>omega)
   (fun j v hj=>by
    rw [Addr.add_lit,hWc,World.cell?_setCells_out _ _ _ _ _ (fun h _=>absurd h hbN),Nat.add_assoc]
    exact hOb _ v (hcs (i+j) v (by rwa [List.getElem?_drop] at hj)))
   (fun j hj=>by rw [hWc];exact EU _ _ _ _ (fun t ht=>hN _ (by omega)) _ (hN _ (by omega)))
   (fun j hj=>by rw [hWf,World.frozen?_setCells];exact hNf _) (fun v hv=>h1c v (List.mem_of_mem_drop hv))
 subst hW1
 have hE1:∀x,((w.alloc (.cells ROW 3)).drew).cell? x=(w.drew.alloc (.cells ROW 3)).cell? x:=fun x=>rfl
 have hE2:∀x,((w.alloc (.cells ROW 3)).drew).frozen? x=(w.drew.alloc (.cells ROW 3)).frozen? x:=fun x=>rfl
 have hF1:∀x,(((w.alloc (.cells ROW 3)).drew.setCells w.heap.size i vs).drew).cell? x=((w.drew.alloc (.cells ROW 3)).setCells w.heap.size i vs).cell? x:=fun x=>rfl
 have hF2:∀x,(((w.alloc (.cells ROW 3)).drew.setCells w.heap.size i vs).drew).frozen? x=((w.drew.alloc (.cells ROW 3)).setCells w.heap.size i vs).frozen? x:=fun x=>rfl
 have hw1:IntKind.i64.wrap ((i:Int)+(m:Int))=(i:Int)+(m:Int):=by rw [IntKind.wrap_i64];omega
 have hb1:(0:Int)≤(i:Int)+(m:Int):=by omega
 have hin:i≤n:=by omega
 have htn:((i:Int)+(m:Int)).toNat=i+m:=by omega
 have hb3:(i:Int)≤(n:Int):=by omega
 clear hkk hik hold hROW hG hRl
 go_enter Tryz.func345,Tryz.ntmps345
 go_wp2_with (first
  | (at_builtin;refine Lib.wpList_append_run _ rfl _ _ _ _ rfl _ _ rfl rfl _ _ (hrz _) ?_)
  | (at_builtin;refine LF _ rfl _ _ 317 23 rfl _ _ rfl rfl (hcpA _ hE1 hE2 _ _) ?_)
  | (at_builtin;refine LF _ rfl _ _ 317 317 rfl _ _ rfl rfl (hcpB _ (fun _=>rfl) (fun _=>rfl) _ _ _) ?_))
 go_region_law_o (refine Se rfl _ _ 317 317 rfl (.slice (some ⟨w.heap.size,i+m,none⟩) (n+m-(i+m)) (G-(i+m))) (.slice (some ⟨b,off+i,none⟩) (n-i) (c-i)) (by simp [Act.eval,Act.put]) (by simp [Act.eval,Act.put]) (hcpB _ hF1 hF2 3 (G-(i+m)) (c-i)) ?_)
 go_wp2
 go_ret
 exact ⟨rfl,rfl⟩
end Go.Proofs
end
namespace Go.Abs
open Go.Proofs
structure TA (b:Nat) (w w':World):Prop where
 os:w'.os=w.os
 tape:w'.tape=w.tape
 output:w'.output=w.output
 size:w'.heap.size=w.heap.size
 other:∀c,c≠b->w'.heap[c]? = w.heap[c]?
 row:∀cs e,w.heap[b]? = some (.cells cs e (0,0))->∃cs',w'.heap[b]? = some (.cells cs' e (0,0))/\cs'.size=cs.size
theorem TA.refl (b:Nat) (w:World):TA b w w:=⟨rfl,rfl,rfl,rfl,fun _ _=>rfl,fun cs _ h=>⟨cs,h,rfl⟩⟩
theorem TA.drew {b:Nat} {w w':World} (h:TA b w w'):TA b w w'.drew:=⟨h.os,h.tape,h.output,h.size,h.other,h.row⟩
theorem TA.cell {b:Nat} {w w':World} (h:TA b w w') (j:Nat) (v:Value):TA b w (w'.setCell ⟨b,j,none⟩ v):=
 ⟨h.os,h.tape,h.output,by simp [World.setCell];exact h.size,fun c hc=>(heap_setCell_other w' ⟨b,j,none⟩ c v hc).trans (h.other c hc),fun cs e hb=>by
  obtain ⟨cs',h1,h2⟩:=h.row cs e hb
  exact ⟨_,heap_setCell_same w' b j cs' e v h1,by simpa using h2⟩⟩
theorem TA.cells {b:Nat} {w:World}:∀(vs:List Value) (o:Nat) (w':World),TA b w w'->TA b w (w'.setCells b o vs)
 | [],_,_,h=>h
 | v::r,o,w',h=>TA.cells r (o+1) _ (h.cell o v)
theorem IC {w:World} {G:ZE}:∀ys:LI,Yc w G (Zk ys) (ys.map (fun z=>Value.int .i64 z))
 | []=>.nil
 | _::r=>.cons .val (IC r)
theorem OB {w:World} {G:ZE}:∀{ys:LI} {vs:List Value},Yc w G (Zk ys) vs->vs=ys.map (fun z=>Value.int .i64 z)
 | [],_,.nil=>rfl
 | _::r,_,.cons h t=>by rw [WC,<-OB (ys:=r) t,h.val_inv]
theorem Su {cs:Array Value} {ys:LI} (h:∀(j:Nat) z,ys[j]? = some z->cs[j]? = some (Value.int .i64 z)):cs.toList.take ys.length=ys.map (fun z=>Value.int .i64 z):=by
 apply List.ext_getElem?
 intro j
 rw [TS]
 split
 ·rename_i hj
  have hx:=Qz hj
  have:=h j _ hx
  rw [Bo,this,Tm,hx]
  rfl
 ·rename_i hj
  simp [FW (Nat.le_of_not_lt hj)]
theorem Rh {w w':World} {G:ZE} {g len cap len':Nat} {ls:List AV} {ys:LI} {r:List Res} (hh:ZZ w G (.row (.slice (some ⟨g,0,none⟩) len cap) 1 ls::r)) (hw:TA g w w') (hlen:ys.length=len') (hle:len'<=cap)
  (hc:∀(j:Nat) z,ys[j]? = some z->w'.cell? ⟨g,j,none⟩=some (Value.int .i64 z)) :
  ZZ w' G [.row (.slice (some ⟨g,0,none⟩) len' cap) 1 (Zk ys)]/\Yu w G (.row (.slice (some ⟨g,0,none⟩) len cap) 1 ls::r) w' G [.row (.slice (some ⟨g,0,none⟩) len' cap) 1 (Zk ys)]:=by
 have hmem:Res.row (.slice (some ⟨g,0,none⟩) len cap) 1 ls∈Res.row (.slice (some ⟨g,0,none⟩) len cap) 1 ls::r:=YY ..
 rcases hh.ok _ hmem with ⟨e,_⟩|⟨g',len2,cap2,cur,el,e,h1,h2,h3,h4,h5⟩
 ·cases e
 ·cases e
  obtain ⟨cs',k1,k2⟩:=hw.row cur el h1
  have hcell:∀j,w'.cell? ⟨g,j,none⟩=cs'[j]?:=fun j=>cell_of_row w' g j cs' el (0,0) k1
  refine ⟨⟨fun q hq=>?_,Kw _ _,fun q hq c j hf hg=>?_,fun c j hg=>?_⟩,
   ⟨hw.os,hw.tape,hw.output,by rw [hw.size];exact X1 _,fun _ _ h=>h,fun c _=>?_,fun _ _ _ h=>.inl h,fun c j _ ⟨q,hq,hf⟩=>?_⟩⟩
  ·rw [YL.1 hq]
   refine .inr ⟨g,len',cap,cs',el,rfl,k1,hle,k2.trans h3,by simp [hlen],?_⟩
   rw [UO,<-hlen,Su fun j z hz=>by rw [<-hcell];exact hc j z hz]
   exact IC ys
  ·rw [YL.1 hq] at hf
   exact hh.prot _ hmem c j hf hg
  ·rw [hw.size];exact hh.lt c j hg
  ·by_cases hcg:c=g
   ·subst hcg
    exact .ce ⟨cur,cs',el,(0,0),h1,k1,k2,fun o hn=>absurd ⟨_,hmem,rfl⟩ hn⟩
   ·exact .inl (hw.other c hcg)
  ·rw [YL.1 hq] at hf
   exact ⟨_,hmem,hf⟩
theorem Rg {w w':World} {G:ZE} {cap len':Nat} {h:List Res} {ys:LI} {cs':Array Value} {el:TypeId} (hh:ZZ w G h) (os:w'.os=w.os) (tape:w'.tape=w.tape) (output:w'.output=w.output)
  (YH:w'.heap.size=w.heap.size+1) (hoth:∀c,c<w.heap.size->w'.heap[c]? = w.heap[c]?) (hb:w'.heap[w.heap.size]? = some (.cells cs' el (0,0))) (hcap:cs'.size=cap) (hlen:ys.length=len') (hle:len'<=cap)
  (hc:∀(j:Nat) z,ys[j]? = some z->w'.cell? ⟨w.heap.size,j,none⟩=some (Value.int .i64 z)) :
  ZZ w' G [.row (.slice (some ⟨w.heap.size,0,none⟩) len' cap) 1 (Zk ys)]/\Yu w G h w' G [.row (.slice (some ⟨w.heap.size,0,none⟩) len' cap) 1 (Zk ys)]:=by
 have hcell:∀j,w'.cell? ⟨w.heap.size,j,none⟩=cs'[j]?:=fun j=>cell_of_row w' _ j cs' el (0,0) hb
 refine ⟨⟨fun q hq=>?_,Kw _ _,fun q hq c j hf hg=>?_,fun c j hg=>?_⟩,
  ⟨os,tape,output,by omega,fun _ _ h=>h,fun c hcl=>.inl (hoth c hcl),fun _ _ _ h=>.inl h,fun c j hcl ⟨q,hq,hf⟩=>?_⟩⟩
 ·rw [YL.1 hq]
  refine .inr ⟨_,len',cap,cs',el,rfl,hb,hle,by rw [hcap,UO],by simp [hlen],?_⟩
  rw [UO,<-hlen,Su fun j z hz=>by rw [<-hcell];exact hc j z hz]
  exact IC ys
 ·rw [YL.1 hq] at hf
  have:c=w.heap.size:=hf
  have:=hh.lt c j hg
  omega
 ·have:=hh.lt c j hg;omega
 ·rw [YL.1 hq] at hf
  have:c=w.heap.size:=hf
  omega
def Tb (xs:LI) (p:Nat) (v:Int):LI:=xs.take p++v::xs.drop p
theorem BZ (xs:LI) (p:Nat) (v:Int) (hp:p<=xs.length):(Tb xs p v).length=xs.length+1:=by simp [Tb];omega
theorem Z7d {xs:LI} {p j:Nat} {v:Int} (h:j<p) (hp:p<=xs.length):(Tb xs p v)[j]? = xs[j]?:=by
 rw [Tb,DL (by simp;omega),TS,Z6 h]
theorem Z7b {xs:LI} {p:Nat} {v:Int} (hp:p<=xs.length):(Tb xs p v)[p]? = some v:=by
 rw [Tb,Cl (by simp;omega),Kv,AP hp,Nat.sub_self];rfl
theorem Z7c {xs:LI} {p j:Nat} {v:Int} (hp:p<=xs.length):(Tb xs p v)[p+1+j]? = xs[p+j]?:=by
 rw [Tb,Cl (by simp;omega),Kv,AP hp,show p+1+j-p=j+1 by omega,List.getElem?_cons_succ,Cm]
theorem HN {xs:LI} {p j:Nat} {v z:Int} (hp:p<=xs.length) (h:(Tb xs p v)[j]? = some z):(j<p/\xs[j]? = some z)∨(j=p/\z=v)∨∃i,j=p+1+i/\xs[p+i]? = some z:=by
 rcases Nat.lt_trichotomy j p with hj|hj|hj
 ·rw [Z7d hj hp] at h;exact .inl ⟨hj,h⟩
 ·subst hj;rw [Z7b hp] at h;exact .inr (.inl ⟨rfl,(Tn h).symm⟩)
 ·obtain ⟨i,rfl⟩:∃i,j=p+1+i:=⟨j-(p+1),by omega⟩
  rw [Z7c hp] at h;exact .inr (.inr ⟨i,rfl,h⟩)
theorem Zf9 {xs:LI} {j:Nat} {u:Value} (h:(xs.map (fun z=>Value.int .i64 z))[j]? = some u):∃z,xs[j]? = some z/\u=.int .i64 z:=by
 rw [Tm] at h
 cases hx:xs[j]? with
 | none=>rw [hx] at h;cases h
 | some z=>rw [hx] at h;exact ⟨z,rfl,(Tn h).symm⟩
theorem Hr:∀xs:LI,Zu (Zk xs)=Zk xs
 | []=>rfl
 | x::r=>Ys (AV.i x::·) (Hr r)
theorem ES {w w':World} {G:ZE} {h:List Res} {u:Value} {ys:LI} (h1:ZZ w' G [.row u 1 (Zk ys)]) (h2:Yu w G h w' G [.row u 1 (Zk ys)]) :
  ∃G',RV w' G' (ZY ys u) u/\ZZ w' G' [.tail u 1]/\Yu w G h w' G' [.tail u 1]:=by
 have hf:Zu (Zk ys)=Zk ys:=Hr ys
 rw [<-hf] at h1 h2
 obtain ⟨G',a,b,c⟩:=IG h1 (Wv ys) om
 exact ⟨G',c,a,h2.trans b⟩
theorem Z0q (w:World) (o:Obj):(w.drew.alloc o).heap.size=w.heap.size+1:=Array.size_push ..
theorem Oz {w:World} {G:ZE} {h:List Res} {ys:LI} {len' K:Nat} (hh:ZZ w G h) (cs':Array Value) (YH:cs'.size=K) (hlen:ys.length=len') (hle:len'<=K)
  (hc:∀(j:Nat) z,ys[j]? = some z->cs'[j]? = some (Value.int .i64 z)) :
  ∃G',RV (w.drew.alloc (.cells cs' 3)) G' (ZY ys (.slice (some ⟨w.heap.size,0,none⟩) len' K)) (.slice (some ⟨w.heap.size,0,none⟩) len' K)/\ZZ (w.drew.alloc (.cells cs' 3)) G' [.tail (.slice (some ⟨w.heap.size,0,none⟩) len' K) 1] /\
   Yu w G h (w.drew.alloc (.cells cs' 3)) G' [.tail (.slice (some ⟨w.heap.size,0,none⟩) len' K) 1]:=by
 have hN:(w.drew.alloc (.cells cs' 3)).heap[w.heap.size]? = some (.cells cs' 3 (0,0)):=Al w.drew _
 obtain ⟨k1,k2⟩:=Rg (w':=w.drew.alloc (.cells cs' 3)) hh rfl rfl rfl (Z0q w _) (fun c hc=>KN w.drew _ hc) hN YH hlen hle (fun j z hz=>by
  rw [cell_of_row _ _ j _ 3 (0,0) hN];exact hc j z hz)
 exact ES k1 k2
theorem Z7m (g hv:Hd) (xs:LI) (p:Nat) (v:Int) (hp:p<=xs.length) (hl:xs.length<=1000000000):Wj Tryz.prog 345 [.h g,.i p,ZY [v] hv.v] [.row g.v 1 (Zk xs),.tail hv.v 1] (fun r h=>∃u:Value,r=ZY (Tb xs p v) u/\h=[.tail u 1]):=by
 intro w G vs ha hh
 obtain ⟨gv,rfl,pv,rfl,sv,rfl,ra⟩:∃gv,gv=g.v/\∃pv,pv=Value.int .i64 p/\∃sv,sv=hv.v/\vs=[gv,pv,sv]/\RV w G (ZY [v] hv.v) sv:=by
  cases ha with
  | cons h1 t=>cases t with
   | cons h2 t=>cases t with
    | cons h3 t=>
     cases t
     exact ⟨_,h1.val_inv,_,h2.val_inv,_,h3.header,rfl,h3⟩
 obtain ⟨rfl,hsl⟩:=ra
 have hpw:=Vr.1 hh.apart
 have hmr:Res.row g.v 1 (Zk xs)∈[Res.row g.v 1 (Zk xs),.tail hv.v 1]:=YY ..
 have hmt:Res.tail hv.v 1∈[Res.row g.v 1 (Zk xs),.tail hv.v 1]:=Xy _ (YL.2 rfl)
 obtain ⟨hxa,hlx,hcx⟩:=hv
 obtain ⟨vb,vcur,vel,e1,hv1,hv2,hvd⟩:∃vb vcur vel,Hd.v ⟨hxa,hlx,hcx⟩=.slice (some ⟨vb,0,none⟩) 1 hcx/\w.heap[vb]? = some (.cells vcur vel (0,0))/\vcur[0]? = some (Value.int .i64 v)/\∀gb len cap,g.v=.slice (some ⟨gb,0,none⟩) len cap->vb≠gb:=by
  cases hsl with
  | sl hq hc hm=>
   rename_i b o k
   rcases hh.ok _ hmt with e|⟨g2,len,cap,cur,el,e,t1,t2,t3⟩
   ·cases e
   ·cases e
    refine ⟨b,cur,el,rfl,t1,?_,fun gb len cap he hb=>?_⟩
    ·cases hm with
     | cons hlk hm2 _=>cases hm2 with
      | cons hcell _ hrv _=>
       have:=hrv.val_inv
       subst this
       rw [<-cell_of_row w b 0 cur el (0,0) t1]
       exact hcell
    ·refine hpw.1 _ (YL.2 rfl) b 1 ?_ ⟨rfl,by simp⟩
     rw [he]
     exact hb
 have hvs:∀(j:Nat) u,[Value.int .i64 v][j]? = some u->w.cell? ⟨vb,0+j,none⟩=some u:=by
  intro j u hj
  cases j with
  | zero=>simp only [List.getElem?_cons_zero] at hj;rw [cell_of_row w vb _ vcur vel (0,0) hv1];exact hv2.trans hj
  | succ j=>simp at hj
 have h1v:∀u∈[Value.int .i64 v],u.oneCell'=true:=fun u hu=>by rw [YL.1 hu];rfl
 have hgc:∀w2 j,grownCap w2 (xs.length+1) j 3>=xs.length+1:=fun w2 j=>grownCap_ge w2 _ _ _
 have hh2:=hh
 rw [e1] at hh2 ⊢
 rcases hh.ok _ hmr with ⟨e,h0⟩|⟨gb,len,cap,cur,el,e,h1,h2,h3,h4,h5⟩
 ·
  have hx0:xs=[]:=by cases xs with|nil=>rfl|cons _ _=>simp [Zk] at h0
  subst hx0
  have hp0:p=0:=by simpa using hp
  subst hp0
  rw [e]
  have hg:∀w2 j,grownCap w2 (0+1) j 3>=0+1:=fun w2 j=>grownCap_ge w2 _ _ _
  refine (Oy none 0 0 vb 0 1 hcx [] [.int .i64 v] w om om om om rfl rfl (fun _=>rfl) (fun a ha=>by cases ha) hvs h1v).mono ?_
  rintro e w' ⟨rfl,rfl⟩
  have hg0:=hg w 0
  revert hg0
  generalize grownCap w (0+1) 0 3=K
  intro hg0
  rw [e] at hh2
  obtain ⟨G',r1,r2,r3⟩:=Oz (ys:=[v]) hh2 (([]++[Value.int .i64 v]).toArray++Builtin.zeroCells (Value.int .i64 0).cells (K-(0+1))) (by simp [Builtin.zeroCells,Value.cells];omega) rfl hg0 (fun j z hz=>by
    cases j with
    | zero=>simp only [List.getElem?_cons_zero] at hz;cases hz;rw [FV (by simp)];rfl
    | succ j=>simp at hz)
  exact ⟨_,_,_,G',rfl,⟨_,rfl,rfl⟩,r1,r2,r3⟩
 ·have hlx2:len=xs.length:=by rw [Yn] at h4;omega
  subst hlx2
  rw [UO] at h3 h5
  have hcur:cur.toList.take xs.length=xs.map (fun z=>Value.int .i64 z):=OB h5
  have hcell:∀j z,xs[j]? = some z->w.cell? ⟨gb,j,none⟩=some (Value.int .i64 z):=by
   intro j z hz
   rw [cell_of_row w gb j cur el (0,0) h1]
   have hj:j<xs.length:=(W5.1 hz).1
   have h6:(cur.toList.take xs.length)[j]? = some (Value.int .i64 z):=by rw [hcur,Tm,hz];rfl
   rw [TS,Z6 hj,Bo] at h6
   exact h6
  have hcs:∀(j:Nat) u,(xs.map (fun z=>Value.int .i64 z))[j]? = some u->w.cell? ⟨gb,0+j,none⟩=some u:=by
   intro j u hj
   obtain ⟨z,hz,rfl⟩:=Zf9 hj
   rw [Vk]
   exact hcell j z hz
  have h1c:∀u∈xs.map (fun z=>Value.int .i64 z),u.oneCell'=true:=fun u hu=>by obtain ⟨z,_,rfl⟩:=Xe.1 hu;rfl
  have hne:=hvd gb xs.length cap e
  have hsome:∀j,j<cap->(w.cell? ⟨gb,j,none⟩).isSome=true:=fun j hj=>by rw [cell_of_row w gb j cur el (0,0) h1,Array.getElem?_eq_getElem om];rfl
  have hfz:∀j,w.frozen? ⟨gb,j,none⟩=false:=fun j=>frozen_of_row w gb j cur el h1
  rw [e] at hh2 ⊢
  by_cases hroom:xs.length+1<=cap
  ·have EE:xs.length+1<=9223372036854775807:=by omega
   by_cases hpn:p=xs.length
   ·subst hpn
    refine (Z7k gb 0 xs.length cap vb 0 1 hcx [.int .i64 v] w om hroom EE rfl (fun j hj=>hsome _ om) (fun j _=>hfz _) hvs h1v).mono ?_
    rintro e w' ⟨rfl,rfl⟩
    have hin:=World.cell?_setCells_in gb [.int .i64 v] (0+xs.length) w (fun j hj=>hsome _ (by simp at hj;omega))
    obtain ⟨k1,k2⟩:=Rh (ys:=Tb xs xs.length v) hh2 ((TA.refl gb w).cells _ _ _) (BZ xs _ v (X1 _)) hroom (fun j z hz=>by
     rcases HN (X1 _) hz with ⟨h,h'⟩|⟨rfl,rfl⟩|⟨i,rfl,h'⟩
     ·rw [World.cell?_setCells_out gb _ _ _ _ fun _ _=>.inl (by show j<0+xs.length;omega)];exact hcell j z h'
     ·have:=hin 0 (by simp);simpa using this
     ·have:=(W5.1 h').1;omega)
    obtain ⟨G',r1,r2,r3⟩:=ES k1 k2
    exact ⟨_,_,_,G',rfl,⟨_,rfl,rfl⟩,r1,r2,r3⟩
   ·have hpl:p<xs.length:=by omega
    refine (Z7o gb 0 xs.length cap p vb 0 1 hcx (xs.map (fun z=>Value.int .i64 z)) [.int .i64 v] w hpl om hroom EE hne (by simp) rfl hcs (fun j hj=>hsome _ om) (fun j _=>hfz _) hvs h1c h1v vel el vcur.size cur.size
     (by simp [World.shape?,hv1]) (by simp [World.shape?,h1]) om (frozen_of_row w vb _ vcur vel hv1) (frozen_of_row w vb _ vcur vel hv1)).mono ?_
    rintro e w' ⟨rfl,rfl⟩
    have hW:=(TA.refl gb w).drew.cells ((xs.map (fun z=>Value.int .i64 z)).drop p) (0+(p+1)) _
    have hin1:=World.cell?_setCells_in gb ((xs.map (fun z=>Value.int .i64 z)).drop p) (0+(p+1)) w.drew (fun j hj=>by simp at hj;exact hsome _ om)
    have hs2:∀j,j<cap->((w.drew.setCells gb (0+(p+1)) ((xs.map (fun z=>Value.int .i64 z)).drop p)).cell? ⟨gb,j,none⟩).isSome=true:=fun j hj=>EU gb _ _ _ (fun i hi=>by simp at hi;exact hsome _ om) j (hsome j hj)
    have hin2:=World.cell?_setCells_in gb [.int .i64 v] (0+p) _ (fun j hj=>hs2 _ (by simp at hj;omega))
    obtain ⟨k1,k2⟩:=Rh (ys:=Tb xs p v) hh2 (hW.cells [.int .i64 v] (0+p) _) (BZ xs _ v hp) hroom (fun j z hz=>by
     rcases HN hp hz with ⟨h,h'⟩|⟨rfl,rfl⟩|⟨i,rfl,h'⟩
     ·rw [World.cell?_setCells_out gb _ _ _ _ fun _ _=>.inl (by show j<0+p;omega),World.cell?_setCells_out gb _ _ _ _ fun _ _=>.inl (by show j<0+(p+1);omega)];exact hcell j z h'
     ·have:=hin2 0 (by simp);simpa using this
     ·have hi:=(W5.1 h').1
      rw [World.cell?_setCells_out gb _ _ _ _ fun _ _=>.inr (by show 0+p+1<=p+1+i;omega)]
      have h7:=hin1 i (by simp;omega)
      rw [show 0+(p+1)+i=p+1+i by omega] at h7
      rw [h7]
      have h8:((xs.map (fun z=>Value.int .i64 z)).drop p)[i]? = some (Value.int .i64 z):=by rw [Cm,Tm,h'];rfl
      rw [<-h8]
      exact (Qz _).symm)
    obtain ⟨G',r1,r2,r3⟩:=ES k1 k2
    exact ⟨_,_,_,G',rfl,⟨_,rfl,rfl⟩,r1,r2,r3⟩
  ·by_cases hpn:p=xs.length
   ·subst hpn
    refine (Oy (some ⟨gb,0,none⟩) xs.length cap vb 0 1 hcx (xs.map (fun z=>Value.int .i64 z)) [.int .i64 v] w om h2 om om (by simp) rfl (fun h=>by cases h) (fun a ha j u hj=>by cases ha;rw [Addr.add_lit];exact hcs j u hj) hvs h1v).mono ?_
    rintro e w' ⟨rfl,rfl⟩
    have hg0:=hgc w cap
    revert hg0
    generalize grownCap w (xs.length+1) cap 3=K
    intro hg0
    obtain ⟨G',r1,r2,r3⟩:=Oz (ys:=Tb xs xs.length v) hh2 ((xs.map (fun z=>Value.int .i64 z)++[Value.int .i64 v]).toArray++Builtin.zeroCells (Value.int .i64 0).cells (K-(xs.length+1))) (by simp [Builtin.zeroCells,Value.cells];omega) (BZ xs _ v (X1 _)) hg0 (fun j z hz=>by
      rw [FV (by have:=(W5.1 hz).1;rw [BZ xs _ v (X1 _)] at this;simp;omega)]
      have h9:Tb xs xs.length v=xs++[v]:=by simp [Tb]
      rw [h9] at hz
      rw [List.getElem?_toArray,show xs.map (fun z=>Value.int .i64 z)++[Value.int .i64 v]=(xs++[v]).map (fun z=>Value.int .i64 z) by simp,Tm,hz]
      rfl)
    exact ⟨_,_,_,G',rfl,⟨_,rfl,rfl⟩,r1,r2,r3⟩
   ·have hpl:p<xs.length:=by omega
    refine (Z7l gb 0 xs.length cap p vb 0 1 hcx (xs.map (fun z=>Value.int .i64 z)) [.int .i64 v] w hpl om h2 om om (by simp) rfl hcs hvs h1c h1v).mono ?_
    rintro e w' ⟨rfl,rfl⟩
    have hg0:=hgc w cap
    revert hg0
    generalize grownCap w (xs.length+1) cap 3=K
    intro hg0
    generalize hA:((xs.map (fun z=>Value.int .i64 z)).take p).toArray++Builtin.zeroCells (Value.int .i64 0).cells (xs.length+1-p)++Builtin.zeroCells (Value.int .i64 0).cells (K-(xs.length+1))=A
    have hAs:A.size=K:=by subst hA;simp [Builtin.zeroCells,Value.cells];omega
    have hAg:∀(j:Nat) z,j<p->xs[j]? = some z->A[j]? = some (Value.int .i64 z):=by
     intro j z hj hz
     subst hA
     rw [FV (by simp [Builtin.zeroCells,Value.cells];omega),FV (by simp;omega),List.getElem?_toArray,TS,Z6 hj,Tm,hz]
     rfl
    have hN0:(w.alloc (.cells A 3)).heap[w.heap.size]? = some (.cells A 3 (0,0)):=Al w _
    have hc0:∀j,(w.alloc (.cells A 3)).cell? ⟨w.heap.size,j,none⟩=A[j]?:=fun j=>cell_of_row _ _ j A 3 (0,0) hN0
    have hsm:∀j,j<K->((w.alloc (.cells A 3)).cell? ⟨w.heap.size,j,none⟩).isSome=true:=fun j hj=>by rw [hc0,Array.getElem?_eq_getElem om];rfl
    have hW:=((TA.refl w.heap.size (w.alloc (.cells A 3))).drew.cells [.int .i64 v] p _).drew.cells ((xs.map (fun z=>Value.int .i64 z)).drop p) (p+1) _
    have hin1:=World.cell?_setCells_in w.heap.size [.int .i64 v] p (w.alloc (.cells A 3)).drew (fun j hj=>hsm _ (by simp at hj;omega))
    have hs2:∀j,j<K->(((w.alloc (.cells A 3)).drew.setCells w.heap.size p [.int .i64 v]).drew.cell? ⟨w.heap.size,j,none⟩).isSome=true:=fun j hj=>EU w.heap.size _ _ _ (fun i hi=>by simp at hi;exact hsm _ om) j (hsm j hj)
    have hin2:=World.cell?_setCells_in w.heap.size ((xs.map (fun z=>Value.int .i64 z)).drop p) (p+1) _ (fun j hj=>hs2 _ (by simp at hj;omega))
    obtain ⟨cs',q1,q2⟩:=hW.row A 3 hN0
    obtain ⟨k1,k2⟩:=Rg (cap:=K) (len':=xs.length+1) (ys:=Tb xs p v) hh2 hW.os hW.tape hW.output (hW.size.trans (Array.size_push ..)) (fun c hc=>(hW.other c om).trans (KN w _ hc)) q1 (q2.trans hAs) (BZ xs p v hp) hg0 (fun j z hz=>by
     rcases HN hp hz with ⟨h,h'⟩|⟨rfl,rfl⟩|⟨i,rfl,h'⟩
     ·rw [World.cell?_setCells_out w.heap.size _ _ _ _ fun _ _=>.inl (by show j<p+1;omega)]
      show ((w.alloc (.cells A 3)).drew.setCells w.heap.size p [.int .i64 v]).cell? _=_
      rw [World.cell?_setCells_out w.heap.size _ _ _ _ fun _ _=>.inl (by show j<p;omega)]
      exact (hc0 j).trans (hAg j z h h')
     ·rw [World.cell?_setCells_out w.heap.size _ _ _ _ fun _ _=>.inl (by show j<j+1;omega)]
      have:=hin1 0 (by simp)
      simpa using this
     ·have hi:=(W5.1 h').1
      have h7:=hin2 i (by simp;omega)
      rw [h7]
      have h8:((xs.map (fun z=>Value.int .i64 z)).drop p)[i]? = some (Value.int .i64 z):=by rw [Cm,Tm,h'];rfl
      rw [<-h8]
      exact (Qz _).symm)
    obtain ⟨G',r1,r2,r3⟩:=ES k1 k2
    exact ⟨_,_,_,G',rfl,⟨_,rfl,rfl⟩,r1,r2,r3⟩
end Go.Abs
section
namespace Go.Abs
section
variable {P:Program} {n:Nat} {ops:Array Oper} {B:Fr->List Res->Prop} {k:Nat} {F:Fr} {h:List Res}
def Ee (P:Program) (ops:Array Oper) (F:Fr) (k:Nat):Option (IntKind × Int):=
 match (Zl ops k).op with
 | .convert s d x=>match P.underlying s,P.underlying d,F.ev x with
  | some (.int _),some (.int q),.val (.int _ z)=>some (q,z)
  | _,_,_=>none
 | _=>none
theorem OE (q:IntKind) (z z':Int) (e:q.wrap z=z') (hc:Ee P ops F k=some (q,z):=by kernel_rfl):Xb P (Zl ops k) F h [] (.val (.int q z')):=by
 unfold Ee at hc
 generalize hoo:Zl ops k=o at hc
 obtain ⟨dst,op,type,pos,after,guard⟩:=o
 cases op<;>simp only at hc<;>try (cases hc)
 rename_i s d x
 split at hc
 ·rename_i q1 q2 q3 z2 h1 h2 h3
  cases hc
  intro n w G ac hF hh
  have v1:=hF.ev x
  rw [h3] at v1
  have v1:=v1.val_inv
  refine ⟨_,.val,fun w' _ _=>?_⟩
  simp only [execOp,v1]
  refine Vi ?_
  simp [convert,Vw h1,Vw h2,Conv.intToInt,e]
 ·cases hc
def RC (ops:Array Oper) (F:Fr) (k:Nat):Option Int:=
 match (Zl ops k).op with
 | .binOp .shr _ x y _=>match F.ev x,F.ev y with
  | .val (.int .u64 z),.val (.int _ 1)=>some z
  | _,_=>none
 | _=>none
theorem Z7v (n:Nat) (hc:RC ops F k=some (n:Int):=by kernel_rfl):Xb P (Zl ops k) F h [] (.val (.int .u64 ((n / 2:Nat):Int))):=by
 unfold RC at hc
 generalize hoo:Zl ops k=o at hc
 obtain ⟨dst,op,type,pos,after,guard⟩:=o
 cases op<;>simp only at hc<;>try (cases hc)
 rename_i bop t x y yt
 cases bop<;>simp only at hc<;>try (cases hc)
 split at hc
 ·rename_i z yk h1 h2
  cases hc
  intro n' w G ac hF hh
  have v1:=hF.ev x
  have v2:=hF.ev y
  rw [h1] at v1
  rw [h2] at v2
  have v1:=v1.val_inv
  have v2:=v2.val_inv
  refine ⟨_,.val,fun w' _ _=>?_⟩
  simp only [execOp,v1,v2]
  refine Vi ?_
  have e:(n:Int).fdiv 2=((n / 2:Nat):Int):=by rw [Int.fdiv_eq_ediv_of_nonneg _ om];omega
  simp [eqGuard,binOp,Op.shift,IntKind.bits,e]
 ·cases hc
theorem Z7x (n:Nat) (hn:n<=9223372036854775807) (hc:Ee P ops F k=some (.u64,(n:Int)):=by kernel_rfl):Xb P (Zl ops k) F h [] (.val (.int .u64 (n:Int))):=
 OE .u64 _ _ (by simp [IntKind.wrap,IntKind.signed,IntKind.bits];omega) hc
theorem Z7w (n:Nat) (hn:n<=9223372036854775807) (hc:Ee P ops F k=some (.i64,(n:Int)):=by kernel_rfl):Xb P (Zl ops k) F h [] (.i n):=
 OE .i64 _ _ (IntWalk.i64_in _ om) hc
end
open Go.Proofs in
theorem Z7n (g:Hd) (u:Value) (xs:LI) (p:Nat) (v:Int) (hp:p<=xs.length) (hl:xs.length<=1000000000):Wj Tryz.prog 345 [.h g,.i p,ZY [v] u] [.row g.v 1 (Zu (Zk xs)),.tail u 1] (fun r h=>∃w:Value,r=ZY (Tb xs p v) w/\h=[.tail w 1]):=by
 intro w G vs ha hh
 rw [Hr] at hh ⊢
 have hu:∃hv:Hd,u=hv.v:=by
  rcases hh.ok (.tail u 1) (by simp) with rfl|⟨g,len,cap,cur,e,rfl,_⟩
  ·exact ⟨⟨none,0,0⟩,rfl⟩
  ·exact ⟨⟨_,len,cap⟩,rfl⟩
 obtain ⟨hv,rfl⟩:=hu
 exact Z7m g hv xs p v hp hl w G vs ha hh
theorem Z7e {xs:LI} {p:Nat} {v:Int}:∀x,x∈Tb xs p v↔x∈xs∨x=v:=by
 intro x
 have h:=LK p xs
 constructor
 ·intro hx
  rcases Yz.1 hx with hx|hx
  ·exact .inl (Cp hx)
  ·rcases YA.1 hx with rfl|hx
   ·exact .inr rfl
   ·exact .inl (List.mem_of_mem_drop hx)
 ·rintro (hx|rfl)
  ·rw [<-h] at hx
   rcases Yz.1 hx with hx|hx
   ·exact Yz.2 (.inl hx)
   ·exact Yz.2 (.inr (Xy _ hx))
  ·exact Yz.2 (.inr (YY ..))
end Go.Abs
end
namespace Go.Abs
open Go.Proofs
theorem Z2d (x:Int) :Za 301 [.i x] [] (ZQ (.b false)):=by
 exact Zx 6 Tryz.func301 (Zh (ar (Z8 (Zp (.b (x != x)) (lb (by simp))))))
theorem Zcd (x:Int) :Za 358 [.i x] [] (ZQ (.b false)):=by
 exact Zx 6 Tryz.func358 (Zh (ar (Z8 (Zp (.b (x != x)) (lb (by simp))))))
theorem Z2c (x:Int) (y:Int) :Za 258 [.i x,.i y] [] (ZQ (.b (decide (x<y)))):=by
 exact Zx 17 Tryz.func258 (Zh (ZM 1 (ZC [] (Z2d x) (Z8 (Te)))))
theorem Z1j (xs:LI) (v:Int) (hl:xs.length<=1000000000:=by exact ob):Za 344 [Ze xs,.i v] [] (fun r h=>∃(q:Nat) (f:Bool),r=.tup [.i q,.b f]/\h=[]/\(q<=xs.length/\(f=true->v∈xs))):=by
 refine Zx 54 Tryz.func344 (Zh (ZM 1 (iw (Yn xs) (Z0 (Zh (aq (ab 0 (ZU (fun fz gz m F h=>∃(lo:Nat) (hi:Nat),(lo<=hi)/\(hi<=xs.length)/\F=sF [0,1,6] fz [(7,.i lo),(8,.i hi)]/\h=gz/\m=hi-lo) _ _ _ ⟨0,xs.length,ob,ob,rfl,rfl,rfl⟩ (wk [] (ZW fl)) ?_))))))))
 rintro m F h ⟨lo,hi,Y0,Z9,rfl,rfl,rfl⟩
 refine Yt (ZO ((lo:Int)<(hi:Int)) (fun Z5=>?_) (fun Z5=>?_))
 ·refine ak (ab 1 (ZM 2 (ia (((lo+hi:Nat):Int)) (((lo:Int))+((hi:Int))) (Zi (Z7x (lo+hi) om) (Zi (Z7v (lo+hi)) (Zi (Z7w ((lo+hi) / 2) om) (Z0 (ZM 2 ?_))))))))
  obtain ⟨x1,Z2⟩:=Zv xs ((lo+hi) / 2) om
  refine Zi (Zr none (((lo+hi) / 2:Nat):Int) 1 (Yf Z2)) (Z1 2 (ZC [] (Z2c x1 v) (ie (Xi (x1<v) (fun Zd=>?_) (fun Zd=>?_)))))
  ·exact az (Z1 1 (ia ((((lo+hi) / 2+1:Nat):Int)) (((((lo+hi) / 2:Nat):Int))+(1)) (Z0 (ZJ ⟨(lo+hi) / 2+1,hi,ob,ob,rfl,rfl,rfl⟩ (wk [] (fc (x:=.i (((lo+hi) / 2+1:Nat):Int)) li fl))))))
  exact Qo (ZJ ⟨lo,(lo+hi) / 2,ob,ob,rfl,rfl,rfl⟩ (wk [] (fr (fc (x:=.i (((lo+hi) / 2:Nat):Int)) li fl))))
 refine ax 0 (ZM 5 (ib (b:=(decide ((lo:Int)<(xs.length:Int)))) 35 (fun Zc=>?_) (fun Zc=>?_)))
 ·have Yd:(lo:Int)<(xs.length:Int):=(dq).1 Zc
  refine Z1 2 ?_
  obtain ⟨x2,Zt⟩:=Zv xs lo om
  refine Zi (Zr none (lo:Int) 1 (Yf Zt)) (Z1 4 (ib (b:=(x2==v)) 42 (fun ZD=>?_) (fun ZD=>?_)))
  ·have YX:x2=v:=(Zs).1 ZD
   exact Z8 (r2 [] [.i lo,.b true] ⟨lo,true,rfl,rfl,⟨by omega,fun _=>YX▸YF Zt⟩⟩ (lr _))
  have XB:¬(x2=v):=Y3 Zs ZD
  exact Z1 2 (Zi (Zr none (lo:Int) 1 (Yf Zt)) (Z1 1 (ZC [] (Zcd x2) (Z8 (r2 [] [.i lo,.b false] ⟨lo,false,rfl,rfl,⟨by omega,fun q=>by cases q⟩⟩ (lr _))))))
 have XH:¬((lo:Int)<(xs.length:Int)):=Y3 dq Zc
 exact Z8 (r2 [] [.i lo,.b false] ⟨lo,false,rfl,rfl,⟨by omega,fun q=>by cases q⟩⟩ (lr _))
theorem Z2a (xs:LI) (hl_xs:xs.length<=4294967296:=by exact ob):Za 346 [Ze xs] [] (fun r h=>∃(g:Hd),r=.h g/\h=[rK g 1 (Zu (Zk xs))]):=by
 refine Zx 8 Tryz.func346 (Zh (Yb 1 (iN (Zk xs) (fun hz1=>?_) ?_)))
 ·have hz1:=Hf hz1
  refine ie (W7 (Zh (Wq (Lr (k:=1)) ?_)))
  subst hz1
  exact ZG (r2 [0] [nl] ⟨hN,rfl,rfl⟩ (Zm.hd (v:=hN)) (eq:=(rr (ls:=[]) rfl rz)))
 exact ie (XF (ak (ar (HK 1 fun g1=>Z1 1 (HJ 0 g1 1 (Zk xs) none (Wv _) (by simp<;>omega) fun v1=>Z8 (r1 [0] ⟨v1,rfl,rfl⟩))))))
theorem Zfa (u:Value) (xs:LI) (v:Int) (hl:xs.length<=1000000000):Za 328 [ZY xs u,.i v] [.tail u 1] (fun r h=>∃(wu:Value) (ys:LI),r=ZY ys wu/\h=[.tail wu 1]/\(ys.length<=xs.length+1/\∀x,x∈ys↔x∈xs∨x=v)):=by
 refine Zx 21 Tryz.func328 (Zh (ar (W2 2 [(8,Ze xs)] (ic [] (Z1j xs v) ?_))))
 rintro _ _ ⟨q1,f1,rfl,rfl,Yd⟩
 have hb:=Yd
 refine Z0 (Yt (Yw f1 Iff.rfl (fun Z5=>?_) (fun Z5=>?_)))
 ·exact ar (Z8 (r1 [0] ⟨u,xs,rfl,rfl,⟨by omega,fun x=>⟨.inl,fun q=>q.elim id fun e=>e▸hb.2 Z5⟩⟩⟩))
 refine ak (ar (W2 1 [(15,Ze xs)] (ic [] (Z2a xs) ?_)))
 rintro _ _ ⟨g1,rfl,rfl⟩
 refine Z1 2 (iL (Zk [v]) 1 1 fun v1=>ic [1,0] (Z7n g1 v1 xs q1 v ob ob) ?_)
 rintro _ _ ⟨w1,rfl,rfl⟩
 exact Z8 (r1 [0] ⟨w1,(Tb xs q1 v),rfl,rfl,⟨by rw [BZ _ _ _ hb.1];exact X1 _,Z7e⟩⟩)
theorem Z6v (n:Zj) (us:LI) (s:Z7) (hn:YZ n:=by exact ob) (ha:∀a∈s.args,0<=a/\a<us.length) (hnum:s.op=9->0<=s.num/\s.num<n.routines.length:=by exact ob) (hal:s.args.length<=1000000000:=by exact ob) (hlt:∀(i:Nat) (a:Int),s.args[i]? = some a->VP n s.op s.num i=true->gI us a≠0):Za 295 [.agg [ZI n.decls,Yr n],Ze us,XS s] [] (fun r h=>∃(vp:Value) (vl:Value) (ls:LI),r=.tup [ZY (WI n us s.op s.num s.args 0) vp,ZY ls vl]/\h=[.tail vp 1,.tail vl 1]/\(ls.length<=s.args.length/\∀x,x∈ls↔∃i,s.args[i]? = some x/\VP n s.op s.num i=true)):=by
 have hsl:=Zbx hn s.num
 have hLA:=fun k=>Z8r (n:=n) (op:=s.op) (num:=s.num) (k:=k)
 refine Zx 53 Tryz.func295 (ar (iA [ZI n.decls,Yr n] fun b1=>iA (WT s) fun b2=>Z0 (Yp 2 [0] (ZC [] (Oj s.op) (Yw (!Qk s.op) (p:=¬(Qk s.op=true)) (Yl Iff.rfl) (fun Z5=>?_) (fun Z5=>?_))))))
 ·exact Zh (TU 1 (TU 1 (ZG (r2 [0,0] [nl,nl] ⟨(.slice none 0 0),(.slice none 0 0),[],rfl,rfl,⟨by simp,fun x=>by simp only [List.not_mem_nil,false_iff];rintro ⟨i,_,q⟩;exact P3 Z5 i q⟩⟩ (Zm.tup (.cons (Zm.slh _ (by rw [Iz Z5];rfl)) (.cons (Zm.slh _ (by first|rfl|(subst_vars;rfl))) .nil)))))))
 refine ak (Yp 2 [0] (iw (Yn s.args) (Z0 (ab 0 (TU 1 (TU 1 (ZU (fun fz gz m F h=>∃(k:Nat) (ps:LI) (v:Value) (u:Value) (ls:LI),(k<=s.args.length)/\(ps.length<=k)/\(ps++WI n us s.op s.num (s.args.drop k) k=WI n us s.op s.num s.args 0)/\(ls.length<=k)/\(A7 n s.op s.num s.args k ls)/\F=sF [1,3,5,15,16] fz [(6,ZY ps v),(7,ZY ls u),(17,.i k)]/\h=[Zy gz 2,Zy gz 3,.tail u 1,.tail v 1]/\m=s.args.length-k) _ _ _ ⟨0,[],(.slice none 0 0),(.slice none 0 0),[],ob,ob,rfl,ob,Z8u,rfl,rfl,rfl⟩ (wk [2,2,0,0] (fc (x:=nl) (Zm.slh _ (by first|rfl|(subst_vars;rfl))) (fc (x:=nl) (Zm.slh _ (by first|rfl|(subst_vars;rfl))) (ZW fl)))) ?_)))))))
 rintro m F h ⟨k,ps,v,u,ls,Y0,Z9,Zz,Y8,XG,rfl,rfl,rfl⟩
 refine Zh (aq (Xi ((k:Int)<(s.args.length:Int)) (fun Zd=>?_) (fun Zd=>?_)))
 ·refine ak (aq (ab 1 (ZM 1 ?_)))
  obtain ⟨x1,Z2⟩:=Zv s.args k om
  have hxa:=ha x1 (YF Z2)
  refine Zi (Zr none (k:Int) 1 (Yf Z2)) (Z0 (ab 2 (ZM 2 ?_)))
  obtain ⟨x2,Zt⟩:=Zv us x1.toNat om
  have hgx:=Vt Zt
  refine Zi (Zr none x1 1 (Yf Zt)) (Z0 (Eg (fun fz gz F h=>∃(w:Value) (ps2:LI) (w3:Value) (ls2:LI),(ps2.length<=k+1)/\(ps2++WI n us s.op s.num (s.args.drop (k+1)) (k+1)=WI n us s.op s.num s.args 0)/\(ls2.length<=k+1)/\(A7 n s.op s.num s.args (k+1) ls2)/\F=sF [1,3,5,15,16,17] fz [(6,ZY ps2 w),(7,ZY ls2 w3)]/\h=[Zy gz 0,Zy gz 1,.tail w 1,.tail w3 1]) (fun _ _=>rfl) ?_ ?_))
  ·refine ac (x2==0) Zs (fun Zw=>?_) (fun Zw=>?_)
   ·exact ak (Xo ⟨v,ps,u,ls,ob,(PV Z2 (by rw [Q0,hgx,Zw];simp) Zz),ob,(P1 XG (fun q=>hlt k x1 Z2 q (by rw [hgx];exact Zw))),rfl,rfl⟩ (wk [0,0,1,0] fl))
   refine ar (XC 14 [1,3,5,6,7,8,9,15,16,17] [(46,.b ((s.op==9)&&(decide ((k:Int)∈((U9 n s.num).lnt)))))] (fun gz=>gz) ?_ (fun hj1=>?_))
   ·refine Yw ((s.op==9)&&(decide ((k:Int)∈((U9 n s.num).lnt)))) (p:=(s.op=9)/\((k:Int)∈((U9 n s.num).lnt))) (YD Zs dq) (fun Yg=>?_) (fun Yg=>?_)
    ·refine az (Z1 2 (ic [2] (Zfa u ls x1 ob) ?_))
     rintro _ _ ⟨wu1,ys1,rfl,rfl,Yd⟩
     have hy:=Yd
     exact Z0 (Xo ⟨v,ps,wu1,ys1,ob,(PV Z2 (by rw [Q0,(hLA k).2 Yg];simp) Zz),(by have:=hy.1;omega),(Z8s Z2 XG ((hLA k).2 Yg) hy.2),rfl,rfl⟩ (wk [1,1,1,0] fl))
    exact az (Z1 2 (iL (Zk [(k:Int)]) 1 1 fun v1=>W2 0 [(24,Ze [(k:Int)])] (ip 4 (Zk (ps++[(k:Int)])) (Zk ps) (Zk [(k:Int)]) v none 1 (Wv _) (Wv _) (Q3 _) (by simp<;>omega) (by simp [Q2,Zk]) fun v2=>Z0 (Xo ⟨v2,(ps++[(k:Int)]),u,ls,ob,(Zan Z2 (by have h1:Qk s.op=true:=Ww.1 Z5;have h2:VP n s.op s.num k=false:=Jj.2 (fun q=>Yg ((hLA k).1 q));rw [Q0,hgx,h1,h2];simp [Zw]) Zz),ob,(P1 XG (fun q=>Yg ((hLA k).1 q))),rfl,rfl⟩ (wk [2,2,0,1] fl)))))
   refine Y6 4 [0] (ib (b:=(s.op==9)) 36 (fun Zc=>?_) (fun Zc=>?_))
   ·have YX:s.op=9:=(Zs).1 Zc
    exact Y6 4 [1,0] (Zi (JV (es:=UW (n.routines.map Xq)) (hv:=none) (j:=s.num) (sz:=3) (y:=DV (U9 n s.num)) kr (by have:=hnum (by assumption);omega) (B2 (Rx (by have:=hnum (by assumption);rw [Um];omega))) rfl) (Z1 3 (ZC [] (Lc ((U9 n s.num).lnt) (k:Int)) (Z1 1 (Ye (Y5 4 (Zq (decide ((k:Int)∈((U9 n s.num).lnt))) Zc fl)) hj1)))))
   have XB:¬(s.op=9):=Y3 Zs Zc
   exact Z1 10 (Ye (Y5 4 (Zq false Zc fl)) hj1)
  rintro F h ⟨w,ps2,w3,ls2,Zgh,Zgi,Zgj,Zgk,rfl,rfl⟩
  exact az (ZK k (Z0 (ZJ ⟨k+1,ps2,w,w3,ls2,ob,ob,ob,ob,ob,rfl,rfl,rfl⟩ (wk [0,0,1,0] (fw (ZL k fl))))))
 exact ax 0 (ar (Z8 (r2 [3,2] [ZY ps v,ZY ls u] ⟨v,u,_,rfl,rfl,⟨by omega,Z8t XG om⟩⟩ (Zm.tup (.cons (Zm.slh _ (Ys Zk (Zam om Zz))) (.cons (Zm.slh _ (Ys Zk ob)) .nil))))))
theorem Z18 (b:Nat) (ga:Hd) (gb:Hd) (gc:Hd) (n:Zj) (L:WL) (ln:LI) (am:List YM) (s:Z7) (q:Int) (hn:YZ n:=by exact ob) (hk:YK n.decls L q:=by exact ob) (har:WD n.decls L am:=by exact ob) (hln:ln.length<=4294967296:=by exact ob) (hal:am.length<=1000000000:=by exact ob) (hlb:L.vars.length<=1000000000:=by exact ob) (hf:Jp n L.vars s:=by exact ob) (hlt:∀(i:Nat) (a:Int),s.args[i]? = some a->VP n s.op s.num i=true->gI L.vars a≠0) (hsl:s.args.length<=1000000000:=by exact ob) (hq:0<=q/\q<=999999980:=by exact ob):Za 251 [.p b 0,XS s] [.obj b [ZI n.decls,Yr n,Ze ln,YR am,.h ga,.h gb,.h gc],rV ga L.vars,rV gb L.own,rV gc L.tok] (fun r h=>(∃(L':WL),r=.b true/\h=[.obj b [ZI n.decls,Yr n,Ze ln,YR am,.h ga,.h gb,.h gc],rV ga L'.vars,rV gb L'.own,rV gc L'.tok]/\Ut n ln L s.op s.num s.into s.args=some L')∨(r=.b false/\h=[]/\Ut n ln L s.op s.num s.into s.args=none)):=by
 have hlk:=hk.len
 obtain ⟨e1,e2,e3,e4,e5⟩:=hk.len
 have hpl:=PU (n:=n) (us:=L.vars) (op:=s.op) (num:=s.num) s.args 0
 refine Zx 74 Tryz.func251 (ar (iA (WT s) fun b1=>Z0 (aD 15 (Ya 6 15 [0,1,2,3,4,5,6,7,8] [1,1,0] (ZF 9 (Ue 9 [2] [] [] [rV ga L.vars] (Z6v n L.vars s (ha:=hf.args) (hnum:=hf.num) (hlt:=hlt)) clS (gS (gL (v:=ga) 0 (gS gN))) (Vp VV) ?_))))))
 rintro _ _ ⟨vp1,vl1,ls1,rfl,rfl,Yd⟩
 have hls:=Yd
 refine Zo 0 5 [10,11,12,13,14] (de (Yb 1 (io (.i (((WI n L.vars s.op s.num s.args 0).length:Nat):Int)) (.i (((Zk (WI n L.vars s.op s.num s.args 0)).length:Nat):Int)) (li (by rw [Yn])) (Z0 (ab 0 (ZU (fun fz gz m F h=>∃(k:Nat) (L2:WL),(k<=(WI n L.vars s.op s.num s.args 0).length)/\(YK n.decls L2 q)/\(L2.vars=L.vars)/\(L2.par=L.par/\L2.con=L.con/\L2.fst=L.fst)/\(Qv s.args ((WI n L.vars s.op s.num s.args 0).drop k) L2=Qv s.args (WI n L.vars s.op s.num s.args 0) L)/\F=sF [0,3,6,24,25] fz [(26,.i k)]/\h=[rV ga L2.vars,Zy gz 3,Zy gz 4,rV gb L2.own,rV gc L2.tok,Zy gz 1,Zy gz 0]/\m=(WI n L.vars s.op s.num s.args 0).length-k) _ _ _ ⟨0,L,ob,hk,rfl,⟨rfl,rfl,rfl⟩,rfl,rfl,rfl,rfl⟩ (wk [2,2,2,2,2,1,0] (ZW fl)) ?_))))))
 rintro m F h ⟨k,L2,Y0,Z9,Zz,Y8,XG,rfl,rfl,rfl⟩
 refine Zh (aq (Xi ((k:Int)<(((WI n L.vars s.op s.num s.args 0).length:Nat):Int)) (fun Z5=>?_) (fun Z5=>?_)))
 ·refine ak (aq (ab 1 (ar ?_)))
  obtain ⟨x1,Z2⟩:=Zv (WI n L.vars s.op s.num s.args 0) k om
  have hpm:=Iy (YF Z2)
  refine Zi (Zr (some vp1) (k:Int) 1 (Yf Z2)) (Z0 (ZB 4 [1] ?_))
  obtain ⟨x2,Zt⟩:=Zv s.args x1.toNat om
  have hgx:=Vt Zt
  have hxa:=hf.args x2 (YF Zt)
  refine Zi (Zr none x1 1 (Yf Zt)) (Z1 1 (ZC [2,0,1,1] (E0 b ga gb gc n L2 ln am x2 (hlk:=Z9.len) (hi:=(by rw [Zz];exact hxa)) (hq:=(fun y hy=>by have h1:=Z9.nn y hy;have h2:=Z9.bd y hy;omega))) (Yw (!decide (1<=gI L2.own x2)) (p:=¬(decide (1<=gI L2.own x2)=true)) (Yl Iff.rfl) (fun Zd=>?_) (fun Zd=>?_))))
  ·exact ar (Z8 (r1 [] (.inr ⟨rfl,rfl,(Z52 (Zek Z2 hgx (fun z=>Zd (decide_eq_true z)) XG))⟩)))
  have ht:=of_decide_eq_true (Ww.1 Zd)
  exact ak (az (ZK k (Z0 (ZJ ⟨k+1,(Xf L2 x2),ob,(Z9.take (by rw [JZ,Z6 ht])),Zz,Y8,(Zej Z2 hgx ht XG),rfl,rfl,rfl⟩ (wk [1,3,0,0,0,0,0] (ZL k fl))))))
 have hT:=Zei om XG
 have har2:=har.same (M:=L2) (by rw [Zz]) Y8.1 Y8.2.1 Y8.2.2
 have hvl:L2.vars.length=L.vars.length:=by rw [Zz]
 obtain ⟨f1,f2,f3,f4,f5⟩:=Z9.len
 refine ax 0 (Yb 1 (iw (Yn ls1) (Z0 (ab 2 (ZU (fun fz gz m F h=>∃(j:Nat),(j<=ls1.length)/\(∀x∈ls1.take j,XL L2 ln x=true)/\F=sF [0,3,39,40] fz [(41,.i j)]/\h=[Zy gz 0,Zy gz 1,Zy gz 2,Zy gz 3,Zy gz 4,Zy gz 5]/\m=ls1.length-j) _ _ _ ⟨0,ob,(by simp),rfl,rfl,rfl⟩ (Y5 6 (ZW fl)) ?_)))))
 rintro m F h ⟨j,T6,Xk,rfl,rfl,rfl⟩
 refine Zh (aq (Xi ((j:Int)<(ls1.length:Int)) (fun Zw=>?_) (fun Zw=>?_)))
 ·refine ak (aq (ab 3 (ar ?_)))
  obtain ⟨x3,X0⟩:=Zv ls1 j om
  have hxm:=YF X0
  obtain ⟨i0,hi0,_⟩:=(hls.2 _).1 hxm
  have hxl:=hf.args _ (YF hi0)
  refine Zi (Zr (some vl1) (j:Int) 1 (Yf X0)) (Z0 (ZM 2 (ZC [2,0,1,1] (Gu b ga gb gc _ L2 ln am x3 Z9.len har2 ob ob ob Z9.down (by rw [Zz];exact hxl)) (Yw (!XL L2 ln x3) (p:=¬(XL L2 ln x3=true)) (Yl Iff.rfl) (fun Yg=>?_) (fun Yg=>?_)))))
  ·exact ar (Z8 (r1 [] (.inr ⟨rfl,rfl,((O1 hT hls.2).2 ⟨x3,hxm,Yg⟩)⟩)))
  exact ak (az (ZK j (Z0 (ZJ ⟨j+1,ob,(by rw [WU X0];exact fun x hx=>(Yz.1 hx).elim (Xk x) (fun hx=>by rw [YL.1 hx];exact Ww.1 Yg)),rfl,rfl,rfl⟩ (wk [1,3,0,0,0,0] (ZL j fl))))))
 have hH:=(O1 (into:=s.into) hT hls.2).1 (fun x hx=>Xk x (by rw [W6 om];exact hx))
 have hin:=hf.into
 refine ax 2 (Yt (Vv [1] (ac (s.into != 0) ZP (fun Xp=>?_) (fun Xp=>?_))))
 ·refine aq (aD 13 (Ya 7 13 [0,1,2,3,4,5] [2,1] (da 6 ((s.into-1)) ((s.into)-(1)) (dx 7 (XE 4 gc L2.tok (s.into-1) ((s.into-1).toNat) (hq:=rfl)) ?_))))
  obtain ⟨x4,Tk⟩:=Zv L2.tok ((s.into-1).toNat) om
  have hgt:=Vt Tk
  refine Qm 8 (WV 4 gc L2.tok ((s.into-1).toNat) x4 Tk) (Ya 2 4 [9,10] [1] (dw 11 (Yn s.args) (Zo 0 1 [12] (de (ac (x4 != (s.args.length:Int)) ZP (fun Wf=>?_) (fun Wf=>?_))))))
  ·exact ar (Z8 (r1 [] (.inr ⟨rfl,rfl,(by rw [hH,Kb,Z6 om,hgt,Z6 Wf])⟩)))
  exact ak (aE 9 (Ya 3 9 [0,1,2,3,4,5] [2,1] (da 6 ((s.into-1)) ((s.into)-(1)) (dx 7 (XE 4 gc L2.tok (s.into-1) ((s.into-1).toNat) (hq:=rfl)) (ZF 8 (Jy 8 4 [] [] gc L2.tok ((s.into-1).toNat) (-1) (de (ar (Z8 (r1 [3,1,2,0] (.inl ⟨(Zb.mk L2.vars L2.own L2.par L2.con L2.fst (L2.tok.set (s.into-1).toNat (-1))),rfl,rfl,(by rw [hH,Kb,Z6 om,hgt,Z4 Wf])⟩) (eq:=(rc (rv (xs:=L2.vars) ob (rv (xs:=L2.own) ob (rv (xs:=(L2.tok.set ((s.into-1).toNat) (-1))) ob rz)))))))))))))))
 exact ak (ar (Z8 (r1 [2,0,1,1] (.inl ⟨L2,rfl,rfl,(by rw [hH,Kb,Z4 om])⟩))))
theorem Z1d (b:Nat) (ga:Hd) (gb:Hd) (gc:Hd) (n:Zj) (L:WL) (ln:LI) (am:List YM) (xs:List Z7) (q:Int) (vs:LI) (hn:YZ n:=by exact ob) (hk:YK n.decls L q:=by exact ob) (har:WD n.decls L am:=by exact ob) (ht:Xu n xs L.vars=some vs:=by exact ob) (hnn:∀t∈L.vars,0<=t) (hb:L.vars.length+am.length+4*Y9 xs<=900000000:=by exact ob) (hq:0<=q/\q+4*Y9 xs<=999999980:=by exact ob) (hr:U0 xs:=by exact ob) (ih:∀(s2:Z7) (c:Nat) (ra:Hd) (rb:Hd) (rc:Hd) (M:WL) (a2:List YM) (p:Int),(s2.sz<=Y9 xs)->(YK n.decls M p)->(WD n.decls M a2)->(0<=ZT n M.vars s2)->(∀t∈M.vars,0<=t)->(M.vars.length+a2.length+4*s2.sz<=900000000)->(0<=p/\p+4*s2.sz<=999999980)->(s2.rng)->Za 213 [.p c 0,XS s2] [.obj c [ZI n.decls,Yr n,Ze ln,YR a2,.h ra,.h rb,.h rc],rV ra M.vars,rV rb M.own,rV rc M.tok] (fun r h=>(∃(wa:Hd) (wb:Hd) (wc:Hd) (M':WL),r=.b true/\h=[.obj c [ZI n.decls,Yr n,Ze ln,YR a2,.h wa,.h wb,.h wc],rV wa M'.vars,rV wb M'.own,rV wc M'.tok]/\T2 n ln M s2=some M')∨(r=.b false/\h=[]/\T2 n ln M s2=none))):Za 159 [.p b 0,VW xs] [.obj b [ZI n.decls,Yr n,Ze ln,YR am,.h ga,.h gb,.h gc],rV ga L.vars,rV gb L.own,rV gc L.tok] (fun r h=>(∃(wa:Hd) (wb:Hd) (wc:Hd) (L':WL),r=.b true/\h=[.obj b [ZI n.decls,Yr n,Ze ln,YR am,.h wa,.h wb,.h wc],rV wa L'.vars,rV wb L'.own,rV wc L'.tok]/\V5 n ln L xs=some L')∨(r=.b false/\h=[]/\V5 n ln L xs=none)):=by
 have hxl:=S4 xs
 refine Zx 18 Tryz.func159 (Zh (Yb 1 (iw (T8 xs) (Z0 (ab 0 (ZU (fun fz gz m F h=>∃(k:Nat) (q2:Int) (L2:WL) (ka:Hd) (kb:Hd) (kc:Hd),(k<=xs.length)/\(YK n.decls L2 q2)/\(0<=q2/\q2+4*Y9 (xs.drop k)<=999999980)/\(L2.vars.length+am.length+4*Y9 (xs.drop k)<=900000000)/\(Xu n (xs.drop k) L2.vars=some vs)/\(V5 n ln L2 (xs.drop k)=V5 n ln L xs)/\(WD n.decls L2 am)/\(∀t∈L2.vars,0<=t)/\F=sF [0,7,8] fz [(9,.i k)]/\h=[.obj b [ZI n.decls,Yr n,Ze ln,YR am,.h ka,.h kb,.h kc],rV ka L2.vars,rV kb L2.own,rV kc L2.tok]/\m=xs.length-k) _ _ _ ⟨0,q,L,ga,gb,gc,ob,hk,(by rw [TR];omega),(by rw [TR];omega),ht,rfl,har,hnn,rfl,rfl,rfl⟩ (Y5 4 (ZW fl)) ?_))))))
 rintro m F h ⟨k,q2,L2,ka,kb,kc,Y0,Z9,Zz,Y8,XG,J5,GE,MG,rfl,rfl,rfl⟩
 refine Zh (aq (Xi ((k:Int)<(xs.length:Int)) (fun Z5=>?_) (fun Z5=>?_)))
 ·obtain ⟨s1,hs1⟩:=Zv xs k om
  have hdr:=ZH hs1
  have hz:Y9 (xs.drop k)=s1.sz+Y9 (xs.drop (k+1)):=by rw [hdr,Y9]
  have YH:=Du hs1
  have hsr:=Lg hr hs1
  rw [hdr] at XG J5
  obtain ⟨g1,g2⟩:=Cg XG
  refine ak (aq (ab 1 (ar (Zi (Zr none (k:Int) 5 (U7 hs1)) (Z1 1 (iA [.i 0,.i 0,.i 0,nl,nl] fun b1=>Y4 0 b1 (WT s1) (ie (ZB 2 [0] (ic [1,1,1,1] (ih s1 b ka kb kc L2 am q2 ob Z9 GE g1 MG om om hsr) ?_)))))))))
  rintro _ _ (⟨wa1,wb1,wc1,M'1,rfl,rfl,Yd⟩|⟨rfl,rfl,YX⟩)
  ·have hP:=Yd
   have kx:=Ll hn Z9 Zz.1 g1 hP
   exact Z0 (XF (ak (az (ZK k (Z0 (ZJ ⟨k+1,(q2+4*s1.sz),M'1,wa1,wb1,wc1,ob,kx.1,om,(by rw [kx.2];have:=Cd n L2.vars s1;omega),(by rw [kx.2];exact g2),(by rw [<-J5,V5,hP];rfl),(Sd hn Z9 Zz.1 g1 hP GE),(by rw [kx.2];exact Zbq MG g1),rfl,rfl,rfl⟩ (Y5 4 (ZL k fl))))))))
  have hP:=YX
  exact Z0 (W7 (ar (Z8 (r1 [] (.inr ⟨rfl,rfl,(by rw [<-J5,V5,hP];rfl)⟩)))))
 exact ax 0 (ar (Z8 (r1 [0,0,0,0] (.inl ⟨ka,kb,kc,L2,rfl,rfl,(by rw [<-J5,YV om];rfl)⟩))))
theorem MP (am:List YM) (hl:am.length<=1000000000:=by exact ob):Za 327 [YR am] [] (fun r h=>∃(v:Value),r=Il am v/\h=[.tail v 4]):=by
 refine Zx 8 Tryz.func327 (Zh (Yb 1 (iN (Wu am) (fun hz1=>?_) ?_)))
 ·have hz1:=Z3r hz1
  exact ie (W7 (Zh (TU 4 (ZG (r2 [0] [nl] ⟨(.slice none 0 0),rfl,rfl⟩ (Zm.slh _ (by first|rfl|(subst_vars;rfl))))))))
 exact ie (XF (ak (ar (iL (Wu []) 0 4 fun v1=>Z1 1 (ip 0 (Wu am) (Wu []) (Wu am) v1 none 4 (BI _) (BI _) (H7 _) (by simp<;>omega) (by simp [Wu]) fun v2=>Z8 (r1 [0] ⟨v2,rfl,rfl⟩))))))
theorem Ms (am:List YM) (a:YM) (hl:am.length<=900000000:=by exact ob):Za 294 [YR am,.agg [.i a.mat,.i a.fst,Ze a.fds,.b a.chg]] [] (ZQ (YR (am++[a]))):=by
 refine Zx 10 Tryz.func294 (ar (iA [.i a.mat,.i a.fst,Ze a.fds,.b a.chg] fun b1=>?_))
 refine Z0 (aD 6 (Ya 4 6 [0,2] [0] (GX (fun fz gz F h=>∃(v3:Value),F=sF [] fz [(4,Il (am++[a]) v3)]/\h=gz) ?_ ?_)))
 ·refine H0 1 3 ?_ ?_
  ·refine dc 1 [] [0] [b1] (MP am) ?_
   rintro _ _ ⟨v1,rfl,rfl⟩
   exact ZF 3 (dL 3 [] [] (Wu [a]) 1 4 fun v2=>UT 2 2 [] [(8,YR [a])] (ZF 4 (dp 4 1 [] [] (Wu (am++[a])) (Wu am) (Wu [a]) v1 none 4 (BI _) (BI _) (H7 _) (by simp<;>omega) (by simp [Nj,Wu]) fun v3=>Zo 0 1 [5] (de (Xo ⟨v3,rfl,rfl⟩ (wk [2] fl))))))
  refine dL 3 [] [] (Wu [a]) 1 4 fun v4=>ZF 1 (dc 1 [] [] [] (MP am) ?_)
  rintro _ _ ⟨v5,rfl,rfl⟩
  exact UT 2 2 [] [(8,YR [a])] (ZF 4 (dp 4 0 [] [] (Wu (am++[a])) (Wu am) (Wu [a]) v5 none 4 (BI _) (BI _) (H7 _) (by simp<;>omega) (by simp [Nj,Wu]) fun v6=>Zo 0 1 [5] (de (Xo ⟨v6,rfl,rfl⟩ (wk [2] fl)))))
 rintro F h ⟨v3,rfl,rfl⟩
 exact ZG (Zp (Il (am++[a]) v3) (Zm.forget _ _))
theorem Z17 (b:Nat) (ga:Hd) (gb:Hd) (gc:Hd) (n:Zj) (L:WL) (ln:LI) (am:List YM) (s:Z7) (q:Int) (hn:YZ n:=by exact ob) (hty:QC n:=by exact ob) (hlt:AR n:=by exact ob) (hk:YK n.decls L q:=by exact ob) (har:WD n.decls L am:=by exact ob) (hln:ln.length<=4294967296:=by exact ob) (hf:Jp n L.vars s:=by exact ob) (hop:s.op=7∨s.op=8:=by exact ob) (hnn:∀t∈L.vars,0<=t) (hb:L.vars.length+am.length+4*s.sz<=900000000:=by exact ob) (hq:0<=q/\q+4*s.sz<=999999980:=by exact ob) (hr:s.rng:=by exact ob) (ih:∀(ys:List Z7) (c:Nat) (ra:Hd) (rb:Hd) (rc:Hd) (M:WL) (a2:List YM) (p:Int) (vs:LI),(Y9 ys<s.sz)->(YK n.decls M p)->(WD n.decls M a2)->(Xu n ys M.vars=some vs)->(∀t∈M.vars,0<=t)->(M.vars.length+a2.length+4*Y9 ys<=900000000)->(0<=p/\p+4*Y9 ys<=999999980)->(U0 ys)->Za 159 [.p c 0,VW ys] [.obj c [ZI n.decls,Yr n,Ze ln,YR a2,.h ra,.h rb,.h rc],rV ra M.vars,rV rb M.own,rV rc M.tok] (fun r h=>(∃(wa:Hd) (wb:Hd) (wc:Hd) (M':WL),r=.b true/\h=[.obj c [ZI n.decls,Yr n,Ze ln,YR a2,.h wa,.h wb,.h wc],rV wa M'.vars,rV wb M'.own,rV wc M'.tok]/\V5 n ln M ys=some M')∨(r=.b false/\h=[]/\V5 n ln M ys=none))):Za 249 [.p b 0,XS s] [.obj b [ZI n.decls,Yr n,Ze ln,YR am,.h ga,.h gb,.h gc],rV ga L.vars,rV gb L.own,rV gc L.tok] (fun r h=>(∃(wa:Hd) (wb:Hd) (wc:Hd) (L':WL),r=.b true/\h=[.obj b [ZI n.decls,Yr n,Ze ln,YR am,.h wa,.h wb,.h wc],rV wa L'.vars,rV wb L'.own,rV wc L'.tok]/\KD n ln L s=some L')∨(r=.b false/\h=[]/\KD n ln L s=none)):=by
 have hlk:=hk.len
 obtain ⟨e1,e2,e3,e4,e5⟩:=hk.len
 have Wy:=hn.decls
 have hkz:=Qq s
 have haz:=Ad s
 obtain ⟨hk1,hk2,hk3⟩:=hf.kids hop
 obtain ⟨kd,hkd⟩:=Zv s.kids 0 om
 obtain ⟨x,hxa⟩:=hf.one om
 have ha:s.args[0]? = some x:=by rw [hxa];rfl
 have hx:=hf.args x (by rw [hxa];simp)
 have hgx:=Ja ha
 have hal0:=(W5.1 ha).1
 have hr2:=hr
 rw [s.rng_eq] at hr2
 refine Zx 156 Tryz.func249 (ar (iA (WT s) fun b1=>Z0 (Yt (Wa [0,3] [(24,.b ((s.op==8)&&(!XL L ln x)))] (fun gz=>[Zy gz 1,Zy gz 2,Zy gz 3,Zy gz 4,Zy gz 0]) ?_ ?_))))
 ·refine Y6 4 [0] (ib (b:=(s.op==8)) 16 (fun Zc=>?_) (fun Zc=>?_))
  ·have Yd:s.op=8:=(Zs).1 Zc
   exact Y6 3 [0] (Zi (Zr none 0 1 (Yf ha)) (Z1 1 (ZC [1,1,1,1] (Gu b ga gb gc n L ln am x ob ob ob ob ob hk.down ob) (Z0 (Y5 5 (Zq (!XL L ln x) Zc fl))))))
  have YX:¬(s.op=8):=Y3 Zs Zc
  exact Z0 (wk [1,1,1,1,0] (Zq false Zc fl))
 refine ac ((s.op==8)&&(!XL L ln x)) (p:=(s.op=8)/\(¬(XL L ln x=true))) (YD Zs (Yl Iff.rfl)) (fun Z5=>?_) (fun Z5=>?_)
 ·exact ar (Z8 (r1 [] (.inr ⟨rfl,rfl,(Z27 Z5.1 (by rw [hgx];exact Z5.2))⟩)))
 have hgo:=MO (n:=n) (ln:=ln) (L:=L) (s:=s) (by rw [hgx];exact Z5) hkd
 refine ak (ZB 2 [4] (iw (Uf s.kids) (iMN s.kids.length s.kids.length fun v1=>?_)))
 refine Z0 (Yt (Vv [5] (TE (fun fz gz F h=>F=sF [0,3] fz [(5,Av (YJ n.decls s.op s.num))]/\h=[Zy gz 1,Zy gz 2,Zy gz 3,Zy gz 4,Zy gz 5]) ?_ ?_)))
 ·refine ac (s.op==8) Zs (fun Zd=>?_) (fun Zd=>?_)
  ·exact aE 8 (Ya 2 8 [0,1,2,3,4,5] [1,5] (ZF 6 (W4 6 [] [] [] (Ol _ s.num) (Zo 0 1 [7] (de (Xo ⟨rfl,rfl⟩ (wk [1,1,1,1,1] (fc (x:=Av ((YB n.decls s.num).map (Y1 n.decls))) (Zm.sl _ (Ys Ug (by rw [YJ,Z4 om]))) fl))))))))
  exact ak (Xo ⟨rfl,rfl⟩ (wk [1,1,1,1,1] (fc (x:=De (List.replicate s.kids.length []) v1) (Zm.sl _ (Ys Ug (by rw [show s.kids.length=2 by rw [hk1,YJ,Z6 om];rfl,YJ,Z6 om];rfl))) fl)))
 rintro F h ⟨rfl,rfl⟩
 refine ZB 4 [0] (Zi (KW 1 ga L.vars) (Z0 (Zh (Yp 2 [4] (iw (Uf s.kids) (Z0 (ab 0 (ZU (fun fz gz m F h=>(∃(k:Nat),(k=0)/\F=sF [0,3,5,6,7,45,46] fz [(47,.i k)]/\h=gz/\m=s.kids.length-k)∨(∃(k:Nat) (c0:Nat) (ua:Hd) (ub:Hd) (uc:Hd) (O:WL) (aO:List YM),(1<=k/\k<=s.kids.length)/\(WQ n ln (Vg n.decls L s.op s.num s.args 0) L.vars.length kd=some (O.take L.vars.length))/\(L.vars.length<=O.own.length/\O.own.length<=1000000000/\L.vars.length<=O.tok.length/\O.tok.length<=1000000000)/\(QN n ln L s.op s.num s.args (O.take L.vars.length) (s.kids.drop k) k=QN n ln L s.op s.num s.args (O.take L.vars.length) (s.kids.drop 1) 1)/\F=sF [0,3,5,6,45,46] fz [(7,.p c0 0),(47,.i k)]/\h=[.obj c0 [ZI n.decls,Yr n,Ze ln,YR aO,.h ua,.h ub,.h uc],rV ua O.vars,rV ub O.own,rV uc O.tok,Zy gz 0,Zy gz 1,Zy gz 2,Zy gz 3,Zy gz 4]/\m=s.kids.length-k)) _ _ _ (.inl ⟨0,rfl,rfl,rfl,rfl⟩) (Y5 5 (ZW fl)) ?_))))))))
 rintro m F h (⟨k,Y0,rfl,rfl,rfl⟩|⟨k,c0,ua,ub,uc,O,aO,d0_0,d0_1,d0_2,d0_3,rfl,rfl,rfl⟩)
 ·refine Zh (aq (Xi ((k:Int)<(s.kids.length:Int)) (fun Zw=>?_) (fun Zw=>?_)))
  ·obtain ⟨ke,hke⟩:=Zv s.kids k om
   obtain ⟨mk,hmk⟩:=Zv (YJ n.decls s.op s.num) k om
   have hK:=C1 hk hq.1 hf hop hmk
   have hmk3:=Bz Wy hmk
   have hks:=Kg hke
   have hbt:=hk3 k ke mk hke hmk
   obtain ⟨vs,rt,hvs,hres,hrt⟩:=BC hbt
   have hri:=K3 hres
   have hsrr:U0 ke.steps:=by
    have h:=E3 hr2.2 hke
    rwa [Zf.rng_eq] at h
   have hbz:=ke.sz_eq
   have hak:=Mp hn har hlk hop (by rw [hgx];exact hx) hmk
   have hsl:=FF hvs
   rw [YE] at hsl
   have hkl:=Mo (L:=L) (am:=am) (s:=s) (m:=mk)
   refine ak (aq (ab 1 (ZM 1 (Zi (Zr none (k:Int) 2 (TF hke)) (Z1 1 (iA [nl,.i 0] fun b2=>Z1 1 (Y4 0 b2 (VE ke) (ie (ZM 1 (ic [1,1,1,1] (Mv b ga gb gc n L ln am) ?_))))))))))
   rintro _ _ ⟨c1,wa1,wb1,wc1,rfl,rfl⟩
   refine Z0 (Yt (Vv [9] (TE (fun fz gz F h=>F=sF [0,3,5,6,7,8,9,10,45,46,47] fz []/\h=[.obj c1 [ZI n.decls,Yr n,Ze ln,YR (T5 L am s mk),.h wa1,.h wb1,.h wc1],Zy gz 1,Zy gz 2,Zy gz 3,Zy gz 4,Zy gz 5,Zy gz 6,Zy gz 7,Zy gz 8,Zy gz 9]) ?_ ?_)))
   ·refine ac (s.op==8) Zs (fun Yg=>?_) (fun Yg=>?_)
    ·exact aE 19 (Ya 12 19 [0,1,2,3,4,5,6] [4,9] (dx 7 (Zr none 0 1 (Yf ha)) (Zo 7 11 [8,9,10,11] (dx 12 (Zr none (k:Int) 1 (B1 hmk)) (Zo 4 6 [13,14] (ZF 15 (W4 15 [] [] [] (Ms am (YM.mk x (L.vars.length:Int) mk false)) (Zo 1 3 [16,17] (ZF 18 (UC 18 0 [] [] c1 [ZI n.decls,Yr n,Ze ln,YR (am++[(YM.mk x (L.vars.length:Int) mk false)]),.h wa1,.h wb1,.h wc1] (de (Xo ⟨rfl,rfl⟩ (Y5 10 fl (e:=(ro (ls:=[ZI n.decls,Yr n,Ze ln,YR (am++[(YM.mk x (L.vars.length:Int) mk false)]),.h wa1,.h wb1,.h wc1]) (by rw [T5,Z6 ‹s.op=8›,hgx]) (rc (rc (rc (rc (rc (rc (rc (rc (rc rz))))))))))))))))))))))))
    exact ak (Xo ⟨rfl,rfl⟩ (Y5 10 fl (e:=(ro (ls:=[ZI n.decls,Yr n,Ze ln,YR am,.h wa1,.h wb1,.h wc1]) (by rw [T5,Z4 ‹¬s.op=8›]) (rc (rc (rc (rc (rc (rc (rc (rc (rc rz)))))))))))))
   rintro F h ⟨rfl,rfl⟩
   refine Yb 2 (Zi (Zr none (k:Int) 1 (B1 hmk)) (Z1 1 (iw (Yn mk) (Z0 (ab 2 (ZU (fun fz gz m F h=>∃(j:Nat) (L3:WL) (ka:Hd) (kb:Hd) (kc:Hd),(j<=mk.length)/\(Wc L3)/\(L3.vars.length=L.vars.length+j)/\(K8 L3 (gI s.args 0) (mk.drop j)=Vg n.decls L s.op s.num s.args k)/\F=sF [0,3,5,6,7,9,10,45,46,47,78,79] fz [(80,.i j)]/\h=[.obj c1 [ZI n.decls,Yr n,Ze ln,YR (T5 L am s mk),.h ka,.h kb,.h kc],Zy gz 4,Zy gz 5,Zy gz 6,Zy gz 7,Zy gz 8,Zy gz 9,rV ka L3.vars,rV kb L3.own,rV kc L3.tok]/\m=mk.length-j) _ _ _ ⟨0,(Km n L s k),wa1,wb1,wc1,ob,(Sc hlk),(by rw [AH];rfl),(by rw [TR];exact Sb hop hmk),rfl,rfl,rfl⟩ (wk [0,3,3,3,3,3,3,0,0,0] (ZW fl) (e:=(rc (rc (rc (rc (rc (rc (rc (rv (xs:=L.vars) (by first|rw [AH]|rw [Ce]|rw [Cf]) (rv (xs:=L.own) (by first|rw [AH]|rw [Ce]|rw [Cf]) (rv (xs:=L.tok) (by first|rw [AH]|rw [Ce]|rw [Cf]) rz)))))))))))) ?_))))))
   rintro m F h ⟨j,L3,ka,kb,kc,T6,Xk,Uc,AZ,rfl,rfl,rfl⟩
   refine Zh (aq (Xi ((j:Int)<(mk.length:Int)) (fun Xp=>?_) (fun Xp=>?_)))
   ·obtain ⟨xm,hxm⟩:=Zv mk j om
    refine ak (aq (ab 3 (ar (Zi (Zr none (j:Int) 1 (Yf hxm)) (Z0 (az (Z1 2 (ic [0,6,6,6] (BA c1 ka kb kc n L3 ln (T5 L am s mk) xm 0 (hlk:=Xk)) ?_))))))))
    rintro _ _ ⟨wa2,wb2,wc2,rfl⟩
    exact ie (az (ZK j (Z0 (ZJ ⟨j+1,(L3.grow xm 0 (gI s.args 0)),wa2,wb2,wc2,ob,(Wc.grow Xk),(by simp [Zb.grow];omega),(by rw [ZH hxm,K8] at AZ;exact AZ),rfl,rfl,rfl⟩ (wk [0,3,3,3,3,3,3,0,0,0] (ZL j fl) (e:=(rc (rc (rc (rc (rc (rc (rc (rv (xs:=(L3.grow xm 0 (-1)).vars) ob (rv (xs:=(L3.grow xm 0 (-1)).own) ob (rv (xs:=(L3.grow xm 0 (-1)).tok) ob rz))))))))))))))))
   have hE:L3=Vg n.decls L s.op s.num s.args k:=by rw [<-AZ,YV om];rfl
   have hL3v:L3.vars=L.vars++mk:=by rw [hE];exact hK.2
   have hL3l:L3.vars.length=L.vars.length+mk.length:=by rw [hL3v,YE]
   refine ax 2 (Yp 3 [5] (ic [0,6,6,6] (ih ke.steps c1 ka kb kc L3 (T5 L am s mk) q vs ob (by rw [hE];exact hK.1) (by rw [hE];exact hak) (by rw [hL3v];exact hvs) (by rw [hL3v];exact Dd hnn (Mq hty hmk)) om om hsrr) ?_))
   rintro _ _ (⟨wa3,wb3,wc3,M'1,rfl,rfl,XB⟩|⟨rfl,rfl,XH⟩)
   ·have hP:=XB
    have kx:=FG hn (by rw [hE];exact hK.1) hq.1 (by rw [hE];exact hak) (by rw [hL3v];exact hvs) hP
    have kl:=kx.1.len
    have hm1:(XJ M'1 ke.result).own.length=vs.length:=by rw [Et.1,kl.own,kx.2.1]
    have hm2:(XJ M'1 ke.result).tok.length=vs.length:=by rw [Et.2.1,kl.tok,kx.2.1]
    refine Y6 5 [8] (ic [0,0,0,0] (Gv c1 wa3 wb3 wc3 n M'1 ln (T5 L am s mk) ke L.vars.length (hlk:=kl) (hlb:=(by rw [kx.2.1];omega)) (hm:=(by rw [kx.2.1];omega)) (hr:=(by rw [kx.2.1];omega)) (hq:=(fun y hy=>by have h1:=kx.1.nn y hy;have h2:=kx.1.bd y hy;omega))) ?_)
    rintro _ _ (⟨rfl,rfl,VT⟩|⟨rfl,rfl,Uu⟩)
    ·have hB:=VT
     rw [<-FJ (f:=VM L.vars.length ke.result) hP,hE,<-KA] at hB
     exact Z0 (XF (ak (ab 4 (ZM 1 (iQ true (Z0 (W7 (Qo (az (ZK k (Z0 (ZJ (.inr ⟨k+1,c1,wa3,wb3,wc3,(XJ M'1 ke.result),(T5 L am s mk),om,(by subst Y0;have e:=Tn (hkd.symm.trans hke);subst e;exact hB),om,(by subst Y0;rfl),rfl,rfl,rfl⟩) (wk [0,0,0,0,0,0,0,0,1] (fr (ZL k fl)))))))))))))))
    have hB:=Uu
    rw [<-FJ (f:=VM L.vars.length ke.result) hP,hE,<-KA] at hB
    exact Z0 (W7 (ar (Z8 (r1 [] (.inr ⟨rfl,rfl,(by subst Y0;have e:=Tn (hkd.symm.trans hke);subst e;rw [hgo,hB];rfl)⟩)))))
   have hB:WQ n ln (Vg n.decls L s.op s.num s.args k) L.vars.length ke=none:=by rw [KA,<-hE,XH];rfl
   exact Z0 (W7 (ar (Z8 (r1 [] (.inr ⟨rfl,rfl,(by subst Y0;have e:=Tn (hkd.symm.trans hke);subst e;rw [hgo,hB];rfl)⟩)))))
  exact absurd hk2 om
 refine Zh (aq (Xi ((k:Int)<(s.kids.length:Int)) (fun Wf=>?_) (fun Wf=>?_)))
 ·obtain ⟨ke,hke⟩:=Zv s.kids k om
  obtain ⟨mk,hmk⟩:=Zv (YJ n.decls s.op s.num) k om
  have hK:=C1 hk hq.1 hf hop hmk
  have hmk3:=Bz Wy hmk
  have hks:=Kg hke
  have hbt:=hk3 k ke mk hke hmk
  obtain ⟨vs,rt,hvs,hres,hrt⟩:=BC hbt
  have hri:=K3 hres
  have hsrr:U0 ke.steps:=by
   have h:=E3 hr2.2 hke
   rwa [Zf.rng_eq] at h
  have hbz:=ke.sz_eq
  have hak:=Mp hn har hlk hop (by rw [hgx];exact hx) hmk
  have hsl:=FF hvs
  rw [YE] at hsl
  have hkl:=Mo (L:=L) (am:=am) (s:=s) (m:=mk)
  refine ak (aq (ab 1 (ZM 1 (Zi (Zr none (k:Int) 2 (TF hke)) (Z1 1 (iA [nl,.i 0] fun b3=>Z1 1 (Y4 0 b3 (VE ke) (ie (ZM 1 (ic [5,5,5,5] (Mv b ga gb gc n L ln am) ?_))))))))))
  rintro _ _ ⟨c2,wa4,wb4,wc4,rfl,rfl⟩
  refine Z0 (Yt (Vv [13] (TE (fun fz gz F h=>F=sF [0,3,5,6,7,8,9,10,45,46,47] fz []/\h=[.obj c2 [ZI n.decls,Yr n,Ze ln,YR (T5 L am s mk),.h wa4,.h wb4,.h wc4],Zy gz 1,Zy gz 2,Zy gz 3,Zy gz 4,Zy gz 5,Zy gz 6,Zy gz 7,Zy gz 8,Zy gz 9,Zy gz 10,Zy gz 11,Zy gz 12,Zy gz 13]) ?_ ?_)))
  ·refine ac (s.op==8) Zs (fun T0=>?_) (fun T0=>?_)
   ·exact aE 19 (Ya 12 19 [0,1,2,3,4,5,6] [4,13] (dx 7 (Zr none 0 1 (Yf ha)) (Zo 7 11 [8,9,10,11] (dx 12 (Zr none (k:Int) 1 (B1 hmk)) (Zo 4 6 [13,14] (ZF 15 (W4 15 [] [] [] (Ms am (YM.mk x (L.vars.length:Int) mk false)) (Zo 1 3 [16,17] (ZF 18 (UC 18 0 [] [] c2 [ZI n.decls,Yr n,Ze ln,YR (am++[(YM.mk x (L.vars.length:Int) mk false)]),.h wa4,.h wb4,.h wc4] (de (Xo ⟨rfl,rfl⟩ (Y5 14 fl (e:=(ro (ls:=[ZI n.decls,Yr n,Ze ln,YR (am++[(YM.mk x (L.vars.length:Int) mk false)]),.h wa4,.h wb4,.h wc4]) (by rw [T5,Z6 ‹s.op=8›,hgx]) (rc (rc (rc (rc (rc (rc (rc (rc (rc (rc (rc (rc (rc rz))))))))))))))))))))))))))))
   exact ak (Xo ⟨rfl,rfl⟩ (Y5 14 fl (e:=(ro (ls:=[ZI n.decls,Yr n,Ze ln,YR am,.h wa4,.h wb4,.h wc4]) (by rw [T5,Z4 ‹¬s.op=8›]) (rc (rc (rc (rc (rc (rc (rc (rc (rc (rc (rc (rc (rc rz)))))))))))))))))
  rintro F h ⟨rfl,rfl⟩
  refine Yb 2 (Zi (Zr none (k:Int) 1 (B1 hmk)) (Z1 1 (iw (Yn mk) (Z0 (ab 2 (ZU (fun fz gz m F h=>∃(j:Nat) (L3:WL) (ka:Hd) (kb:Hd) (kc:Hd),(j<=mk.length)/\(Wc L3)/\(L3.vars.length=L.vars.length+j)/\(K8 L3 (gI s.args 0) (mk.drop j)=Vg n.decls L s.op s.num s.args k)/\F=sF [0,3,5,6,7,9,10,45,46,47,78,79] fz [(80,.i j)]/\h=[.obj c2 [ZI n.decls,Yr n,Ze ln,YR (T5 L am s mk),.h ka,.h kb,.h kc],Zy gz 4,Zy gz 5,Zy gz 6,Zy gz 7,Zy gz 8,Zy gz 9,Zy gz 10,Zy gz 11,Zy gz 12,Zy gz 13,rV ka L3.vars,rV kb L3.own,rV kc L3.tok]/\m=mk.length-j) _ _ _ ⟨0,(Km n L s k),wa4,wb4,wc4,ob,(Sc hlk),(by rw [AH];rfl),(by rw [TR];exact Sb hop hmk),rfl,rfl,rfl⟩ (wk [0,3,3,3,3,3,3,3,3,3,3,0,0,0] (ZW fl) (e:=(rc (rc (rc (rc (rc (rc (rc (rc (rc (rc (rc (rv (xs:=L.vars) (by first|rw [AH]|rw [Ce]|rw [Cf]) (rv (xs:=L.own) (by first|rw [AH]|rw [Ce]|rw [Cf]) (rv (xs:=L.tok) (by first|rw [AH]|rw [Ce]|rw [Cf]) rz)))))))))))))))) ?_))))))
  rintro m F h ⟨j,L3,ka,kb,kc,T6,Xk,Uc,AZ,rfl,rfl,rfl⟩
  refine Zh (aq (Xi ((j:Int)<(mk.length:Int)) (fun VD=>?_) (fun VD=>?_)))
  ·obtain ⟨xm,hxm⟩:=Zv mk j om
   refine ak (aq (ab 3 (ar (Zi (Zr none (j:Int) 1 (Yf hxm)) (Z0 (az (Z1 2 (ic [0,10,10,10] (BA c2 ka kb kc n L3 ln (T5 L am s mk) xm 0 (hlk:=Xk)) ?_))))))))
   rintro _ _ ⟨wa5,wb5,wc5,rfl⟩
   exact ie (az (ZK j (Z0 (ZJ ⟨j+1,(L3.grow xm 0 (gI s.args 0)),wa5,wb5,wc5,ob,(Wc.grow Xk),(by simp [Zb.grow];omega),(by rw [ZH hxm,K8] at AZ;exact AZ),rfl,rfl,rfl⟩ (wk [0,3,3,3,3,3,3,3,3,3,3,0,0,0] (ZL j fl) (e:=(rc (rc (rc (rc (rc (rc (rc (rc (rc (rc (rc (rv (xs:=(L3.grow xm 0 (-1)).vars) ob (rv (xs:=(L3.grow xm 0 (-1)).own) ob (rv (xs:=(L3.grow xm 0 (-1)).tok) ob rz))))))))))))))))))))
  have hE:L3=Vg n.decls L s.op s.num s.args k:=by rw [<-AZ,YV om];rfl
  have hL3v:L3.vars=L.vars++mk:=by rw [hE];exact hK.2
  have hL3l:L3.vars.length=L.vars.length+mk.length:=by rw [hL3v,YE]
  refine ax 2 (Yp 3 [5] (ic [0,10,10,10] (ih ke.steps c2 ka kb kc L3 (T5 L am s mk) q vs ob (by rw [hE];exact hK.1) (by rw [hE];exact hak) (by rw [hL3v];exact hvs) (by rw [hL3v];exact Dd hnn (Mq hty hmk)) om om hsrr) ?_))
  rintro _ _ (⟨wa6,wb6,wc6,M'2,rfl,rfl,T1⟩|⟨rfl,rfl,Tj⟩)
  ·have hP:=T1
   have kx:=FG hn (by rw [hE];exact hK.1) hq.1 (by rw [hE];exact hak) (by rw [hL3v];exact hvs) hP
   have kl:=kx.1.len
   have hm1:(XJ M'2 ke.result).own.length=vs.length:=by rw [Et.1,kl.own,kx.2.1]
   have hm2:(XJ M'2 ke.result).tok.length=vs.length:=by rw [Et.2.1,kl.tok,kx.2.1]
   refine Y6 5 [8] (ic [0,0,0,0] (Gv c2 wa6 wb6 wc6 n M'2 ln (T5 L am s mk) ke L.vars.length (hlk:=kl) (hlb:=(by rw [kx.2.1];omega)) (hm:=(by rw [kx.2.1];omega)) (hr:=(by rw [kx.2.1];omega)) (hq:=(fun y hy=>by have h1:=kx.1.nn y hy;have h2:=kx.1.bd y hy;omega))) ?_)
   rintro _ _ (⟨rfl,rfl,Qp⟩|⟨rfl,rfl,Ke⟩)
   ·have hB:=Qp
    rw [<-FJ (f:=VM L.vars.length ke.result) hP,hE,<-KA] at hB
    refine Z0 (XF (ak (ab 4 (ZM 1 (iQ false (Z0 (XF (aD 31 (Ya 26 31 [0,1,2,3,4] [0] (dx 5 (Qw 2 wb6 ((XJ M'2 ke.result).own) L.vars.length) (Ya 20 25 [6,7,8,9,10] [9] (dx 11 (Qw 11 ub O.own L.vars.length) (ZF 12 (Ue 12 [2,10] [] [] [rV wb6 ((XJ M'2 ke.result).own),rV ub O.own] (Bf (((XJ M'2 ke.result).own).take L.vars.length) (O.own.take L.vars.length)) Ae (gC (v:=wb6) (ys:=(XJ M'2 ke.result).own) 0 L.vars.length (gC (v:=ub) (ys:=O.own) 1 L.vars.length gN)) (Vp (Vp VV)) ?_))))))))))))))
    rintro _ _ ⟨rfl,rfl⟩
    refine Jw [0,3,5,6,7,45,46,47] [(104,.b ((!(decide ((((XJ M'2 ke.result).own).take L.vars.length)=(O.own.take L.vars.length))))||(!(decide ((((XJ M'2 ke.result).tok).take L.vars.length)=(O.tok.take L.vars.length))))))] (fun gz=>gz) ?_ ?_
    ·refine Zo 16 18 [13,14] (db (b:=(!(decide ((((XJ M'2 ke.result).own).take L.vars.length)=(O.own.take L.vars.length))))) 119 (fun ZD=>?_) (fun ZD=>?_))
     ·have JH:¬((((XJ M'2 ke.result).own).take L.vars.length)=(O.own.take L.vars.length)):=((Yl dq)).1 ZD
      exact Zo 0 16 [15,16,17,18,19,20,21,22,23,24,25,26,27,28,29,30] (de (Y5 14 (Zq true ZD fl)))
     have Am:¬(¬((((XJ M'2 ke.result).own).take L.vars.length)=(O.own.take L.vars.length))):=Y3 (Yl dq) ZD
     refine Ya 11 16 [15,16,17,18,19] [2] (dx 20 (Qw 4 wc6 ((XJ M'2 ke.result).tok) L.vars.length) (Ya 5 10 [21,22,23,24,25] [10] (dx 26 (Qw 12 uc O.tok L.vars.length) (ZF 27 (Ue 27 [4,11] [] [] [rV wc6 ((XJ M'2 ke.result).tok),rV uc O.tok] (Bf (((XJ M'2 ke.result).tok).take L.vars.length) (O.tok.take L.vars.length)) Ae (gC (v:=wc6) (ys:=(XJ M'2 ke.result).tok) 0 L.vars.length (gC (v:=uc) (ys:=O.tok) 1 L.vars.length gN)) (Vp (Vp VV)) ?_)))))
     rintro _ _ ⟨rfl,rfl⟩
     exact Zo 0 3 [28,29,30] (de (wk [2,2,2,2,0,1,1,1,1,1,1,1,0,0] (Zq (!(decide ((((XJ M'2 ke.result).tok).take L.vars.length)=(O.tok.take L.vars.length)))) ZD fl)))
    refine ac ((!(decide ((((XJ M'2 ke.result).own).take L.vars.length)=(O.own.take L.vars.length))))||(!(decide ((((XJ M'2 ke.result).tok).take L.vars.length)=(O.tok.take L.vars.length))))) (p:=(¬((((XJ M'2 ke.result).own).take L.vars.length)=(O.own.take L.vars.length)))∨(¬((((XJ M'2 ke.result).tok).take L.vars.length)=(O.tok.take L.vars.length)))) (Yj (Yl dq) (Yl dq)) (fun T9=>?_) (fun T9=>?_)
    ·exact ar (Z8 (r1 [] (.inr ⟨rfl,rfl,(by rw [hgo,d0_1];exact Db (by rw [<-d0_3,D5 hke,hB];exact Rp (T9.imp (fun h g=>h g.symm) (fun h g=>h g.symm))))⟩)))
    exact ak (az (ZK k (Z0 (ZJ (.inr ⟨k+1,c0,ua,ub,uc,O,aO,om,d0_1,d0_2,(by rw [D5 hke,hB,Rq (fun z=>T9 (z.imp (fun h g=>h g.symm) (fun h g=>h g.symm)))] at d0_3;exact d0_3),rfl,rfl,rfl⟩) (wk [10,10,1,9,4,4,4,4,5] (fr (ZL k fl)))))))
   have hB:=Ke
   rw [<-FJ (f:=VM L.vars.length ke.result) hP,hE,<-KA] at hB
   exact Z0 (W7 (ar (Z8 (r1 [] (.inr ⟨rfl,rfl,(by rw [hgo,d0_1];exact Db (by rw [<-d0_3,D5 hke,hB];rfl))⟩)))))
  have hB:WQ n ln (Vg n.decls L s.op s.num s.args k) L.vars.length ke=none:=by rw [KA,<-hE,Tj];rfl
  exact Z0 (W7 (ar (Z8 (r1 [] (.inr ⟨rfl,rfl,(by rw [hgo,d0_1];exact Db (by rw [<-d0_3,D5 hke,hB];rfl))⟩)))))
 refine ax 0 (aD 22 (Ya 15 22 [0,1,2,3,4,5,6] [0] (dx 7 (Qw 2 ub O.own L.vars.length) (Ya 9 14 [9,10,11,12,13] [0] (dx 14 (Qw 3 uc O.tok L.vars.length) (ZF 8 (Ue 8 [2] [0] [c0] [rV ub O.own] (CD (O.own.take L.vars.length)) QL (gC (v:=ub) (ys:=O.own) 0 L.vars.length gN) (Vp VV) ?_)))))))
 rintro _ _ ⟨v2,rfl,rfl⟩
 refine ZF 15 (Ue 15 [4] [] [] [rV uc O.tok] (CD (O.tok.take L.vars.length)) QL (gC (v:=uc) (ys:=O.tok) 0 L.vars.length gN) (Vp VV) ?_)
 rintro _ _ ⟨v3,rfl,rfl⟩
 exact Zo 4 6 [16,17] (ZF 18 (UC 18 6 [] [] b [ZI n.decls,Yr n,Ze ln,YR am,.h ga,.h v2,.h gc] (Zo 1 3 [19,20] (ZF 21 (UC 21 0 [] [] b [ZI n.decls,Yr n,Ze ln,YR am,.h ga,.h v2,.h v3] (de (ar (Z8 (r1 [0,6,2,0] (.inl ⟨ga,v2,v3,(Zb.mk L.vars (O.own.take L.vars.length) L.par L.con L.fst (O.tok.take L.vars.length)),rfl,rfl,(by rw [hgo,d0_1];exact Pd (by rw [<-d0_3,YV om];rfl))⟩) (eq:=(rc (rv (xs:=L.vars) ob (rv (xs:=(O.own.take L.vars.length)) ob (rv (xs:=(O.tok.take L.vars.length)) ob rz))))))))))))))
theorem HM (n:Zj) (us:LI) (s:Z7) (hn:YZ n) (hty:QC n) (hnn:∀t∈us,0<=t) (hb:us.length+4*s.sz<=1000000000) (hr:s.rng):Za 208 [.agg [ZI n.decls,Yr n],Ze us,XS s] [] (fun r h=>∃(t:Int),r=.tup [.i t,.b (decide (0<=ZT n us s))]/\h=[]/\(¬YT s.op=true->0<=ZT n us s->t=ZT n us s)):=
 On n us s hn hty hnn hb hr fun b us2 _ h2 h3 h4=>Oe n us2 b hn hty h4 h2 h3
theorem Z1b (b:Nat) (ga:Hd) (gb:Hd) (gc:Hd) (n:Zj) (L:WL) (ln:LI) (am:List YM) (s:Z7) (q:Int) (hn:YZ n:=by exact ob) (hty:QC n:=by exact ob) (hlt:AR n:=by exact ob) (hk:YK n.decls L q:=by exact ob) (har:WD n.decls L am:=by exact ob) (hln:ln.length<=4294967296:=by exact ob) (ht:0<=ZT n L.vars s:=by exact ob) (hnn:∀t∈L.vars,0<=t) (hb:L.vars.length+am.length+4*s.sz<=900000000:=by exact ob) (hq:0<=q/\q+4*s.sz<=999999980:=by exact ob) (hr:s.rng:=by exact ob) (ih:∀(ys:List Z7) (c:Nat) (ra:Hd) (rb:Hd) (rc:Hd) (M:WL) (a2:List YM) (p:Int) (vs:LI),(Y9 ys<s.sz)->(YK n.decls M p)->(WD n.decls M a2)->(Xu n ys M.vars=some vs)->(∀t∈M.vars,0<=t)->(M.vars.length+a2.length+4*Y9 ys<=900000000)->(0<=p/\p+4*Y9 ys<=999999980)->(U0 ys)->Za 159 [.p c 0,VW ys] [.obj c [ZI n.decls,Yr n,Ze ln,YR a2,.h ra,.h rb,.h rc],rV ra M.vars,rV rb M.own,rV rc M.tok] (fun r h=>(∃(wa:Hd) (wb:Hd) (wc:Hd) (M':WL),r=.b true/\h=[.obj c [ZI n.decls,Yr n,Ze ln,YR a2,.h wa,.h wb,.h wc],rV wa M'.vars,rV wb M'.own,rV wc M'.tok]/\V5 n ln M ys=some M')∨(r=.b false/\h=[]/\V5 n ln M ys=none))):Za 213 [.p b 0,XS s] [.obj b [ZI n.decls,Yr n,Ze ln,YR am,.h ga,.h gb,.h gc],rV ga L.vars,rV gb L.own,rV gc L.tok] (fun r h=>(∃(wa:Hd) (wb:Hd) (wc:Hd) (L':WL),r=.b true/\h=[.obj b [ZI n.decls,Yr n,Ze ln,YR am,.h wa,.h wb,.h wc],rV wa L'.vars,rV wb L'.own,rV wc L'.tok]/\T2 n ln L s=some L')∨(r=.b false/\h=[]/\T2 n ln L s=none)):=by
 have hlk:=hk.len
 obtain ⟨e1,e2,e3,e4,e5⟩:=hk.len
 have hf:=Bh ht
 have hkz:=Qq s
 have haz:=Ad s
 have hlh:=Z8v hlt ht
 refine Zx 58 Tryz.func213 (ar (iA (WT s) fun b1=>Z0 (aq (ab 0 (ZB 2 [0] (ZC [] (EM s.op) (Yw (YT s.op) Iff.rfl (fun Z5=>?_) (fun Z5=>?_))))))))
 ·obtain ⟨x,hxa⟩:=hf.one (.inr (.inr (by simpa [YT] using Z5)))
  have ha:s.args[0]? = some x:=by rw [hxa];rfl
  have hx:=hf.args x (by rw [hxa];simp)
  have hgx:=Ja ha
  have hal:=(W5.1 ha).1
  refine aD 9 (Ya 4 9 [0,1,2,3,4] [0,0] (dx 5 (Zr none 0 1 (Yf ha)) (Zo 2 3 [6] (ZF 7 (dc 7 [1,1,1,1] [] [] (Z19 b ga gb gc n L ln am s.op x q) ?_)))))
  rintro _ _ (⟨L'1,rfl,rfl,Yd⟩|⟨rfl,rfl,YX⟩)
  ·exact Zo 0 1 [8] (de (ZG (r1 [0,0,0,0] (.inl ⟨ga,gb,gc,L'1,rfl,rfl,(by rw [Sf Z5 hgx];exact Yd)⟩))))
  exact Zo 0 1 [8] (de (ZG (r1 [] (.inr ⟨rfl,rfl,(by rw [Sf Z5 hgx];exact YX)⟩))))
 refine ar (XC 8 [0,3] [(27,.b ((s.op==7)||(s.op==8)))] (fun gz=>gz) ?_ (fun hj1=>?_))
 ·refine Yw ((s.op==7)||(s.op==8)) (p:=(s.op=7)∨(s.op=8)) (Yj Zs Zs) (fun Zd=>?_) (fun Zd=>?_)
  ·refine ZB 2 [0] (ic [1,1,1,1] (Z17 b ga gb gc n L ln am s q (hnn:=ob) (ih:=ih)) ?_)
   rintro _ _ (⟨wa1,wb1,wc1,L'2,rfl,rfl,XB⟩|⟨rfl,rfl,XH⟩)
   ·have hP:=(Fk (n:=n) (ln:=ln) (L:=L) Zd).trans XB
    obtain ⟨kx,hxv⟩:=Ay hn hk hq.1 hf hP
    refine Z0 (XF (ak (aD 15 (Ya 6 15 [0,1,2,3,4,5,6,7,8] [0,0,4] (ZF 9 (Ue 9 [1] [] [] [rV wa1 L'2.vars] (HM n L'2.vars s ob ob (by rw [hxv];exact hnn) (by rw [hxv];omega) ob) GQ (gS (gL (v:=wa1) 0 (gS gN))) (Vp VV) ?_))))))
    rintro _ _ ⟨t1,rfl,rfl,VT⟩
    rw [hxv] at VT
    have hte:=VT Z5 ht
    refine Zo 0 5 [10,11,12,13,14] (de (ZM 3 (iI t1 1 (ic [1,0,0,0] (BA b wa1 wb1 wc1 n L'2 ln am t1 (min t1 1) (hlb:=(by rw [hxv];omega)) (hlk:=kx.len)) ?_))))
    rintro _ _ ⟨wa2,wb2,wc2,rfl⟩
    exact ie (ar (Z8 (r1 [0,0,0,0] (.inl ⟨wa2,wb2,wc2,(L'2.grow t1 (min t1 1) (-1)),rfl,rfl,(Lm hP ht Z5 hte)⟩))))
   have hP:=(Fk (n:=n) (ln:=ln) (L:=L) Zd).trans XH
   exact Z0 (W7 (ar (Z8 (r1 [] (.inr ⟨rfl,rfl,(Sh hP)⟩)))))
  refine ZB 2 [0] (ZC [] (Oj s.op) (Yw (Qk s.op) Iff.rfl (fun Zw=>?_) (fun Zw=>?_)))
  ·refine ZB 2 [0] (ic [1,1,1,1] (Z18 b ga gb gc n L ln am s q (hlt:=hlh)) ?_)
   rintro _ _ (⟨L'3,rfl,rfl,Uu⟩|⟨rfl,rfl,T1⟩)
   ·have hP:=(Ix (n:=n) (ln:=ln) (L:=L) Z5 Zd).trans Uu
    obtain ⟨kx,hxv⟩:=Ay hn hk hq.1 hf hP
    refine Z0 (XF (ak (aD 15 (Ya 6 15 [0,1,2,3,4,5,6,7,8] [0,0,4] (ZF 9 (Ue 9 [1] [] [] [rV ga L'3.vars] (HM n L'3.vars s ob ob (by rw [hxv];exact hnn) (by rw [hxv];omega) ob) GQ (gS (gL (v:=ga) 0 (gS gN))) (Vp VV) ?_))))))
    rintro _ _ ⟨t2,rfl,rfl,Tj⟩
    rw [hxv] at Tj
    have hte:=Tj Z5 ht
    refine Zo 0 5 [10,11,12,13,14] (de (ZM 3 (iI t2 1 (ic [1,0,0,0] (BA b ga gb gc n L'3 ln am t2 (min t2 1) (hlb:=(by rw [hxv];omega)) (hlk:=kx.len)) ?_))))
    rintro _ _ ⟨wa3,wb3,wc3,rfl⟩
    exact ie (ar (Z8 (r1 [0,0,0,0] (.inl ⟨wa3,wb3,wc3,(L'3.grow t2 (min t2 1) (-1)),rfl,rfl,(Lm hP ht Z5 hte)⟩))))
   have hP:=(Ix (n:=n) (ln:=ln) (L:=L) Z5 Zd).trans T1
   exact Z0 (W7 (ar (Z8 (r1 [] (.inr ⟨rfl,rfl,(Sh hP)⟩)))))
  have hP:=Zak (ln:=ln) Z5 Zd Zw ht
  have hxv:L.vars=L.vars:=rfl
  have kx:=hk
  refine ak (aD 15 (Ya 6 15 [0,1,2,3,4,5,6,7,8] [1,1,0] (ZF 9 (Ue 9 [2] [] [] [rV ga L.vars] (HM n L.vars s ob ob (by rw [hxv];exact hnn) (by rw [hxv];omega) ob) GQ (gS (gL (v:=ga) 0 (gS gN))) (Vp VV) ?_))))
  rintro _ _ ⟨t3,rfl,rfl,Qp⟩
  rw [hxv] at Qp
  have hte:=Qp Z5 ht
  refine Zo 0 5 [10,11,12,13,14] (de (ZM 3 (iI t3 1 (ic [2,0,1,1] (BA b ga gb gc n L ln am t3 (min t3 1) (hlb:=(by rw [hxv];omega)) (hlk:=kx.len)) ?_))))
  rintro _ _ ⟨wa4,wb4,wc4,rfl⟩
  exact ie (ar (Z8 (r1 [0,0,0,0] (.inl ⟨wa4,wb4,wc4,(L.grow t3 (min t3 1) (-1)),rfl,rfl,(Lm hP ht Z5 hte)⟩))))
 refine Y6 4 [0] (ib (b:=(s.op==7)) 23 (fun Zc=>?_) (fun Zc=>?_))
 ·have Ke:s.op=7:=(Zs).1 Zc
  exact Z1 4 (Ye (Y5 5 (Zq true Zc fl)) hj1)
 have JH:¬(s.op=7):=Y3 Zs Zc
 exact Y6 4 [0] (Ye (Y5 5 (Zq (s.op==8) Zc fl)) hj1)
theorem Z1e (n:Zj) (ln:LI) (hn:YZ n) (hty:QC n) (hlt:AR n) (hln:ln.length<=4294967296) (m:Nat):∀(ys:List Z7) (c:Nat) (ra:Hd) (rb:Hd) (rc:Hd) (M:WL) (a2:List YM) (p:Int) (vs:LI),(Y9 ys<m)->(YK n.decls M p)->(WD n.decls M a2)->(Xu n ys M.vars=some vs)->(∀t∈M.vars,0<=t)->(M.vars.length+a2.length+4*Y9 ys<=900000000)->(0<=p/\p+4*Y9 ys<=999999980)->(U0 ys)->Za 159 [.p c 0,VW ys] [.obj c [ZI n.decls,Yr n,Ze ln,YR a2,.h ra,.h rb,.h rc],rV ra M.vars,rV rb M.own,rV rc M.tok] (fun r h=>(∃(wa:Hd) (wb:Hd) (wc:Hd) (M':WL),r=.b true/\h=[.obj c [ZI n.decls,Yr n,Ze ln,YR a2,.h wa,.h wb,.h wc],rV wa M'.vars,rV wb M'.own,rV wc M'.tok]/\V5 n ln M ys=some M')∨(r=.b false/\h=[]/\V5 n ln M ys=none)):=by
 induction m with
 | zero=>intro ys c ra rb rc M a2 p vs h;omega
 | succ m ih=>
  intro ys c ra rb rc M a2 p vs h hk har ht hnn hb hp hr
  exact Z1d c ra rb rc n M ln a2 ys p vs hn hk har ht hnn hb hp hr fun s2 c ra rb rc M a2 p h1 hk har ht hnn hb hp hr=>Z1b c ra rb rc n M ln a2 s2 p hn hty hlt hk har hln ht hnn hb hp hr
   fun ys c ra rb rc M a2 p vs h2 hk har ht hnn hb hp hr=>ih ys c ra rb rc M a2 p vs om hk har ht hnn hb hp hr
theorem Z1c (c:Nat) (ra:Hd) (rb:Hd) (rc:Hd) (n:Zj) (M:WL) (ln:LI) (a2:List YM) (ys:List Z7) (p:Int) (vs:LI) (hn:YZ n) (hty:QC n) (hlt:AR n) (hln:ln.length<=4294967296) (hk:YK n.decls M p) (har:WD n.decls M a2) (ht:Xu n ys M.vars=some vs) (hnn:∀t∈M.vars,0<=t) (hb:M.vars.length+a2.length+4*Y9 ys<=900000000) (hp:0<=p/\p+4*Y9 ys<=999999980) (hr:U0 ys):Za 159 [.p c 0,VW ys] [.obj c [ZI n.decls,Yr n,Ze ln,YR a2,.h ra,.h rb,.h rc],rV ra M.vars,rV rb M.own,rV rc M.tok] (fun r h=>(∃(wa:Hd) (wb:Hd) (wc:Hd) (M':WL),r=.b true/\h=[.obj c [ZI n.decls,Yr n,Ze ln,YR a2,.h wa,.h wb,.h wc],rV wa M'.vars,rV wb M'.own,rV wc M'.tok]/\V5 n ln M ys=some M')∨(r=.b false/\h=[]/\V5 n ln M ys=none)):=
 Z1e n ln hn hty hlt hln (Y9 ys+1) ys c ra rb rc M a2 p vs om hk har ht hnn hb hp hr
theorem Z6s (n:Zj) (hz:WM n) (hs:Va n=true):Za 152 [X6 n] [] (ZQ (.tup [.agg [ZI n.decls,Yr n],.b (Va n)])):=by
 refine (Ok n hz).mono fun r h q=>?_
 rcases q with ⟨h1,h2,_⟩|⟨_,_,h3⟩
 ·exact ⟨h1,h2⟩
 ·rw [hs] at h3;cases h3
theorem Z1a (n:Zj) (f:Nat) (rt:Yy) (hn:YZ n:=by exact ob) (hz:WM n:=by exact ob) (hs:Va n=true:=by exact ob) (hr:n.routines[f]? = some rt:=by exact ob):Za 158 [X6 n,.i f] [] (fun r h=>∃(c:Nat) (wa:Hd) (wb:Hd) (wc:Hd),r=.p c 0/\h=[.obj c [ZI n.decls,Yr n,Ze rt.lent,YR [],.h wa,.h wb,.h wc],rV wa ((Uw rt).vars),rV wb ((Uw rt).own),rV wc ((Uw rt).tok)]):=by
 have hfl:=(W5.1 hr).1
 have hpl:=hn.params_at hr
 have hll:=hn.lent_at hr
 refine Zx 58 Tryz.func158 (ar (iA (Wb n) fun b1=>Z0 (ZB 1 [0] (ZC [] (Z6s n ob ob) (Z1 3 (iA [nl,nl] fun b2=>Y4 0 b2 [ZI n.decls,Yr n] (Z0 (aD 10 (Ya 6 10 [0,1,2,3] [0,1] (dx 4 (Zr none (f:Int) 5 (Us hr)) (Zo 2 5 [5,6,7] (ZF 8 (dA 8 [] [] [ZI n.decls,Yr n,Ze rt.lent,nl,nl,nl,nl] fun b3=>?_)))))))))))))
 refine Jz (Sw 0 b3 [ZI n.decls,Yr n,Ze rt.lent,nl,nl,nl,nl] [ZI n.decls,Yr n,Ze rt.lent,YR [],.h hN,.h hN,.h hN] (.cons (lr _) (.cons (lr _) (.cons (lr _) (.cons (Zm.sl _ rfl) (.cons (Zm.hd (v:=hN)) (.cons (Zm.hd (v:=hN)) (.cons (Zm.hd (v:=hN)) .nil)))))))) (Jz (Ko) (Jz (Ko) (Jz (Ko) (Zo 0 1 [9] (de (Yp 3 [5] (Zi (Zr none (f:Int) 5 (Us hr)) (Z1 2 (iw (Yn rt.params) (Z0 (ab 0 (ZU (fun fz gz m F h=>∃(k:Nat) (L2:WL) (ka:Hd) (kb:Hd) (kc:Hd),(k<=rt.params.length)/\(Wc L2)/\(L2.vars.length=k)/\(Qr rt.lent (rt.params.drop k) k L2=Uw rt)/\F=sF [7,29,30] fz [(31,.i k)]/\h=[.obj b3 [ZI n.decls,Yr n,Ze rt.lent,YR [],.h ka,.h kb,.h kc],rV ka L2.vars,rV kb L2.own,rV kc L2.tok]/\m=rt.params.length-k) _ _ _ ⟨0,(Zb.mk [] [] [] [] [] []),hN,hN,hN,ob,⟨rfl,rfl,rfl,rfl,rfl⟩,rfl,rfl,rfl,rfl,rfl⟩ (wk [3,0,0,0] (ZW fl) (e:=(rc (rv (xs:=[]) ob (rv (xs:=[]) ob (rv (xs:=[]) ob rz)))))) ?_))))))))))))
 rintro m F h ⟨k,L2,ka,kb,kc,Y0,Z9,Zz,Y8,rfl,rfl,rfl⟩
 refine Zh (aq (Xi ((k:Int)<(rt.params.length:Int)) (fun Z5=>?_) (fun Z5=>?_)))
 ·refine ak (aq (ab 1 (ZM 1 ?_)))
  obtain ⟨x1,Z2⟩:=Zv rt.params k om
  have hgl:(L2.grow x1 0 (-1)).own.length=k+1:=by simp [Zb.grow,Z9.own,Zz]
  refine Zi (Zr none (k:Int) 1 (Yf Z2)) (Z0 (ZM 2 (ic [0,0,0,0] (BA b3 ka kb kc n L2 rt.lent [] x1 0) ?_)))
  rintro _ _ ⟨wa1,wb1,wc1,rfl⟩
  refine ie (ar (Wa [7,8,29,30,31] [(49,.b ((x1 != 0)&&(!(decide ((k:Int)∈rt.lent)))))] (fun gz=>gz) ?_ ?_))
  ·refine Z1 3 (ib (b:=(x1 != 0)) 41 (fun Zc=>?_) (fun Zc=>?_))
   ·have Yd:x1≠0:=(ZP).1 Zc
    exact Y6 5 [0] (ZC [] (Lc rt.lent (k:Int)) (Z0 (Y5 4 (Zq (!(decide ((k:Int)∈rt.lent))) Zc fl))))
   have YX:¬(x1≠0):=Y3 ZP Zc
   exact Z0 (Y5 4 (Zq false Zc fl))
  refine ac ((x1 != 0)&&(!(decide ((k:Int)∈rt.lent)))) (p:=(x1≠0)/\(¬((k:Int)∈rt.lent))) (YD ZP (Yl dq)) (fun Zd=>?_) (fun Zd=>?_)
  ·exact az (Y6 5 [0] (Zi (XE 2 wb1 ((L2.grow x1 0 (-1)).own) (k:Int) k) (BW 2 wb1 ((L2.grow x1 0 (-1)).own) k 1 (ie (az (ZK k (Z0 (ZJ ⟨k+1,(L2.grow x1 1 (-1)),wa1,wb1,wc1,ob,(Wc.grow Z9),(by simp [Zb.grow];omega),(by rw [ZH Z2,Qr] at Y8;first|(rw [Z6 (by assumption)] at Y8;exact Y8)|(rw [Z4 (by assumption)] at Y8;exact Y8)),rfl,rfl,rfl⟩ (wk [1,1,0,0] (ZL k fl) (e:=(rc (rv (xs:=(L2.grow x1 0 (-1)).vars) (by first|rfl|exact IR (by rw [Z9.own,Zz])) (rv (xs:=(((L2.grow x1 0 (-1)).own).set k 1)) (by first|rfl|exact IR (by rw [Z9.own,Zz])) (rv (xs:=(L2.grow x1 0 (-1)).tok) (by first|rfl|exact IR (by rw [Z9.own,Zz])) rz))))))))))))))
  exact ak (az (ZK k (Z0 (ZJ ⟨k+1,(L2.grow x1 0 (-1)),wa1,wb1,wc1,ob,(Wc.grow Z9),(by simp [Zb.grow];omega),(by rw [ZH Z2,Qr] at Y8;first|(rw [Z6 (by assumption)] at Y8;exact Y8)|(rw [Z4 (by assumption)] at Y8;exact Y8)),rfl,rfl,rfl⟩ (Y5 4 (ZL k fl))))))
 refine ax 0 (Zh ?_)
 have hNl:L2=Uw rt:=by rw [<-Y8,YV om];rfl
 exact ZG (r1 [0,0,0,0] ⟨b3,ka,kb,kc,rfl,rfl⟩ (eq:=(rc (rv (xs:=L2.vars) (by rw [hNl]) (rv (xs:=L2.own) (by rw [hNl]) (rv (xs:=L2.tok) (by rw [hNl]) rz))))))
theorem Z6c (n:Zj) (f:Nat) (rt:Yy) (hn:YZ n:=by exact ob) (hty:QC n:=by exact ob) (hlt:AR n:=by exact ob) (hz:WM n:=by exact ob) (hs:Va n=true:=by exact ob) (hr:n.routines[f]? = some rt:=by exact ob) (ht:0<=Yv n rt.params rt.body:=by exact ob) (hrr:rt.body.rng:=by exact ob):Za 98 [X6 n,.i f] [] (ZQ (.b (Qh n rt))):=by
 have hfl:=(W5.1 hr).1
 have hpl:=hn.params_at hr
 have hll:=hn.lent_at hr
 have hrm:=YF hr
 have hbd:=hz.body rt hrm
 have hbz:=rt.body.sz_eq
 obtain ⟨hk,hkv⟩:=Pl n.decls rt
 obtain ⟨vs,t0,hvs,hres,hrt⟩:=BC ht
 have hri:=K3 hres
 have hsl:=FF hvs
 rw [rt.body.rng_eq] at hrr
 refine Zx 25 Tryz.func98 (ar (iA (Wb n) fun b1=>Z0 (ZB 2 [0] (ic [] (Z1a n f rt) ?_))))
 rintro _ _ ⟨c1,wa1,wb1,wc1,rfl,rfl⟩
 refine Z0 (ZB 3 [4] (Zi (Zr none (f:Int) 5 (Us hr)) (Z1 2 (iA [nl,.i 0] fun b2=>Y4 0 b2 (VE rt.body) (ie (ZB 3 [0] (ic [1,1,1,1] (Z1c c1 wa1 wb1 wc1 n (Uw rt) rt.lent [] rt.body.steps 1 vs ob ob ob ob hk (Pk rt) (by rw [hkv];exact hvs) (by rw [hkv];exact hty.params rt hrm) (by rw [hkv,Vy];omega) ob ob) ?_)))))))
 rintro _ _ (⟨wa2,wb2,wc2,M'1,rfl,rfl,Yd⟩|⟨rfl,rfl,YX⟩)
 ·have hP:=Yd
  have kx:=FG hn hk om (Pk rt) (by rw [hkv];exact hvs) hP
  have kl:=kx.1.len
  refine Y6 3 [4] (ic [0,0,0,0] (Gv c1 wa2 wb2 wc2 n M'1 rt.lent [] rt.body 0 (hlk:=kl) (hlb:=(by rw [kx.2.1];omega)) (hr:=(by rw [kx.2.1];omega)) (hq:=(fun y hy=>by have h1:=kx.1.nn y hy;have h2:=kx.1.bd y hy;omega))) ?_)
  rintro _ _ (⟨rfl,rfl,XB⟩|⟨rfl,rfl,XH⟩)
  ·have hB:=XB
   exact Z8 (Zp (.b true) (lb (by rw [Ra hP (by rw [kl.own,kl.tok]),hB];rfl)))
  have hB:=XH
  exact Z8 (Zp (.b false) (lb (by rw [Ra hP (by rw [kl.own,kl.tok]),hB];rfl)))
 have hP:=YX
 exact Z8 (Zp (.b false) (lb (by rw [Zaz hP])))
theorem Z65 (n:Zj) (hz:WM n:=by exact ob) (hr:∀r∈n.routines,r.body.rng):Za 49 [X6 n] [] (ZQ (.b (U2 n))):=by
 have hzl:=hz.len
 refine Zx 18 Tryz.func49 (ar (iA (Wb n) fun b1=>Z0 (Yp 1 [0] (ZC [] (Oc n (hr:=hr)) (Yw (!XX n) (p:=¬(XX n=true)) (Yl Iff.rfl) (fun Z5=>?_) (fun Z5=>?_))))))
 ·exact ar (Z8 (Zp (.b false) (lb (by first|rfl|omega|grind [U2]))))
 have hV:XX n=true:=Ww.1 Z5
 obtain ⟨hok,hall⟩:=DG hz hV
 have hsg:Va n=true:=by rw [XX,Xv] at hV;exact hV.1
 have hty:=Pp hsg
 have hlt:=Z9k hsg
 refine ak (Yp 2 [0] (iw (UJ n.routines) (Z0 (ab 0 (ZU (fun fz gz m F h=>∃(k:Nat),(k<=n.routines.length)/\(K4 n (n.routines.drop k)=K4 n n.routines)/\F=sF [1,9] fz [(10,.i k)]/\h=gz/\m=n.routines.length-k) _ _ _ ⟨0,ob,ob,rfl,rfl,rfl⟩ (wk [0] (ZW fl)) ?_)))))
 rintro m F h ⟨k,Y0,Z9,rfl,rfl,rfl⟩
 refine Zh (aq (Xi ((k:Int)<(n.routines.length:Int)) (fun Zd=>?_) (fun Zd=>?_)))
 ·obtain ⟨rt,hrt⟩:=Zv n.routines k om
  have hrm:=YF hrt
  refine ak (aq (ab 1 (Zh (ZB 2 [0] (ZC [] (Z6c n k rt (hr:=hrt) (ht:=(hall rt hrm)) (hrr:=(hr rt hrm))) (Yw (!Qh n rt) (p:=¬(Qh n rt=true)) (Yl Iff.rfl) (fun Zw=>?_) (fun Zw=>?_)))))))
  ·refine Zh ?_
   rw [ZH hrt] at Z9
   exact ZG (Zp (.b false) (lb (by first|rfl|omega|grind [K4,U2])))
  refine ak (az (ZK k (Z0 ?_)))
  have hdr:=ZH hrt
  exact ZJ ⟨k+1,ob,(by rw [hdr] at Z9;clear hdr ;grind [K4]),rfl,rfl,rfl⟩ (wk [0] (ZL k fl))
 refine ax 0 (Zh ?_)
 try rw [YV (xs:=n.routines) (k:=k) om] at Z9
 exact ZG (Zp (.b true) (lb (by first|rfl|omega|grind [K4,U2])))
theorem EX (xs:LI) (left:Int) (hlf:0<=left/\left<=1048576:=by exact ob) (hl:xs.length<=9223372036854775807:=by exact ob):Za 138 [Ze xs,.i left] [] (ZQ (.i (Y7 xs.length left))):=by
 refine Zx 12 Tryz.func138 (Zh (ZM 2 (iw (Yn xs) (ia ((left-(xs.length:Int))) ((left)-((xs.length:Int))) (Z0 (Yt (ZO ((left-(xs.length:Int))<0) (fun Z5=>?_) (fun Z5=>?_))))))))
 ·exact ar (Z8 (Zp (.i (-1)) (li (by rw [Y7,Z6 om]))))
 exact ak (ar (Z8 (Zp (.i (left-(xs.length:Int))) (li (by rw [Y7,Z4 om])))))
theorem Z8d (c:Xs) (left:Int) (hlf:0<=left/\left<=1048576:=by exact ob) (hl:T7 c<=9223372036854775807:=by exact ob):Za 193 [J1 c,.i left] [] (ZQ (.i (Y7 (T7 c) left))):=by
 have hl2:=hl
 unfold T7 at hl2
 refine Zx 12 Tryz.func193 (ar (iA (KP c) fun b1=>Z0 (ZB 3 [0] (ZC [] (EX c.fields left) (Z0 (Yt (ZO ((Y7 c.fields.length left)<0) (fun Z5=>?_) (fun Z5=>?_))))))))
 ·exact ar (Z8 (Zp (.i (-1)) (li (by rw [T7];unfold Y7 at *;split at Z5<;>omega))))
 exact ak (ar (Z8 (Zp (.i (Y7 c.fields.length left)) (li rfl))))
theorem Z8c (cs:List Xs) (left:Int) (hlf:0<=left/\left<=1048576:=by exact ob) (hl:Uq cs<=9223372036854775807:=by exact ob):Za 137 [JQ cs,.i left] [] (ZQ (.i (Y7 (Uq cs) left))):=by
 have hl2:=hl
 unfold Uq at hl2
 refine Zx 27 Tryz.func137 (Zh (ZM 2 (iw (Vl cs) (ia ((left-(cs.length:Int))) ((left)-((cs.length:Int))) (Z0 (Yt (ZO ((left-(cs.length:Int))<0) (fun Z5=>?_) (fun Z5=>?_))))))))
 ·exact ar (Z8 (Zp (.i (-1)) (li (by rw [Uq];exact DD Z5))))
 refine ak (Ym (ab 0 (ZU (fun fz gz m F h=>∃(k:Nat) (lf:Int),(k<=cs.length)/\(0<=lf/\lf<=1048576)/\(Y7 (Tq (cs.drop k)) lf=Y7 (Uq cs) left)/\F=sF [0] fz [(1,.i lf),(5,.i k)]/\h=gz/\m=cs.length-k) _ _ _ ⟨0,(left-(cs.length:Int)),ob,om,(by rw [TR,Uq];exact DA Z5),rfl,rfl,rfl⟩ (wk [] (fr (ZW fl))) ?_)))
 rintro m F h ⟨k,lf,Y0,Z9,Zz,rfl,rfl,rfl⟩
 refine Yb 2 (iw (Vl cs) (ZO ((k:Int)<(cs.length:Int)) (fun Zd=>?_) (fun Zd=>?_)))
 ·refine ak (aq (ab 1 (ZM 2 ?_)))
  obtain ⟨x1,Z2⟩:=Zv cs k om
  have hcl:=Ec Z2
  have hle:=JX (c:=T7 x1) Z9.1
  refine Zi (Zr none (k:Int) 1 (KF Z2)) (Z1 2 (ZC [] (Z8d x1 lf) (Z0 (ar (ZO ((Y7 (T7 x1) lf)<0) (fun Zw=>?_) (fun Zw=>?_))))))
  ·exact ar (Z8 (Zp (.i (-1)) (li (Dy (N7 Z2) Zw Zz))))
  exact ak (az (Z1 1 (ZK k (Z0 (ZJ ⟨k+1,(Y7 (T7 x1) lf),ob,om,(DC (left:=0) (N7 Z2) Zw Zz),rfl,rfl,rfl⟩ (wk [] (fr (ZL k fl))))))))
 exact ax 0 (ar (Z8 (Zp (.i lf) (li (Dz (Z2t om) Z9.1 Zz)))))
theorem Z8f (d:Zg) (left:Int) (hlf:0<=left/\left<=1048576:=by exact ob) (hl:U5 d<=9223372036854775807:=by exact ob):Za 82 [QY d,.i left] [] (ZQ (.i (Y7 (U5 d) left))):=by
 have hl2:=hl
 unfold U5 at hl2
 refine Zx 12 Tryz.func82 (ar (iA (Uh d) fun b1=>Z0 (ZB 3 [0] (ZC [] (Z8c d.cons left) (Z0 (Yt (ZO ((Y7 (Uq d.cons) left)<0) (fun Z5=>?_) (fun Z5=>?_))))))))
 ·exact ar (Z8 (Zp (.i (-1)) (li (by rw [U5];unfold Y7 at *;split at Z5<;>omega))))
 exact ak (ar (Z8 (Zp (.i (Y7 (Uq d.cons) left)) (li rfl))))
theorem Z8e (cs:List Zg) (left:Int) (hlf:0<=left/\left<=1048576:=by exact ob) (hl:VA cs<=9223372036854775807:=by exact ob):Za 38 [ZI cs,.i left] [] (ZQ (.i (Y7 (VA cs) left))):=by
 have hl2:=hl
 unfold VA at hl2
 refine Zx 27 Tryz.func38 (Zh (ZM 2 (iw (VB cs) (ia ((left-(cs.length:Int))) ((left)-((cs.length:Int))) (Z0 (Yt (ZO ((left-(cs.length:Int))<0) (fun Z5=>?_) (fun Z5=>?_))))))))
 ·exact ar (Z8 (Zp (.i (-1)) (li (by rw [VA];exact DD Z5))))
 refine ak (Ym (ab 0 (ZU (fun fz gz m F h=>∃(k:Nat) (lf:Int),(k<=cs.length)/\(0<=lf/\lf<=1048576)/\(Y7 (Q1 (cs.drop k)) lf=Y7 (VA cs) left)/\F=sF [0] fz [(1,.i lf),(5,.i k)]/\h=gz/\m=cs.length-k) _ _ _ ⟨0,(left-(cs.length:Int)),ob,om,(by rw [TR,VA];exact DA Z5),rfl,rfl,rfl⟩ (wk [] (fr (ZW fl))) ?_)))
 rintro m F h ⟨k,lf,Y0,Z9,Zz,rfl,rfl,rfl⟩
 refine Yb 2 (iw (VB cs) (ZO ((k:Int)<(cs.length:Int)) (fun Zd=>?_) (fun Zd=>?_)))
 ·refine ak (aq (ab 1 (ZM 2 ?_)))
  obtain ⟨x1,Z2⟩:=Zv cs k om
  have hcl:=Ek Z2
  have hle:=JX (c:=U5 x1) Z9.1
  refine Zi (Zr none (k:Int) 3 (Vm Z2)) (Z1 2 (ZC [] (Z8f x1 lf) (Z0 (ar (ZO ((Y7 (U5 x1) lf)<0) (fun Zw=>?_) (fun Zw=>?_))))))
  ·exact ar (Z8 (Zp (.i (-1)) (li (Dy (Ng Z2) Zw Zz))))
  exact ak (az (Z1 1 (ZK k (Z0 (ZJ ⟨k+1,(Y7 (U5 x1) lf),ob,om,(DC (left:=0) (Ng Z2) Zw Zz),rfl,rfl,rfl⟩ (wk [] (fr (ZL k fl))))))))
 exact ax 0 (ar (Z8 (Zp (.i lf) (li (Dz (Z3i om) Z9.1 Zz)))))
theorem Zee (z:Nat) (cs:List Zf) (left:Int) (hlf:0<=left/\left<=1048576:=by exact ob) (hl:U3 cs<=9223372036854775807:=by exact ob) (hz:Xn cs<=z:=by exact ob) (ih:∀(b2:Zf) (left:Int),(b2.sz<=z)->(0<=left/\left<=1048576)->(b2.cst<=9223372036854775807)->Za 139 [YG b2,.i left] [] (ZQ (.i (Y7 b2.cst left)))):Za 280 [KQ cs,.i left] [] (ZQ (.i (Y7 (U3 cs) left))):=by
 have hl2:=hl
 unfold U3 at hl2
 refine Zx 27 Tryz.func280 (Zh (ZM 2 (iw (Uf cs) (ia ((left-(cs.length:Int))) ((left)-((cs.length:Int))) (Z0 (Yt (ZO ((left-(cs.length:Int))<0) (fun Z5=>?_) (fun Z5=>?_))))))))
 ·exact ar (Z8 (Zp (.i (-1)) (li (by rw [U3];exact DD Z5))))
 refine ak (Ym (ab 0 (ZU (fun fz gz m F h=>∃(k:Nat) (lf:Int),(k<=cs.length)/\(0<=lf/\lf<=1048576)/\(Y7 (UG (cs.drop k)) lf=Y7 (U3 cs) left)/\F=sF [0] fz [(1,.i lf),(5,.i k)]/\h=gz/\m=cs.length-k) _ _ _ ⟨0,(left-(cs.length:Int)),ob,om,(by rw [TR,U3];exact DA Z5),rfl,rfl,rfl⟩ (wk [] (fr (ZW fl))) ?_)))
 rintro m F h ⟨k,lf,Y0,Z9,Zz,rfl,rfl,rfl⟩
 refine Yb 2 (iw (Uf cs) (ZO ((k:Int)<(cs.length:Int)) (fun Zd=>?_) (fun Zd=>?_)))
 ·refine ak (aq (ab 1 (ZM 2 ?_)))
  obtain ⟨x1,Z2⟩:=Zv cs k om
  have hcl:=Gw Z2
  have YH:=BD Z2
  have hle:=JX (c:=x1.cst) Z9.1
  refine Zi (Zr none (k:Int) 2 (TF Z2)) (Z1 2 (ZC [] (ih x1 lf ob ob ob) (Z0 (ar (ZO ((Y7 x1.cst lf)<0) (fun Zw=>?_) (fun Zw=>?_))))))
  ·exact ar (Z8 (Zp (.i (-1)) (li (Dy (Mw Z2) Zw Zz))))
  exact ak (az (Z1 1 (ZK k (Z0 (ZJ ⟨k+1,(Y7 x1.cst lf),ob,om,(DC (left:=0) (Mw Z2) Zw Zz),rfl,rfl,rfl⟩ (wk [] (fr (ZL k fl))))))))
 exact ax 0 (ar (Z8 (Zp (.i lf) (li (Dz (Z1h om) Z9.1 Zz)))))
theorem Zef (z:Nat) (s:Z7) (left:Int) (hlf:0<=left/\left<=1048576:=by exact ob) (hl:s.cst<=9223372036854775807:=by exact ob) (hz:s.sz<=z+1:=by exact ob) (ih:∀(b2:Zf) (left:Int),(b2.sz<=z)->(0<=left/\left<=1048576)->(b2.cst<=9223372036854775807)->Za 139 [YG b2,.i left] [] (ZQ (.i (Y7 b2.cst left)))):Za 229 [XS s,.i left] [] (ZQ (.i (Y7 s.cst left))):=by
 have hse:=s.sz_eq
 have hce:=s.cst_eq
 have hle:=JX (c:=s.args.length) hlf.1
 have hbc:U3 s.kids=s.kids.length+UG s.kids:=rfl
 refine Zx 18 Tryz.func229 (ar (iA (WT s) fun b1=>Z0 (ZB 3 [0] (ZC [] (EX s.args left) (Z0 (Yt (ZO ((Y7 s.args.length left)<0) (fun Z5=>?_) (fun Z5=>?_))))))))
 ·exact ar (Z8 (Zp (.i (-1)) (li (by rw [hce,DB Z5]))))
 refine ak (ZB 3 [0] (ZC [] (Zee z s.kids (Y7 s.args.length left) (ih:=ih)) (Z0 (Yt (ZO ((Y7 (U3 s.kids) (Y7 s.args.length left))<0) (fun Zd=>?_) (fun Zd=>?_))))))
 ·exact ar (Z8 (Zp (.i (-1)) (li (by have h:=Dx (a:=s.args.length) (b:=U3 s.kids) (left:=left) om;rw [hce,<-hbc,<-h];unfold Y7 at *;split at Zd<;>omega))))
 exact ak (ar (Z8 (Zp (.i (Y7 (U3 s.kids) (Y7 s.args.length left))) (li (by have h:=Dx (a:=s.args.length) (b:=U3 s.kids) (left:=left) om;rw [hce,<-hbc,<-h])))))
theorem Zeg (z:Nat) (cs:List Z7) (left:Int) (hlf:0<=left/\left<=1048576:=by exact ob) (hl:UA cs<=9223372036854775807:=by exact ob) (hz:Y9 cs<=z+1:=by exact ob) (ih:∀(b2:Zf) (left:Int),(b2.sz<=z)->(0<=left/\left<=1048576)->(b2.cst<=9223372036854775807)->Za 139 [YG b2,.i left] [] (ZQ (.i (Y7 b2.cst left)))):Za 194 [VW cs,.i left] [] (ZQ (.i (Y7 (UA cs) left))):=by
 have hl2:=hl
 unfold UA at hl2
 refine Zx 27 Tryz.func194 (Zh (ZM 2 (iw (T8 cs) (ia ((left-(cs.length:Int))) ((left)-((cs.length:Int))) (Z0 (Yt (ZO ((left-(cs.length:Int))<0) (fun Z5=>?_) (fun Z5=>?_))))))))
 ·exact ar (Z8 (Zp (.i (-1)) (li (by rw [UA];exact DD Z5))))
 refine ak (Ym (ab 0 (ZU (fun fz gz m F h=>∃(k:Nat) (lf:Int),(k<=cs.length)/\(0<=lf/\lf<=1048576)/\(Y7 (UL (cs.drop k)) lf=Y7 (UA cs) left)/\F=sF [0] fz [(1,.i lf),(5,.i k)]/\h=gz/\m=cs.length-k) _ _ _ ⟨0,(left-(cs.length:Int)),ob,om,(by rw [TR,UA];exact DA Z5),rfl,rfl,rfl⟩ (wk [] (fr (ZW fl))) ?_)))
 rintro m F h ⟨k,lf,Y0,Z9,Zz,rfl,rfl,rfl⟩
 refine Yb 2 (iw (T8 cs) (ZO ((k:Int)<(cs.length:Int)) (fun Zd=>?_) (fun Zd=>?_)))
 ·refine ak (aq (ab 1 (ZM 2 ?_)))
  obtain ⟨x1,Z2⟩:=Zv cs k om
  have hcl:=IQ Z2
  have YH:=Du Z2
  have hle:=JX (c:=x1.cst) Z9.1
  refine Zi (Zr none (k:Int) 5 (U7 Z2)) (Z1 2 (ZC [] (Zef z x1 lf (ih:=ih)) (Z0 (ar (ZO ((Y7 x1.cst lf)<0) (fun Zw=>?_) (fun Zw=>?_))))))
  ·exact ar (Z8 (Zp (.i (-1)) (li (Dy (Rs Z2) Zw Zz))))
  exact ak (az (Z1 1 (ZK k (Z0 (ZJ ⟨k+1,(Y7 x1.cst lf),ob,om,(DC (left:=0) (Rs Z2) Zw Zz),rfl,rfl,rfl⟩ (wk [] (fr (ZL k fl))))))))
 exact ax 0 (ar (Z8 (Zp (.i lf) (li (Dz (Zbr om) Z9.1 Zz)))))
theorem Zec (z:Nat) (b:Zf) (left:Int) (hlf:0<=left/\left<=1048576:=by exact ob) (hl:b.cst<=9223372036854775807:=by exact ob) (hz:b.sz<=z+1:=by exact ob) (ih:∀(b2:Zf) (left:Int),(b2.sz<=z)->(0<=left/\left<=1048576)->(b2.cst<=9223372036854775807)->Za 139 [YG b2,.i left] [] (ZQ (.i (Y7 b2.cst left)))):Za 139 [YG b,.i left] [] (ZQ (.i (Y7 b.cst left))):=by
 have hse:=b.sz_eq
 have hce:=b.cst_eq
 have hbc:UA b.steps=b.steps.length+UL b.steps:=rfl
 refine Zx 12 Tryz.func139 (ar (iA (VE b) fun b1=>Z0 (ZB 3 [0] (ZC [] (Zeg z b.steps left (ih:=ih)) (Z0 (Yt (ZO ((Y7 (UA b.steps) left)<0) (fun Z5=>?_) (fun Z5=>?_))))))))
 ·exact ar (Z8 (Zp (.i (-1)) (li (by rw [hce,<-hbc];unfold Y7 at *;split at Z5<;>omega))))
 exact ak (ar (Z8 (Zp (.i (Y7 (UA b.steps) left)) (li (by rw [hce,<-hbc])))))
theorem Zed (m:Nat):∀(b2:Zf) (left:Int),(b2.sz<=m)->(0<=left/\left<=1048576)->(b2.cst<=9223372036854775807)->Za 139 [YG b2,.i left] [] (ZQ (.i (Y7 b2.cst left))):=by
 induction m with
 | zero=>intro b left h;have:=b.sz_pos;omega
 | succ m ih=>intro b left h1 h2 h3;exact Zec m b left h2 h3 h1 ih
theorem Zeb (b2:Zf) (left:Int) (hlf:0<=left/\left<=1048576) (hl:b2.cst<=9223372036854775807):Za 139 [YG b2,.i left] [] (ZQ (.i (Y7 b2.cst left))):=
 Zed b2.sz b2 left (X1 _) hlf hl
theorem Z8h (rt:Yy) (left:Int) (hlf:0<=left/\left<=1048576:=by exact ob) (hl:VF rt<=9223372036854775807:=by exact ob):Za 83 [QZ rt,.i left] [] (ZQ (.i (Y7 (VF rt) left))):=by
 have hl2:=hl
 unfold VF at hl2
 have hle:=JX (c:=rt.params.length) hlf.1
 refine Zx 24 Tryz.func83 (ar (iA (TM rt) fun b1=>Z0 (ZB 3 [0] (ZC [] (EX rt.params left) (Z0 (Yt (ZO ((Y7 rt.params.length left)<0) (fun Z5=>?_) (fun Z5=>?_))))))))
 ·exact ar (Z8 (Zp (.i (-1)) (li (by rw [VF,DB Z5]))))
 have h1:=Lp (b:=rt.lent.length) Z5
 have hle2:=JX (c:=rt.params.length+rt.lent.length) hlf.1
 refine ak (ZB 3 [0] (ZC [] (EX rt.lent (Y7 rt.params.length left)) (Z0 (Yt (ZO ((Y7 rt.lent.length (Y7 rt.params.length left))<0) (fun Zd=>?_) (fun Zd=>?_))))))
 ·exact ar (Z8 (Zp (.i (-1)) (li (by rw [h1] at Zd;rw [VF,<-DQ,DB Zd]))))
 have h2:=Lp (b:=rt.body.cst) (a:=rt.params.length+rt.lent.length) (left:=left) (by rw [<-h1];exact Zd)
 refine ak (ZB 3 [0] (ZC [] (Zeb rt.body (Y7 rt.lent.length (Y7 rt.params.length left)) ob ob) (Z0 (Yt (ZO ((Y7 rt.body.cst (Y7 rt.lent.length (Y7 rt.params.length left)))<0) (fun Zw=>?_) (fun Zw=>?_))))))
 ·exact ar (Z8 (Zp (.i (-1)) (li (by rw [h1,h2] at Zw;rw [VF,<-DQ];exact St Zw))))
 exact ak (ar (Z8 (Zp (.i (Y7 rt.body.cst (Y7 rt.lent.length (Y7 rt.params.length left)))) (li (by rw [h1,h2,VF,<-DQ])))))
theorem Z8g (cs:List Yy) (left:Int) (hlf:0<=left/\left<=1048576:=by exact ob) (hl:VY cs<=9223372036854775807:=by exact ob):Za 39 [C3 cs,.i left] [] (ZQ (.i (Y7 (VY cs) left))):=by
 have hl2:=hl
 unfold VY at hl2
 refine Zx 27 Tryz.func39 (Zh (ZM 2 (iw (UJ cs) (ia ((left-(cs.length:Int))) ((left)-((cs.length:Int))) (Z0 (Yt (ZO ((left-(cs.length:Int))<0) (fun Z5=>?_) (fun Z5=>?_))))))))
 ·exact ar (Z8 (Zp (.i (-1)) (li (by rw [VY];exact DD Z5))))
 refine ak (Ym (ab 0 (ZU (fun fz gz m F h=>∃(k:Nat) (lf:Int),(k<=cs.length)/\(0<=lf/\lf<=1048576)/\(Y7 (Td (cs.drop k)) lf=Y7 (VY cs) left)/\F=sF [0] fz [(1,.i lf),(5,.i k)]/\h=gz/\m=cs.length-k) _ _ _ ⟨0,(left-(cs.length:Int)),ob,om,(by rw [TR,VY];exact DA Z5),rfl,rfl,rfl⟩ (wk [] (fr (ZW fl))) ?_)))
 rintro m F h ⟨k,lf,Y0,Z9,Zz,rfl,rfl,rfl⟩
 refine Yb 2 (iw (UJ cs) (ZO ((k:Int)<(cs.length:Int)) (fun Zd=>?_) (fun Zd=>?_)))
 ·refine ak (aq (ab 1 (ZM 2 ?_)))
  obtain ⟨x1,Z2⟩:=Zv cs k om
  have hcl:=Fp Z2
  have hle:=JX (c:=VF x1) Z9.1
  refine Zi (Zr none (k:Int) 5 (Us Z2)) (Z1 2 (ZC [] (Z8h x1 lf) (Z0 (ar (ZO ((Y7 (VF x1) lf)<0) (fun Zw=>?_) (fun Zw=>?_))))))
  ·exact ar (Z8 (Zp (.i (-1)) (li (Dy (Rj Z2) Zw Zz))))
  exact ak (az (Z1 1 (ZK k (Z0 (ZJ ⟨k+1,(Y7 (VF x1) lf),ob,om,(DC (left:=0) (Rj Z2) Zw Zz),rfl,rfl,rfl⟩ (wk [] (fr (ZL k fl))))))))
 exact ax 0 (ar (Z8 (Zp (.i lf) (li (Dz (Zbh om) Z9.1 Zz)))))
theorem OR (n:Zj) (left:Int) (hlf:0<=left/\left<=1048576) (hl:Wo n<=9223372036854775807):Za 15 [X6 n,.i left] [] (ZQ (.i (Y7 (Wo n) left))):=by
 have hl2:=hl
 unfold Wo at hl2
 have hle:=JX (c:=VA n.decls) hlf.1
 refine Zx 18 Tryz.func15 (ar (iA (Wb n) fun b1=>Z0 (ZB 3 [0] (ZC [] (Z8e n.decls left) (Z0 (Yt (ZO ((Y7 (VA n.decls) left)<0) (fun Z5=>?_) (fun Z5=>?_))))))))
 ·exact ar (Z8 (Zp (.i (-1)) (li (by rw [Wo,DB Z5]))))
 have h1:=Lp (b:=VY n.routines) Z5
 refine ak (ZB 3 [0] (ZC [] (Z8g n.routines (Y7 (VA n.decls) left)) (Z0 (Yt (ZO ((Y7 (VY n.routines) (Y7 (VA n.decls) left))<0) (fun Zd=>?_) (fun Zd=>?_))))))
 ·exact ar (Z8 (Zp (.i (-1)) (li (by rw [h1] at Zd;rw [Wo];exact St Zd))))
 exact ak (ar (Z8 (Zp (.i (Y7 (VY n.routines) (Y7 (VA n.decls) left))) (li (by rw [h1,Wo])))))
theorem EW (cs:LI) (hl:cs.length<=1000000000:=by exact ob):Za 156 [Ze cs,Ze cs] [] (ZQ (.b true)):=by
 refine Zx 26 Tryz.func156 (Zh (Yb 1 (iw (Yn cs) (Z1 1 (iw (Yn cs) (Yw ((cs.length:Int) != (cs.length:Int)) ZP (fun Z5=>?_) (fun Z5=>?_)))))))
 ·exact ar (Z8 (Zp (.b false) lb))
 refine ak (Ym (ab 0 (ZU (fun fz gz m F h=>∃(k:Nat),(k<=cs.length)/\F=sF [0,1] fz [(5,.i k)]/\h=gz/\m=cs.length-k) _ _ _ ⟨0,ob,rfl,rfl,rfl⟩ (wk [] (ZW fl)) ?_)))
 rintro m F h ⟨k,Y0,rfl,rfl,rfl⟩
 refine Yb 2 (iw (Yn cs) (ZO ((k:Int)<(cs.length:Int)) (fun Zd=>?_) (fun Zd=>?_)))
 ·refine ak (aq (ab 1 (aD 9 (Zo 7 9 [0,1] ?_))))
  obtain ⟨x1,Z2⟩:=Zv cs k om
  refine dx 2 (Zr none (k:Int) 1 (Yf Z2)) (Zo 3 6 [3,4,5] (dx 6 (Zr none (k:Int) 1 (Yf Z2)) (Zo 0 2 [7,8] (de (ac (x1 != x1) ZP (fun Zw=>?_) (fun Zw=>?_))))))
  ·exact ar (Z8 (Zp (.b false) lb))
  exact ak (az (Z1 1 (ZK k (Z0 (ZJ ⟨k+1,ob,rfl,rfl,rfl⟩ (wk [] (ZL k fl)))))))
 exact ax 0 (ar (Z8 (Te)))
theorem Z87 (c:Xs) (hl:T7 c<=1000000000:=by exact ob):Za 209 [J1 c,J1 c] [] (ZQ (.b true)):=by
 unfold T7 at hl
 exact Zx 11 Tryz.func209 (ar (iA (KP c) fun b1=>iA (KP c) fun b2=>Z0 (Yp 4 [1,0] (ZC [] (EW c.fields) (Z0 (XF (ak (ar (Z8 (Te))))))))))
theorem Z86 (cs:List Xs) (hl:Uq cs<=1000000000:=by exact ob):Za 155 [JQ cs,JQ cs] [] (ZQ (.b true)):=by
 have hl2:=hl
 unfold Uq at hl2
 refine Zx 27 Tryz.func155 (Zh (Yb 1 (iw (Vl cs) (Z1 1 (iw (Vl cs) (Yw ((cs.length:Int) != (cs.length:Int)) ZP (fun Z5=>?_) (fun Z5=>?_)))))))
 ·exact ar (Z8 (Zp (.b false) lb))
 refine ak (Ym (ab 0 (ZU (fun fz gz m F h=>∃(k:Nat),(k<=cs.length)/\F=sF [0,1] fz [(5,.i k)]/\h=gz/\m=cs.length-k) _ _ _ ⟨0,ob,rfl,rfl,rfl⟩ (wk [] (ZW fl)) ?_)))
 rintro m F h ⟨k,Y0,rfl,rfl,rfl⟩
 refine Yb 2 (iw (Vl cs) (ZO ((k:Int)<(cs.length:Int)) (fun Zd=>?_) (fun Zd=>?_)))
 ·refine ak (aq (ab 1 (aD 10 (Zo 8 10 [0,1] ?_))))
  obtain ⟨x1,Z2⟩:=Zv cs k om
  have hcl:=Ec Z2
  exact dx 2 (Zr none (k:Int) 1 (KF Z2)) (Zo 4 7 [3,4,5] (dx 6 (Zr none (k:Int) 1 (KF Z2)) (Zo 2 3 [7] (ZF 8 (W4 8 [] [] [] (Z87 x1) (Zo 0 1 [9] (de (XF (ak (az (Z1 1 (ZK k (Z0 (ZJ ⟨k+1,ob,rfl,rfl,rfl⟩ (wk [] (ZL k fl))))))))))))))))
 exact ax 0 (ar (Z8 (Te)))
theorem Z89 (d:Zg) (hl:U5 d<=1000000000:=by exact ob):Za 96 [QY d,QY d] [] (ZQ (.b true)):=by
 unfold U5 at hl
 refine Zx 21 Tryz.func96 (ar (iA (Uh d) fun b1=>iA (Uh d) fun b2=>Z0 (Yt (Vv [1,0] (ac (d.frm != d.frm) ZP (fun Z5=>?_) (fun Z5=>?_))))))
 ·exact ar (Z8 (Zp (.b false) lb))
 refine ak (Yt (Vv [1,0] (ac (d.to_ != d.to_) ZP (fun Zd=>?_) (fun Zd=>?_))))
 ·exact ar (Z8 (Zp (.b false) lb))
 exact ak (Yp 4 [1,0] (ZC [] (Z86 d.cons) (Z0 (XF (ak (ar (Z8 (Te))))))))
theorem Z88 (cs:List Zg) (hl:VA cs<=1000000000:=by exact ob):Za 47 [ZI cs,ZI cs] [] (ZQ (.b true)):=by
 have hl2:=hl
 unfold VA at hl2
 refine Zx 27 Tryz.func47 (Zh (Yb 1 (iw (VB cs) (Z1 1 (iw (VB cs) (Yw ((cs.length:Int) != (cs.length:Int)) ZP (fun Z5=>?_) (fun Z5=>?_)))))))
 ·exact ar (Z8 (Zp (.b false) lb))
 refine ak (Ym (ab 0 (ZU (fun fz gz m F h=>∃(k:Nat),(k<=cs.length)/\F=sF [0,1] fz [(5,.i k)]/\h=gz/\m=cs.length-k) _ _ _ ⟨0,ob,rfl,rfl,rfl⟩ (wk [] (ZW fl)) ?_)))
 rintro m F h ⟨k,Y0,rfl,rfl,rfl⟩
 refine Yb 2 (iw (VB cs) (ZO ((k:Int)<(cs.length:Int)) (fun Zd=>?_) (fun Zd=>?_)))
 ·refine ak (aq (ab 1 (aD 10 (Zo 8 10 [0,1] ?_))))
  obtain ⟨x1,Z2⟩:=Zv cs k om
  have hcl:=Ek Z2
  exact dx 2 (Zr none (k:Int) 3 (Vm Z2)) (Zo 4 7 [3,4,5] (dx 6 (Zr none (k:Int) 3 (Vm Z2)) (Zo 2 3 [7] (ZF 8 (W4 8 [] [] [] (Z89 x1) (Zo 0 1 [9] (de (XF (ak (az (Z1 1 (ZK k (Z0 (ZJ ⟨k+1,ob,rfl,rfl,rfl⟩ (wk [] (ZL k fl))))))))))))))))
 exact ax 0 (ar (Z8 (Te)))
theorem Z4i (z:Nat) (cs:List Zf) (hl:U3 cs<=1000000000:=by exact ob) (hz:Xn cs<=z:=by exact ob) (ih:∀(b2:Zf),(b2.sz<=z)->(b2.cst<=1000000000)->Za 157 [YG b2,YG b2] [] (ZQ (.b true))):Za 289 [KQ cs,KQ cs] [] (ZQ (.b true)):=by
 have hl2:=hl
 unfold U3 at hl2
 refine Zx 27 Tryz.func289 (Zh (Yb 1 (iw (Uf cs) (Z1 1 (iw (Uf cs) (Yw ((cs.length:Int) != (cs.length:Int)) ZP (fun Z5=>?_) (fun Z5=>?_)))))))
 ·exact ar (Z8 (Zp (.b false) lb))
 refine ak (Ym (ab 0 (ZU (fun fz gz m F h=>∃(k:Nat),(k<=cs.length)/\F=sF [0,1] fz [(5,.i k)]/\h=gz/\m=cs.length-k) _ _ _ ⟨0,ob,rfl,rfl,rfl⟩ (wk [] (ZW fl)) ?_)))
 rintro m F h ⟨k,Y0,rfl,rfl,rfl⟩
 refine Yb 2 (iw (Uf cs) (ZO ((k:Int)<(cs.length:Int)) (fun Zd=>?_) (fun Zd=>?_)))
 ·refine ak (aq (ab 1 (aD 10 (Zo 8 10 [0,1] ?_))))
  obtain ⟨x1,Z2⟩:=Zv cs k om
  have hcl:=Gw Z2
  have YH:=BD Z2
  exact dx 2 (Zr none (k:Int) 2 (TF Z2)) (Zo 4 7 [3,4,5] (dx 6 (Zr none (k:Int) 2 (TF Z2)) (Zo 2 3 [7] (ZF 8 (W4 8 [] [] [] (ih x1 ob ob) (Zo 0 1 [9] (de (XF (ak (az (Z1 1 (ZK k (Z0 (ZJ ⟨k+1,ob,rfl,rfl,rfl⟩ (wk [] (ZL k fl))))))))))))))))
 exact ax 0 (ar (Z8 (Te)))
theorem Z4m (z:Nat) (s:Z7) (hl:s.cst<=1000000000:=by exact ob) (hz:s.sz<=z+1:=by exact ob) (ih:∀(b2:Zf),(b2.sz<=z)->(b2.cst<=1000000000)->Za 157 [YG b2,YG b2] [] (ZQ (.b true))):Za 246 [XS s,XS s] [] (ZQ (.b true)):=by
 have hse:=s.sz_eq
 have hce:=s.cst_eq
 have hbc:U3 s.kids=s.kids.length+UG s.kids:=rfl
 refine Zx 32 Tryz.func246 (ar (iA (WT s) fun b1=>iA (WT s) fun b2=>Z0 (Yt (Vv [1,0] (ac (s.op != s.op) ZP (fun Z5=>?_) (fun Z5=>?_))))))
 ·exact ar (Z8 (Zp (.b false) lb))
 refine ak (Yt (Vv [1,0] (ac (s.num != s.num) ZP (fun Zd=>?_) (fun Zd=>?_))))
 ·exact ar (Z8 (Zp (.b false) lb))
 refine ak (Yt (Vv [1,0] (ac (s.into != s.into) ZP (fun Zw=>?_) (fun Zw=>?_))))
 ·exact ar (Z8 (Zp (.b false) lb))
 exact ak (Yp 4 [1,0] (ZC [] (EW s.args) (Z0 (XF (ak (Yp 4 [1,0] (ZC [] (Z4i z s.kids (ih:=ih)) (Z0 (XF (ak (ar (Z8 (Te)))))))))))))
theorem Z4n (z:Nat) (cs:List Z7) (hl:UA cs<=1000000000:=by exact ob) (hz:Y9 cs<=z+1:=by exact ob) (ih:∀(b2:Zf),(b2.sz<=z)->(b2.cst<=1000000000)->Za 157 [YG b2,YG b2] [] (ZQ (.b true))):Za 210 [VW cs,VW cs] [] (ZQ (.b true)):=by
 have hl2:=hl
 unfold UA at hl2
 refine Zx 27 Tryz.func210 (Zh (Yb 1 (iw (T8 cs) (Z1 1 (iw (T8 cs) (Yw ((cs.length:Int) != (cs.length:Int)) ZP (fun Z5=>?_) (fun Z5=>?_)))))))
 ·exact ar (Z8 (Zp (.b false) lb))
 refine ak (Ym (ab 0 (ZU (fun fz gz m F h=>∃(k:Nat),(k<=cs.length)/\F=sF [0,1] fz [(5,.i k)]/\h=gz/\m=cs.length-k) _ _ _ ⟨0,ob,rfl,rfl,rfl⟩ (wk [] (ZW fl)) ?_)))
 rintro m F h ⟨k,Y0,rfl,rfl,rfl⟩
 refine Yb 2 (iw (T8 cs) (ZO ((k:Int)<(cs.length:Int)) (fun Zd=>?_) (fun Zd=>?_)))
 ·refine ak (aq (ab 1 (aD 10 (Zo 8 10 [0,1] ?_))))
  obtain ⟨x1,Z2⟩:=Zv cs k om
  have hcl:=IQ Z2
  have YH:=Du Z2
  exact dx 2 (Zr none (k:Int) 5 (U7 Z2)) (Zo 4 7 [3,4,5] (dx 6 (Zr none (k:Int) 5 (U7 Z2)) (Zo 2 3 [7] (ZF 8 (W4 8 [] [] [] (Z4m z x1 (ih:=ih)) (Zo 0 1 [9] (de (XF (ak (az (Z1 1 (ZK k (Z0 (ZJ ⟨k+1,ob,rfl,rfl,rfl⟩ (wk [] (ZL k fl))))))))))))))))
 exact ax 0 (ar (Z8 (Te)))
theorem Z4g (z:Nat) (b:Zf) (hl:b.cst<=1000000000:=by exact ob) (hz:b.sz<=z+1:=by exact ob) (ih:∀(b2:Zf),(b2.sz<=z)->(b2.cst<=1000000000)->Za 157 [YG b2,YG b2] [] (ZQ (.b true))):Za 157 [YG b,YG b] [] (ZQ (.b true)):=by
 have hse:=b.sz_eq
 have hce:=b.cst_eq
 have hbc:UA b.steps=b.steps.length+UL b.steps:=rfl
 refine Zx 16 Tryz.func157 (ar (iA (VE b) fun b1=>iA (VE b) fun b2=>Z0 (Yp 4 [1,0] (ZC [] (Z4n z b.steps (ih:=ih)) (Z0 (XF (ak (Yt (Vv [1,0] (ac (b.result != b.result) ZP (fun Z5=>?_) (fun Z5=>?_)))))))))))
 ·exact ar (Z8 (Zp (.b false) lb))
 exact ak (ar (Z8 (Te)))
theorem Z4h (m:Nat):∀(b2:Zf),(b2.sz<=m)->(b2.cst<=1000000000)->Za 157 [YG b2,YG b2] [] (ZQ (.b true)):=by
 induction m with
 | zero=>intro b h;have:=b.sz_pos;omega
 | succ m ih=>intro b h1 h2;exact Z4g m b h2 h1 ih
theorem Z4f (b2:Zf) (hl:b2.cst<=1000000000):Za 157 [YG b2,YG b2] [] (ZQ (.b true)):=
 Z4h b2.sz b2 (X1 _) hl
theorem Z8b (rt:Yy) (hl:VF rt<=1000000000:=by exact ob):Za 97 [QZ rt,QZ rt] [] (ZQ (.b true)):=by
 unfold VF at hl
 refine Zx 28 Tryz.func97 (ar (iA (TM rt) fun b1=>iA (TM rt) fun b2=>Z0 (Yp 4 [1,0] (ZC [] (EW rt.params) (Z0 (XF (ak (Yp 4 [1,0] (ZC [] (EW rt.lent) (Z0 (XF (ak (Yt (Vv [1,0] (ac (rt.result != rt.result) ZP (fun Z5=>?_) (fun Z5=>?_))))))))))))))))
 ·exact ar (Z8 (Zp (.b false) lb))
 exact ak (Yp 4 [1,0] (ZC [] (Z4f rt.body ob) (Z0 (XF (ak (ar (Z8 (Te))))))))
theorem Z8a (cs:List Yy) (hl:VY cs<=1000000000:=by exact ob):Za 48 [C3 cs,C3 cs] [] (ZQ (.b true)):=by
 have hl2:=hl
 unfold VY at hl2
 refine Zx 27 Tryz.func48 (Zh (Yb 1 (iw (UJ cs) (Z1 1 (iw (UJ cs) (Yw ((cs.length:Int) != (cs.length:Int)) ZP (fun Z5=>?_) (fun Z5=>?_)))))))
 ·exact ar (Z8 (Zp (.b false) lb))
 refine ak (Ym (ab 0 (ZU (fun fz gz m F h=>∃(k:Nat),(k<=cs.length)/\F=sF [0,1] fz [(5,.i k)]/\h=gz/\m=cs.length-k) _ _ _ ⟨0,ob,rfl,rfl,rfl⟩ (wk [] (ZW fl)) ?_)))
 rintro m F h ⟨k,Y0,rfl,rfl,rfl⟩
 refine Yb 2 (iw (UJ cs) (ZO ((k:Int)<(cs.length:Int)) (fun Zd=>?_) (fun Zd=>?_)))
 ·refine ak (aq (ab 1 (aD 10 (Zo 8 10 [0,1] ?_))))
  obtain ⟨x1,Z2⟩:=Zv cs k om
  have hcl:=Fp Z2
  exact dx 2 (Zr none (k:Int) 5 (Us Z2)) (Zo 4 7 [3,4,5] (dx 6 (Zr none (k:Int) 5 (Us Z2)) (Zo 2 3 [7] (ZF 8 (W4 8 [] [] [] (Z8b x1) (Zo 0 1 [9] (de (XF (ak (az (Z1 1 (ZK k (Z0 (ZJ ⟨k+1,ob,rfl,rfl,rfl⟩ (wk [] (ZL k fl))))))))))))))))
 exact ax 0 (ar (Z8 (Te)))
theorem HU (n:Zj) (hl:Wo n<=1000000000):Za 19 [X6 n,X6 n] [] (ZQ (.b true)):=by
 unfold Wo at hl
 exact Zx 17 Tryz.func19 (ar (iA (Wb n) fun b1=>iA (Wb n) fun b2=>Z0 (Yp 4 [1,0] (ZC [] (Z88 n.decls) (Z0 (XF (ak (Yp 4 [1,0] (ZC [] (Z8a n.routines) (Z0 (XF (ak (ar (Z8 (Te)))))))))))))))
end Go.Abs
section
namespace Go.Proofs
open Go.Shelf
def Tryz.keysA_ren:Go.Shelf.Ren:=⟨fun|7=>103|10=>165|n=>n,fun|23=>157|26=>3|3=>3|28=>160|0=>0|27=>159|33=>124|4=>4|n=>n,fun|n=>n⟩
theorem Tryz.keysA:Go.Proofs.SlLaysZI.n7 Tryz.prog Tryz.keysA_ren:={
 mixed:=by kernel_rfl
 f7:=⟨Tryz.f103.name,by decide,Tryz.func103.trans (congrArg some (by kernel_rfl))⟩
 f10:=⟨Tryz.f165.name,by decide,Tryz.func165.trans (congrArg some (by kernel_rfl))⟩
 t0:=Tryz.underlying0
 a0:=Tryz.isAgg0
 z0:=Tryz.sizeOf0
 v0:=Tryz.zeroValue0
 t4:=Tryz.underlying4
 a4:=Tryz.isAgg4
 z4:=Tryz.sizeOf4
 v4:=Tryz.zeroValue4
 t23:=Tryz.underlying157
 a23:=Tryz.isAgg157
 z23:=Tryz.sizeOf157
 v23:=Tryz.zeroValue157
 t26:=Tryz.underlying3
 a26:=Tryz.isAgg3
 z26:=Tryz.sizeOf3
 v26:=Tryz.zeroValue3
 t27:=Tryz.underlying159
 a27:=Tryz.isAgg159
 z27:=Tryz.sizeOf159
 v27:=Tryz.zeroValue159
 t28:=Tryz.underlying160
 a28:=Tryz.isAgg160
 z28:=Tryz.sizeOf160
 v28:=Tryz.zeroValue160
 t33:=Tryz.underlying124
 a33:=Tryz.isAgg124
 z33:=Tryz.sizeOf124
 v33:=Tryz.zeroValue124 }
def Tryz.sortedA_ren:Go.Shelf.Ren:=⟨fun|6=>102|8=>163|9=>164|11=>215|13=>217|12=>216|23=>261|24=>262|14=>252|15=>253|16=>254|17=>255|18=>256|19=>257|20=>258|21=>259|22=>260|25=>296|26=>297|27=>298|28=>299|29=>300|30=>301|31=>329|n=>n,fun|26=>3|28=>160|24=>23|0=>0|3=>3|37=>254|48=>286|50=>288|4=>4|40=>280|39=>279|45=>242|5=>5|9=>9|51=>320|55=>241|57=>346|58=>127|33=>124|n=>n,fun|n=>n⟩
theorem Tryz.sortedA:Go.Proofs.SlLaysZI.n6 Tryz.prog Tryz.sortedA_ren:={
 mixed:=by kernel_rfl
 f6:=⟨Tryz.f102.name,by decide,Tryz.func102.trans (congrArg some (by kernel_rfl))⟩
 f8:=⟨Tryz.f163.name,by decide,Tryz.func163.trans (congrArg some (by kernel_rfl))⟩
 f11:=⟨Tryz.f215.name,by decide,Tryz.func215.trans (congrArg some (by kernel_rfl))⟩
 t0:=Tryz.underlying0
 a0:=Tryz.isAgg0
 z0:=Tryz.sizeOf0
 v0:=Tryz.zeroValue0
 t24:=Tryz.underlying23
 a24:=Tryz.isAgg23
 z24:=Tryz.sizeOf23
 v24:=Tryz.zeroValue23
 t26:=Tryz.underlying3
 a26:=Tryz.isAgg3
 z26:=Tryz.sizeOf3
 v26:=Tryz.zeroValue3
 t28:=Tryz.underlying160
 a28:=Tryz.isAgg160
 z28:=Tryz.sizeOf160
 v28:=Tryz.zeroValue160
 i26:=by kernel_rfl }
def Tryz.sortA_ren:Go.Shelf.Ren:=⟨fun|5=>164|8=>217|7=>216|19=>261|20=>262|10=>252|11=>253|12=>254|13=>255|14=>256|15=>257|16=>258|17=>259|18=>260|30=>296|31=>297|32=>298|33=>299|34=>300|35=>301|40=>329|n=>n,fun|23=>23|25=>3|3=>3|32=>254|22=>23|0=>0|44=>286|46=>288|4=>4|36=>280|35=>279|41=>242|5=>5|9=>9|53=>320|57=>241|63=>346|64=>127|n=>n,fun|n=>n⟩
theorem Tryz.sortA:Go.Proofs.SlLaysM.n5 Tryz.prog Tryz.sortA_ren:={
 mixed:=by kernel_rfl
 f5:=⟨Tryz.f164.name,by decide,Tryz.func164.trans (congrArg some (by kernel_rfl))⟩
 f7:=⟨Tryz.f216.name,by decide,Tryz.func216.trans (congrArg some (by kernel_rfl))⟩
 f8:=Tryz.func217.trans (congrArg some (by kernel_rfl))
 f10:=⟨Tryz.f252.name,by decide,Tryz.func252.trans (congrArg some (by kernel_rfl))⟩
 f11:=⟨Tryz.f253.name,by decide,Tryz.func253.trans (congrArg some (by kernel_rfl))⟩
 f12:=⟨Tryz.f254.name,by decide,Tryz.func254.trans (congrArg some (by kernel_rfl))⟩
 f13:=⟨Tryz.f255.name,by decide,Tryz.func255.trans (congrArg some (by kernel_rfl))⟩
 f14:=⟨Tryz.f256.name,by decide,Tryz.func256.trans (congrArg some (by kernel_rfl))⟩
 f15:=⟨Tryz.f257.name,by decide,Tryz.func257.trans (congrArg some (by kernel_rfl))⟩
 f16:=⟨Tryz.f258.name,by decide,Tryz.func258.trans (congrArg some (by kernel_rfl))⟩
 f17:=⟨Tryz.f259.name,by decide,Tryz.func259.trans (congrArg some (by kernel_rfl))⟩
 f18:=⟨Tryz.f260.name,by decide,Tryz.func260.trans (congrArg some (by kernel_rfl))⟩
 f19:=Tryz.func261.trans (congrArg some (by kernel_rfl))
 f20:=Tryz.func262.trans (congrArg some (by kernel_rfl))
 f30:=⟨Tryz.f296.name,by decide,Tryz.func296.trans (congrArg some (by kernel_rfl))⟩
 f31:=Tryz.func297.trans (congrArg some (by kernel_rfl))
 f32:=Tryz.func298.trans (congrArg some (by kernel_rfl))
 f33:=⟨Tryz.f299.name,by decide,Tryz.func299.trans (congrArg some (by kernel_rfl))⟩
 f34:=⟨Tryz.f300.name,by decide,Tryz.func300.trans (congrArg some (by kernel_rfl))⟩
 f35:=⟨Tryz.f301.name,by decide,Tryz.func301.trans (congrArg some (by kernel_rfl))⟩
 f40:=⟨Tryz.f329.name,by decide,Tryz.func329.trans (congrArg some (by kernel_rfl))⟩
 t0:=Tryz.underlying0
 a0:=Tryz.isAgg0
 z0:=Tryz.sizeOf0
 v0:=Tryz.zeroValue0
 t3:=Tryz.underlying3
 a3:=Tryz.isAgg3
 z3:=Tryz.sizeOf3
 v3:=Tryz.zeroValue3
 t4:=Tryz.underlying4
 a4:=Tryz.isAgg4
 z4:=Tryz.sizeOf4
 v4:=Tryz.zeroValue4
 t5:=Tryz.underlying5
 a5:=Tryz.isAgg5
 z5:=Tryz.sizeOf5
 v5:=Tryz.zeroValue5
 t9:=Tryz.underlying9
 a9:=Tryz.isAgg9
 z9:=Tryz.sizeOf9
 v9:=Tryz.zeroValue9
 t22:=Tryz.underlying23
 a22:=Tryz.isAgg23
 z22:=Tryz.sizeOf23
 v22:=Tryz.zeroValue23
 t23:=Tryz.underlying23
 a23:=Tryz.isAgg23
 z23:=Tryz.sizeOf23
 v23:=Tryz.zeroValue23
 t25:=Tryz.underlying3
 a25:=Tryz.isAgg3
 z25:=Tryz.sizeOf3
 v25:=Tryz.zeroValue3
 t32:=Tryz.underlying254
 a32:=Tryz.isAgg254
 z32:=Tryz.sizeOf254
 v32:=Tryz.zeroValue254
 t35:=Tryz.underlying279
 a35:=Tryz.isAgg279
 z35:=Tryz.sizeOf279
 v35:=Tryz.zeroValue279
 t36:=Tryz.underlying280
 a36:=Tryz.isAgg280
 z36:=Tryz.sizeOf280
 v36:=Tryz.zeroValue280
 t41:=Tryz.underlying242
 a41:=Tryz.isAgg242
 z41:=Tryz.sizeOf242
 v41:=Tryz.zeroValue242
 t44:=Tryz.underlying286
 a44:=Tryz.isAgg286
 z44:=Tryz.sizeOf286
 v44:=Tryz.zeroValue286
 t46:=Tryz.underlying288
 a46:=Tryz.isAgg288
 z46:=Tryz.sizeOf288
 v46:=Tryz.zeroValue288
 t53:=Tryz.underlying320
 a53:=Tryz.isAgg320
 z53:=Tryz.sizeOf320
 v53:=Tryz.zeroValue320
 t57:=Tryz.underlying241
 a57:=Tryz.isAgg241
 z57:=Tryz.sizeOf241
 v57:=Tryz.zeroValue241
 t63:=Tryz.underlying346
 a63:=Tryz.isAgg346
 z63:=Tryz.sizeOf346
 v63:=Tryz.zeroValue346
 t64:=Tryz.underlying127
 a64:=Tryz.isAgg127
 z64:=Tryz.sizeOf127
 v64:=Tryz.zeroValue127 }
end Go.Proofs
end
namespace Go.Abs
def Cx (op:Int):List Z7->LI
 | []=>[]
 | s::r=>if s.op=op then gI s.args 0::Cx op r else Cx op r
def Cn (s:Z7):Prop:=s=XZ s.op (gI s.args 0)
end Go.Abs
section
namespace Go.Abs
section
variable {ds:List Zg} {m:Nat}
end
mutual
def wS (ds:List Zg):Z7->Prop
 | .mk op num into args kids=>(XA op=!YT op)/\(YT op=true->num=0/\into=0/\kids=[]/\∃a,args=[a])/\(op=8->(∃a,args=[a]/\0<=a/\a<=900000000)/\kids.length=(YB ds num).length)/\Ji ds kids
def Ji (ds:List Zg):List Zf->Prop
 | []=>True
 | b::r=>wB ds b/\Ji ds r
def KX (ds:List Zg):List Z7->Prop
 | []=>True
 | s::r=>wS ds s/\KX ds r
def wB (ds:List Zg):Zf->Prop
 | .mk steps _=>KX ds steps
end
section
variable {ds:List Zg}
theorem LA (s:Z7):wS ds s↔(XA s.op=!YT s.op)/\(YT s.op=true->s.num=0/\s.into=0/\s.kids=[]/\∃a,s.args=[a])/\(s.op=8->(∃a,s.args=[a]/\0<=a/\a<=900000000)/\s.kids.length=(YB ds s.num).length)/\Ji ds s.kids:=by cases s;rw [wS];rfl
theorem Lz (b:Zf):wB ds b↔KX ds b.steps:=by cases b;rw [wB];rfl
theorem SN:∀{xs:List Z7},KX ds xs↔∀s∈xs,wS ds s
 | []=>by simp [KX]
 | s::r=>by rw [KX,SN];simp
theorem SJ:∀{xs:List Zf},Ji ds xs↔∀s∈xs,wB ds s
 | []=>by simp [Ji]
 | s::r=>by rw [Ji,SJ];simp
theorem SG {b:Zf} {k:Nat} {s:Z7} (h:wB ds b) (hs:b.steps[k]? = some s):wS ds s:=SN.1 ((Lz b).1 h) s (YF hs)
theorem SM {s:Z7} {k:Nat} {b:Zf} (h:wS ds s) (hb:s.kids[k]? = some b):wB ds b:=SJ.1 ((LA s).1 h).2.2.2 b (YF hb)
theorem Bl {s:Z7} (h:wS ds s) (hc:YT s.op=true):Cn s/\s.kids=[]/\∃a,s.args=[a]:=by
 obtain ⟨h1,h2,h3,a,h4⟩:=((LA s).1 h).2.1 hc
 refine ⟨?_,h3,a,h4⟩
 cases s with
 | mk op num into args kids=>
  simp only [Z7.num,Z7.into,Z7.kids,Z7.args] at h1 h2 h3 h4
  subst h1 h2 h3 h4
  rfl
end
section
variable {n:Zj}
theorem Z9n {us:LI} {s:Z7} (g:0<=ZT n us s) (h:YT s.op=true):s.num=0/\s.into=0/\s.kids=[]:=by
 have ho:14<=s.op/\s.op<=17:=by simpa [YT] using h
 rw [KV] at g
 split at g
 ·omega
 ·rename_i q
  refine ⟨DK fun z=>q (.inl ⟨z,?_⟩),DK fun z=>q (.inr (.inl ?_)),DK fun z=>q (.inr (.inr ⟨FX.2 z,by omega,by omega⟩))⟩
  ·rw [Vd];simp;omega
  ·rw [Vq,Z4 z,Z4 om];simp
mutual
theorem Zfg:∀(s:Z7) {us:LI},us.length+4*s.sz<=900000000->Wk n.decls->0<=ZT n us s->wS n.decls s
 | .mk op num into args kids,us,hu,hd,g=>by
  have hf:=Bh g
  rw [wS]
  refine ⟨H4 g,fun hc=>?_,fun h8=>?_,?_⟩
  ·obtain ⟨h1,h2,h3⟩:=Z9n g hc
   have ho:14<=op/\op<=17:=by simpa [YT] using hc
   exact ⟨h1,h2,h3,hf.one (.inr (.inr ho))⟩
  ·obtain ⟨k1,k2,k3⟩:=hf.kids (.inr h8)
   obtain ⟨a,ha⟩:=hf.one (.inr (.inl h8))
   have hb:=hf.args a (by rw [ha];exact YL.2 rfl)
   refine ⟨⟨a,ha,hb.1,by omega⟩,?_⟩
   have e:YJ n.decls op num=(YB n.decls num).map (Y1 n.decls):=by rw [YJ,Z4 om]
   have k1':kids.length=(YJ n.decls op num).length:=k1
   rw [k1',e,Um]
  ·refine SK kids hd fun i b hb=>?_
   have hl:0<kids.length:=by have:=(W5.1 hb).1;omega
   obtain ⟨k1,k2,k3⟩:=hf.kids (ON g hl)
   have k1':kids.length=(YJ n.decls op num).length:=k1
   have hi:=(W5.1 hb).1
   obtain ⟨mk,hmk⟩:=QM (xs:=YJ n.decls op num) (j:=i) om
   have hk3:=Bz hd hmk
   have D1:=BD hb
   rw [Z7.sz] at hu
   exact ⟨us++mk,by rw [YE];omega,k3 i b mk hb hmk⟩
theorem SK:∀(bs:List Zf),Wk n.decls->(∀(i:Nat) (b:Zf),bs[i]? = some b->∃us:LI,us.length+4*b.sz<=900000000/\0<=Yv n us b)->Ji n.decls bs
 | [],_,_=>True.intro
 | b::r,hd,h=>by
  obtain ⟨us,hq,hu⟩:=h 0 b rfl
  exact ⟨SH b hq hd hu,SK r hd fun i x hx=>h (i+1) x (by simpa using hx)⟩
theorem SO:∀(xs:List Z7) {us vs:LI},us.length+4*Y9 xs<=900000000->Wk n.decls->Xu n xs us=some vs->KX n.decls xs
 | [],_,_,_,_,_=>True.intro
 | s::r,us,vs,hu,hd,h=>by
  obtain ⟨g1,g2⟩:=Cg h
  rw [Y9] at hu
  have h1:=s.sz_pos
  have h2:=Cd n us s
  exact ⟨Zfg s om hd g1,SO r om hd g2⟩
theorem SH:∀(b:Zf) {us:LI},us.length+4*b.sz<=900000000->Wk n.decls->0<=Yv n us b->wB n.decls b
 | .mk steps result,us,hu,hd,h=>by
  obtain ⟨fvs,t0,hvs,_,_⟩:=BC h
  rw [Zf.sz] at hu
  rw [wB];exact SO steps om hd hvs
end
end
section
variable {ds:List Zg}
variable (hd:Wk ds)
include hd
end
section
variable {ds:List Zg} {m:Nat}
end
theorem DH {n:Zj} (hn:YZ n) (hz:WM n) (hbt:∀r∈n.routines,0<=Yv n r.params r.body):∀r∈n.routines,wB n.decls r.body:=fun r hr=>SH r.body (by have:=hz.body r hr;have:=hn.params r hr;omega) hn.decls (hbt r hr)
end Go.Abs
namespace Go.Abs
section
variable {fs D R:LI} {q k:Nat} {f:Int} {r:LI × LI}
end
end Go.Abs
end
namespace Go.Abs
section
variable {xs:LI} {v:Int} {lo hi:Nat}
end
section
variable {m:Int} {xs du dr:List Z7} {lf:LI} {d:Bool} {k:Nat} {s:Z7} {W:List Z7 × List Z7 × LI}
end
def EY:List Z7->Nat
 | []=>0
 | s::r=>if YT s.op=true then EY r+1 else 0
def Mt (op x:Int):List Z7->Int->Int
 | [],_=>-1
 | s::r,k=>if s.op=op/\gI s.args 0=x then k else Mt op x r (k+1)
def GT (many:Nat) (s:Z7):Prop:=(s.op=6/\s.into=0)/\s.args.length=many
instance (many:Nat) (s:Z7):Decidable (GT many s):=by unfold GT;infer_instance
def N4 (many:Nat):List Z7->Int->Int
 | [],_=>-1
 | s::r,k=>if GT many s then k else N4 many r (k+1)
def Zae (xs:List Z7) (x:Int):Int:=Mt 16 x (xs.take (EY xs)) 0
def Z2l (xs:List Z7) (many:Nat):Int:=N4 many (xs.drop (EY xs)) (EY xs)
section
variable {ds:List Zg} {kept:LI}
end
section
variable {ds:List Zg}
end
section
variable {f:Z7->Z7} (hop:∀s,(f s).op=s.op) (hin:∀s,(f s).into=s.into) (har:∀s,(f s).args=s.args)
include hop
include har
include hin
end
def TX (op:Int) (c:LI):LI:=if YT op=true then c.set (op-14).toNat (gI c (op-14)+1) else c
mutual
def CE:Z7->LI->LI
 | .mk op _ _ _ kids,c=>Tg kids (TX op c)
def Tg:List Zf->LI->LI
 | [],c=>c
 | b::r,c=>Tg r (UR b c)
def TY:List Z7->LI->LI
 | [],c=>c
 | s::r,c=>TY r (CE s c)
def UR:Zf->LI->LI
 | .mk steps _,c=>TY steps c
end
theorem Z2e (s:Z7) (c:LI):CE s c=Tg s.kids (TX s.op c):=by cases s;rw [CE];rfl
theorem MU (b:Zf) (c:LI):UR b c=TY b.steps c:=by cases b;rw [UR];rfl
theorem N0 {xs:List Z7} {k:Nat} {s:Z7} {c r:LI} (h:xs[k]? = some s) (ha:TY (xs.drop k) c=r):TY (xs.drop (k+1)) (Tg s.kids (TX s.op c))=r:=by
 rw [ZH h,TY,Z2e] at ha;exact ha
theorem MZ {xs:List Z7} {k:Nat} {c r:LI} (h:xs.length<=k) (ha:TY (xs.drop k) c=r):c=r:=by
 rw [YV h,TY] at ha;exact ha
theorem MV {xs:List Zf} {k:Nat} {s:Zf} {c r:LI} (h:xs[k]? = some s) (ha:Tg (xs.drop k) c=r):Tg (xs.drop (k+1)) (UR s c)=r:=by
 rw [ZH h,Tg] at ha;exact ha
theorem MT {xs:List Zf} {k:Nat} {c r:LI} (h:xs.length<=k) (ha:Tg (xs.drop k) c=r):c=r:=by
 rw [YV h,Tg] at ha;exact ha
structure CB (c:LI) (q:Int):Prop where
 len:c.length=4
 bd:∀x∈c,0<=x/\x<=q
theorem CB.le {c:LI} {q p:Int} (h:CB c q) (hq:q<=p):CB c p:=⟨h.len,fun x hx=>by have:=h.bd x hx;omega⟩
theorem CB.at {c:LI} {q:Int} (h:CB c q) {i:Int} (hi:i.toNat<4):0<=gI c i/\gI c i<=q:=h.bd _ (by rw [gI,Qz (by rw [h.len];exact hi)];exact List.getElem_mem _)
theorem CB.one {c:LI} {q:Int} (h:CB c q) (_:0<=q) (op:Int):CB (TX op c) (q+1):=by
 rw [TX]
 split
 ·rename_i ho
  have ho':14<=op/\op<=17:=by simpa [YT] using ho
  refine ⟨by rw [QA];exact h.len,fun x hx=>?_⟩
  rcases QP hx with hx|rfl
  ·have:=h.bd x hx;omega
  ·have:=h.at (i:=op-14) om;omega
 ·exact h.le om
mutual
theorem CB.s:∀(s:Z7) {c:LI} {q:Int},CB c q->0<=q->CB (CE s c) (q+s.sz)
 | .mk op num into args kids,c,q,h,hq=>by
  have:=CB.bs kids (h.one hq op) om
  rw [CE,Z7.sz];exact this.le om
theorem CB.bs:∀(bs:List Zf) {c:LI} {q:Int},CB c q->0<=q->CB (Tg bs c) (q+Xn bs)
 | [],c,q,h,hq=>by rw [Tg,Xn];exact h.le om
 | b::r,c,q,h,hq=>by
  have:=CB.bs r (CB.b b h hq) om
  rw [Tg,Xn];exact this.le om
theorem CB.ss:∀(xs:List Z7) {c:LI} {q:Int},CB c q->0<=q->CB (TY xs c) (q+Y9 xs)
 | [],c,q,h,hq=>by rw [TY,Y9];exact h.le om
 | s::r,c,q,h,hq=>by
  have:=CB.ss r (CB.s s h hq) om
  rw [TY,Y9];exact this.le om
theorem CB.b:∀(b:Zf) {c:LI} {q:Int},CB c q->0<=q->CB (UR b c) (q+b.sz)
 | .mk steps result,c,q,h,hq=>by
  have:=CB.ss steps h hq
  rw [UR,Zf.sz];exact this.le om
end
mutual
def Ps:Z7->Prop
 | .mk op _ _ _ kids=>op≠17/\Pr kids
def Pr:List Zf->Prop
 | []=>True
 | b::r=>Pq b/\Pr r
def Pt:List Z7->Prop
 | []=>True
 | s::r=>Ps s/\Pt r
def Pq:Zf->Prop
 | .mk steps _=>Pt steps
end
def K6:List Yy->LI->LI
 | [],c=>c
 | r::rs,c=>K6 rs (UR r.body c)
theorem MX {xs:List Yy} {k:Nat} {s:Yy} {c r:LI} (h:xs[k]? = some s) (ha:K6 (xs.drop k) c=r):K6 (xs.drop (k+1)) (UR s.body c)=r:=by
 rw [ZH h,K6] at ha;exact ha
theorem MW {xs:List Yy} {k:Nat} {c r:LI} (h:xs.length<=k) (ha:K6 (xs.drop k) c=r):c=r:=by
 rw [YV h,K6] at ha;exact ha
def Xt (n:Zj):LI:=K6 n.routines [0,0,0,0]
section
variable {ds:List Zg}
variable (hd:Wk ds)
end
end Go.Abs
section
namespace Go.Abs
structure Zfs (xs:LI) (v:Int) (k:Nat) (acc:LI) (d:Bool):Prop where
 len:acc.length<=k+(if d=true then 1 else 0)
 sub:∀z∈acc,z∈xs.take k∨z=v
 all:∀z∈xs.take k,z∈acc
 done:d=true->v∈acc
end Go.Abs
namespace Go.Abs
section
variable {ds:List Zg} {kept K2:LI} {op num x:Int} {args:LI} {j many:Nat} {kd:Zf}
end
theorem MS {op:Int} {c:LI} (h:YT op=true):TX op c=c.set (op-14).toNat (gI c (op-14)+1):=Z6 h
theorem MR {op:Int} {c:LI} (h:¬YT op=true):TX op c=c:=Z4 h
theorem N9 {op:Int} (h:YT op=true):14<=op/\op<=17:=by simpa [YT] using h
end Go.Abs
namespace Go.Abs
theorem Gy:∀(xs:List Zf) (b:Zf),Xn (xs++[b])=Xn xs+b.sz
 | [],b=>by rw [DN,Xn,Xn,Xn];omega
 | x::r,b=>by rw [Ku,Xn,Xn,Gy r b];omega
theorem Gz:∀{xs:List Zf} {k:Nat} {b:Zf},xs[k]? = some b->Xn (xs.take k)+b.sz<=Xn xs
 | [],_,_,h=>by simp at h
 | x::r,0,b,h=>by simp at h;subst h;simp [Xn]
 | x::r,k+1,b,h=>by
  have:=Gz (xs:=r) (k:=k) (by simpa using h)
  rw [DP,Xn,Xn];omega
theorem MD {xs:List Zf} {k:Nat} (h:xs.length<=k):Xn (xs.take k)=Xn xs:=by rw [W6 h]
end Go.Abs
end
namespace Go.Abs
def Z7y (am:List YM) (x:Int):Bool:=am.any fun o=>o.chg&&(o.mat==x)
def Pn (am:List YM) (a:YM) (b:Zf):Prop:=Z7y am a.mat=true∨(Zae b.steps a.mat<0∨Z2l b.steps a.fds.length<0)
instance (am:List YM) (a:YM) (b:Zf):Decidable (Pn am a b):=by unfold Pn;infer_instance

section
variable {P:Program} {n:Nat} {ops:Array Oper} {B:Fr->List Res->Prop} {k:Nat} {F:Fr} {h:List Res}
end
end Go.Abs
section
namespace Go.Abs
inductive Jo where
 | mk (op num:Int) (kids:List Jo)
namespace Jo
end Jo
structure Func where
 params:LI
 result:Int
 body:Jo
structure DU where
 decls:List Zg
 funcs:List Func
instance:Inhabited Jo:=⟨.mk 0 0 []⟩
end Go.Abs
end
namespace Go.Abs
def CG:Zg:=⟨0,0,[⟨[]⟩,⟨[0,1]⟩]⟩
def CH:Zg:=⟨0,0,[⟨[]⟩,⟨[3,0,3]⟩]⟩
def Z51:List (List Zg):=[[CG,⟨0,0,[]⟩,CH],[CG,⟨0,0,[]⟩,CH,⟨0,0,[⟨[1,3]⟩]⟩],[CG,⟨0,0,[]⟩,CH,⟨1,0,[]⟩],[CG,⟨0,0,[]⟩,CH,⟨0,0,[⟨[1,1,0]⟩,⟨[0]⟩,⟨[3]⟩]⟩],[CG,⟨0,0,[]⟩,CH,⟨0,1,[]⟩]]
def GD (ds:List Zg):Prop:=ds∈Z51
def Ia (t:Int):Prop:=t=0∨t=1∨t=3
instance (t:Int):Decidable (Ia t):=inferInstanceAs (Decidable (_∨_∨_))
def DY:List (LI × Int):=[([],0),([1],0),([1,1],1),([1],1),([1,0],1),([2,1],1),([1,1],0),([3],0),([0],1),([0,1],1),([3,0],3),([3],1),([1,3,0],0),([0],0),([0,0],0),([1,0],0)]
def LN (f:Func):Prop:=(f.params,f.result)∈DY
structure GP (p:DU):Prop where
 decls:GD p.decls
 len:1<=p.funcs.length/\p.funcs.length<=4
 sigs:∀f∈p.funcs,LN f
def scE (ds:List Zg) (op num:Int) (m:Nat) (k:Nat):Nat:=
 if op=13 then m+k else if op=8 then (if k=0 then m else m+(Y1 ds (gI (YB ds num) ((k:Int)-1))).length) else m
mutual
def eW (ds:List Zg) (nf:Nat):Nat->Jo->Prop
 | m,.mk op num kids=>(0<=op/\op<=13)/\(op=12->kids=[]/\0<=num/\num<m)/\(op=13->kids.length=2)/\(op=7->kids.length=3)/\(op=8->kids.length=1+(YB ds num).length)/\(op=9->0<=num/\num<nf)/\(-2000<=num/\num<=2000)/\kids.length<=4 /\
  Nz ds nf (scE ds op num m) 0 kids
def Nz (ds:List Zg) (nf:Nat) (sc:Nat->Nat):Nat->List Jo->Prop
 | _,[]=>True
 | k,e::r=>eW ds nf (sc k) e/\Nz ds nf sc (k+1) r
end
def El:List Z7->Nat
 | []=>0
 | s::r=>(if YT s.op=true then 0 else 1)+El r
def Rr (ds:List Zg) (op num:Int) (m:Nat) (k:Nat):Nat:=if op=8 then m+(Y1 ds (gI (YB ds num) k)).length else m
mutual
def fS (ds:List Zg) (nf:Nat):Nat->Z7->Prop
 | m,.mk op num into args kids=>((0<=op/\op<=11)∨(14<=op/\op<=17))/\(∀a∈args,0<=a/\a<m)/\(14<=op->num=0/\into=0/\kids=[]/\∃a,args=[a])/\(op=7->kids.length=2)/\(op=8->kids.length=(YB ds num).length)/\(op=7∨op=8->∃a,args=[a]) /\
  (op=9->0<=num/\num<nf)/\(-2000<=num/\num<=2000)/\(0<=into/\into<=m)/\args.length<=4/\(op≠7/\op≠8->kids=[])/\Ew ds nf (Rr ds op num m) 0 kids
def Ew (ds:List Zg) (nf:Nat) (sc:Nat->Nat):Nat->List Zf->Prop
 | _,[]=>True
 | k,b::r=>fB ds nf (sc k) b/\Ew ds nf sc (k+1) r
def Ex (ds:List Zg) (nf:Nat):Nat->List Z7->Prop
 | _,[]=>True
 | m,s::r=>fS ds nf m s/\Ex ds nf (if YT s.op=true then m else m+1) r
def fB (ds:List Zg) (nf:Nat):Nat->Zf->Prop
 | m,.mk steps result=>Ex ds nf m steps/\0<=result/\result<(m+El steps:Nat)
end
section
variable {ds:List Zg} {nf:Nat}
structure FS (ds:List Zg) (nf m:Nat) (s:Z7):Prop where
 op:(0<=s.op/\s.op<=11)∨(14<=s.op/\s.op<=17)
 args:∀a∈s.args,0<=a/\a<m
 cnt:14<=s.op->s.num=0/\s.into=0/\s.kids=[]/\∃a,s.args=[a]
 k7:s.op=7->s.kids.length=2
 k8:s.op=8->s.kids.length=(YB ds s.num).length
 one:s.op=7∨s.op=8->∃a,s.args=[a]
 call:s.op=9->0<=s.num/\s.num<nf
 num:-2000<=s.num/\s.num<=2000
 into:0<=s.into/\s.into<=m
 alen:s.args.length<=4
 kn:s.op≠7/\s.op≠8->s.kids=[]
 kids:Ew ds nf (Rr ds s.op s.num m) 0 s.kids
end
structure FN (n:Zj) (q:Nat):Prop where
 decls:GD n.decls
 len:1<=n.routines.length/\n.routines.length<=4
 sigs:∀r∈n.routines,(r.params,r.result)∈DY
 lent:∀r∈n.routines,r.lent.length<=3/\∀i∈r.lent,0<=i/\i<r.params.length
 body:∀r∈n.routines,fB n.decls n.routines.length r.params.length r.body/\r.body.sz<=q
def AD (ds:List Zg):Prop:=ds.length<=8/\∀d∈ds,d.cons.length<=4/\∀c∈d.cons,c.fields.length<=4
def rk (t:Int):Nat:=if Ia t then 0 else 1
theorem Z0p {α:Type} {p:α->Prop} {xs:List α} {a:α} (h:∀x∈xs,p x) (ha:p a):∀x∈xs++[a],p x:=fun x hx=>(Yz.1 hx).elim (h x) fun q=>by rw [YL.1 q];exact ha
def SZ (ds:List Zg) (t c:Int):Prop:=(0<=c/\c<=9)/\(Y1 ds c).length<=3*rk t/\∀u∈Y1 ds c,Ia u
instance (ds:List Zg) (t c:Int):Decidable (SZ ds t c):=inferInstanceAs (Decidable (_/\_/\_))
end Go.Abs
section
namespace Go.Abs
section
variable {g:DU} {m:Nat}
end
end Go.Abs
namespace Go.Abs
end Go.Abs
end
namespace Go.Abs
section
variable {g:DU} {m:Nat}
end
structure GPB (g:DU):Prop where
 gp:GP g
 body:∀f∈g.funcs,eW g.decls g.funcs.length f.params.length f.body/\f.body.sz<=30
structure GL (ds:List Zg) (k j:Nat) (rq:List Func):Prop where
 len:rq.length=4
 sigs:∀f∈rq,LN f
 zero:∀f,rq[0]? = some f->f.params.length=0
 body:∀i f,j<=i->i<k->rq[i]? = some f->eW ds k f.params.length f.body/\f.body.sz<=30
mutual
def PF (p:Int->Prop):Z7->Prop
 | .mk op _ _ _ kids=>p op/\Io p kids
def Io (p:Int->Prop):List Zf->Prop
 | []=>True
 | b::r=>C6 p b/\Io p r
def Fh (p:Int->Prop):List Z7->Prop
 | []=>True
 | s::r=>PF p s/\Fh p r
def C6 (p:Int->Prop):Zf->Prop
 | .mk steps _=>Fh p steps
end
section
variable {p q:Int->Prop}
end
def G4 (op:Int):Prop:=op<=11
def DT (op:Int):Prop:=op<=15
end Go.Abs
section
namespace Go.Abs
structure LW (ds:List Zg) (nf q:Nat) (e:Jo) (ys:List Z7) (v:Int):Prop where
 fs:Ex ds nf q ys
 v:0<=v/\v<(q+El ys:Nat)
 sz:Y9 ys<=6*e.sz
 op:Fh G4 ys
structure LB (ds:List Zg) (nf q:Nat) (e:Jo) (b:Zf):Prop where
 fb:fB ds nf q b
 sz:b.sz<=1+6*e.sz
 op:C6 G4 b
section
variable {ds:List Zg} {nf q:Nat}
end
end Go.Abs
namespace Go.Abs
structure RF (ds:List Zg) (nf q:Nat) (p:Int->Prop) (r:Yy):Prop where
 sig:(r.params,r.result)∈DY
 lent:r.lent.length<=3/\∀i∈r.lent,0<=i/\i<r.params.length
 body:fB ds nf r.params.length r.body/\r.body.sz<=q
 op:C6 p r.body
structure FO (n:Zj) (q:Nat) (p:Int->Prop):Prop where
 fn:FN n q
 op:∀r∈n.routines,C6 p r.body
structure RN (ds:List Zg) (nf:Nat) (r:Yy):Prop where
 sig:(r.params,r.result)∈DY
 lent:r.lent=[]
 body:fB ds nf r.params.length r.body/\r.body.sz<=181
 op:C6 G4 r.body
end Go.Abs
namespace Go.Abs
end Go.Abs
end
namespace Go.Abs
structure LC (n:Zj) (k:Nat) (xs:List LI):Prop where
 len:xs.length=k
 ok:∀(i:Nat) (l:LI),xs[i]? = some l->l.length<=3/\∀r,n.routines[i]? = some r->∀v∈l,0<=v/\v<(r.params.length:Int)
def VU:LI->Int->LI
 | [],y=>[y]
 | x::r,y=>if x>y then y::x::r else if x=y then x::r else x::VU r y
def TK (d:Bool) (xs:LI) (y:Int):LI:=if d=true then xs else VU xs y
theorem ER {xs:LI} {y:Int}:TK true xs y=xs:=rfl
theorem EQ {xs:LI} {y:Int}:TK false xs y=VU xs y:=rfl
theorem Ox {xs acc r:LI} {y x:Int} {k:Nat} {d:Bool} (hx:xs[k]? = some x) (hd:d=true) (h:acc++TK d (xs.drop k) y=r):(acc++[x])++TK d (xs.drop (k+1)) y=r:=by
 subst hd
 rw [ER,ZH hx] at h
 rw [ER,<-h];simp
theorem Z7h {xs acc r:LI} {y x:Int} {k:Nat} {d:Bool} (hx:xs[k]? = some x) (hd:¬d=true) (hl:¬x>=y) (h:acc++TK d (xs.drop k) y=r):(acc++[x])++TK d (xs.drop (k+1)) y=r:=by
 have hd:=Jj.2 hd
 subst hd
 rw [EQ,ZH hx,VU,Z4 om,Z4 om] at h
 rw [EQ,<-h];simp
theorem Z7i {xs acc r:LI} {y x:Int} {k:Nat} {d:Bool} (hx:xs[k]? = some x) (hd:¬d=true) (hl:x>y) (h:acc++TK d (xs.drop k) y=r):((acc++[y])++[x])++TK true (xs.drop (k+1)) y=r:=by
 have hd:=Jj.2 hd
 subst hd
 rw [EQ,ZH hx,VU,Z6 hl] at h
 rw [ER,<-h];simp
theorem Z7j {xs acc r:LI} {y x:Int} {k:Nat} {d:Bool} (hx:xs[k]? = some x) (hd:¬d=true) (hl:x=y) (h:acc++TK d (xs.drop k) y=r):(acc++[x])++TK true (xs.drop (k+1)) y=r:=by
 have hd:=Jj.2 hd
 subst hd
 rw [EQ,ZH hx,VU,Z4 om,Z6 hl] at h
 rw [ER,<-h];simp
theorem Z7g {xs acc acc2 r:LI} {y x:Int} {k:Nat} {d d2:Bool} (hx:xs[k]? = some x) (h:acc++TK d (xs.drop k) y=r)
  (hc:(acc2=acc/\d2=d/\(d=true∨¬x>=y))∨(acc2=acc++[y]/\d2=true/\¬d=true/\x>y)∨(acc2=acc/\d2=true/\¬d=true/\x=y)):(acc2++[x])++TK d2 (xs.drop (k+1)) y=r:=by
 rcases hc with ⟨rfl,rfl,h3⟩|⟨rfl,rfl,h3,h4⟩|⟨rfl,rfl,h3,h4⟩
 ·rcases h3 with h3|h3
  ·exact Ox hx h3 h
  ·by_cases q:d2=true
   ·exact Ox hx q h
   ·exact Z7h hx q h3 h
 ·exact Z7i hx h3 h4 h
 ·exact Z7j hx h3 h4 h
theorem Z7f {xs acc r:LI} {y:Int} {k:Nat} {d:Bool} (hk:xs.length<=k) (h:acc++TK d (xs.drop k) y=r):(if d=true then acc else acc++[y])=r:=by
 rw [YV hk] at h
 by_cases q:d=true
 ·rw [TK,Z6 q,AM] at h;rw [Z6 q];exact h
 ·rw [TK,Z4 q,VU] at h;rw [Z4 q];exact h
theorem Ow:∀(xs:LI) (y:Int),(VU xs y).length<=xs.length+1
 | [],y=>X1 _
 | x::r,y=>by
  have:=Ow r y
  rw [VU]
  split
  ·simp
  ·split
   ·simp
   ·simp only [XI];omega
theorem HO:∀{xs:LI} {y z:Int},z∈VU xs y↔z∈xs∨z=y
 | [],y,z=>by simp [VU]
 | x::r,y,z=>by
  rw [VU]
  split
  ·simp only [YA];exact ⟨fun h=>h.elim .inr .inl,fun h=>h.elim .inr .inl⟩
  ·split
   ·rename_i h;subst h;simp only [YA];exact ⟨fun h=>.inl h,fun h=>h.elim id .inl⟩
   ·simp only [YA,HO (xs:=r)];exact ⟨fun h=>by rcases h with h|h|h<;>simp [h],fun h=>by rcases h with (h|h)|h<;>simp [h]⟩
def A1 (xs:LI):Prop:=xs.Pairwise (·<·)
theorem Ov:∀{xs:LI} {y:Int},A1 xs->A1 (VU xs y)
 | [],y,_=>by simp [VU,A1]
 | x::r,y,h=>by
  obtain ⟨h1,h2⟩:=Vr.1 h
  rw [VU]
  split
  ·rename_i q
   refine Vr.2 ⟨fun z hz=>?_,h⟩
   rcases YA.1 hz with rfl|hz
   ·omega
   ·have:=h1 z hz;omega
  ·split
   ·exact h
   ·refine Vr.2 ⟨fun z hz=>?_,Ov h2⟩
    rcases HO.1 hz with hz|rfl
    ·exact h1 z hz
    ·omega
section
variable {n:Int}
end
structure SY (n:Zj):Prop where
 result:∀r∈n.routines,r.result<=(n.decls.length:Int)
 decl:∀d∈n.decls,d.cons.length=0->d.to_<=(n.decls.length:Int)
 fields:∀c,∀f∈Y1 n.decls c,f<=(n.decls.length:Int)
section
variable {n:Zj} (hu:SY n)
include hu
end
theorem FD:∀{xs ys:List Z7},Y9 (xs++ys)=Y9 xs+Y9 ys
 | [],ys=>by rw [Y9,DN,Vk]
 | x::r,ys=>by rw [Ku,Y9,Y9,FD,DQ]
theorem OZ:∀{xs:List Z7},xs.length<=Y9 xs
 | []=>TT _
 | x::r=>by have:=OZ (xs:=r);have:=x.sz_pos;rw [Y9,XI];omega
section
variable {P:Program} {n:Nat} {ops:Array Oper} {B:Fr->List Res->Prop} {k:Nat} {F:Fr} {h:List Res}
variable {T:List (Nat × List Nat)} {fuel:Nat} {done:List Nat} {c:Code} {A:Wx}
end
end Go.Abs
section
namespace Go.Abs
section
variable {P:Program} {n:Nat} {ops:Array Oper} {B:Fr->List Res->Prop} {k:Nat} {F:Fr} {h:List Res}
end
end Go.Abs
namespace Go.Abs
end Go.Abs
namespace Go.Abs
end Go.Abs
end
