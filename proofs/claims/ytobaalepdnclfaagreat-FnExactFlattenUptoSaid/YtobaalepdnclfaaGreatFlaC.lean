/-
  A part of the proof of FnExactFlattenUptoSaid (see the last file): no condition.
-/
import Derived.Test.YtobaalepdnclfaaGreatFlaB
import Derived.RangeFuncNested
import Derived.RangeFuncBound
import Derived.RangeFuncCalls
import Derived.RangeFuncLeaves
import Derived.Shelf.Abstract
import Derived.Shelf.RegionOpen
import Derived.WalkKit
import Derived.OwnWalkIn
import Derived.TacticsInMore
import Derived.LoopNIn
import Derived.LoopIn
import Derived.Test.YtobaalepdnclfaaGreatProg
import Derived.Shelf.RegionOpenPlain
import Derived.Lib.Walk
import Derived.Lib.SliceRun
import Derived.Lib.JoinLaws
import Derived.Lib.AppendZeros
import Derived.Lib.AppendZerosOnto
import Derived.Lib.Overlaps
import Derived.Laws.Externs
import Derived.Laws.IdiomCopy
import Derived.Laws.NewBlocks
set_option linter.all false
set_option linter.unusedVariables false
set_option linter.unusedSimpArgs false
set_option linter.unusedSectionVars false
set_option maxRecDepth 10000
set_option maxHeartbeats 4000000
namespace Go.Abs
open Go.Proofs
theorem Kd (xs:List Int) (hl_xs:xs.length<=4294967296:=by exact ob):Zd Tryz.prog 24 [Z1 xs] [] (fun r h=>∃(v:Value),r=Zb xs v/\h=[.tail v 1]):=by
 refine enter Tryz.func24 kr (n:=8) kr kr (ar (ir 1 [(0,Z1 xs)] (ie (aq (ar (Z0 1 (.n 3 (Z1 xs) .r) (iN (Z6 xs) (fun hz1=>?_) ?_)))))))
 ·have hz1:=Z7x hz1
  refine ie (X8 (ar (ir 1 [(2,nl)] (ie (U7 1 ?_)))))
  exact Z5 (r2 [0] [nl] ⟨(.slice none 0 0),rfl,rfl⟩ (Zg.slh _ (by first|rfl|(subst_vars;rfl))))
 refine ie (YA (ak (ar (iL (Z6 []) 0 1 ?_))))
 intro v1
 refine Z0 1 (.n 6 (Z1 xs) .r) (ip 0 (Z6 xs) (Z6 []) (Z6 xs) v1 none 1 (YS _) (YS _) (VL _) (by simp<;>omega) (by simp [Z6]) ?_)
 intro v2
 refine ir 1 [(2,Zb xs v2)] (ie ?_)
 exact Z5 (r1 [0] ⟨v2,rfl,rfl⟩)
theorem Z1y (xs:List Int) (hl_xs:xs.length<=4294967296:=by exact ob):Zd Tryz.prog 24 [Z1 xs] [] (fun r h=>∃(v:Hd),r=.h v/\h=[rV v xs]):=by
 refine enter Tryz.func24 kr (n:=8) kr kr (ar (ir 1 [(0,Z1 xs)] (ie (aq (ar (Z0 1 (.n 3 (Z1 xs) .r) (iN (Z6 xs) (fun hz1=>?_) ?_)))))))
 ·have hz1:=Z7x hz1
  refine ie (X8 (ar (ir 1 [(2,nl)] (ie (XA Qy ?_)))))
  exact Z5 (r2 [0] [nl] ⟨hN,rfl,rfl⟩ (Zg.hd (v:=hN)) (eq:=(rv (xs:=[]) ob rz)))
 refine ie (YA (ak (ar (iVL [] 0 ?_))))
 intro v1
 refine Z0 1 (.n 6 (Z1 xs) .r) (Q0 0 v1 [] xs none ?_)
 intro v2
 refine ir 1 [(2,.h v2)] (ie ?_)
 exact Z5 (r1 [0] ⟨v2,rfl,rfl⟩ (eq:=(rv (xs:=([]++xs)) ob rz)))
theorem Zxw (xs:List Int) (i:Int) (hl_xs:xs.length<=4294967296:=by exact ob):Zd Tryz.prog 149 [Z1 xs,.i i] [] (fun r h=>r=.i (Z2j xs i)/\h=[]):=by
 refine enter Tryz.func149 kr (n:=19) kr kr (ar (ir 1 [(0,Z1 xs),(1,.i i)] (ie (aq (ar (Z0 1 (.n 6 (Z1 xs) .r) (iw (ZD xs) (Z0 1 (.n 8 (.i 0) .r) (ie (ab 0 (al (fun m F h=>∃(k:Nat),(k<=xs.length)/\(QR i (xs.drop k) k=Z2j xs i)/\F=[(0,Z1 xs),(1,.i i),(7,.i xs.length),(8,.i k)]/\h=[]/\m=xs.length-k) _ _ _ ⟨0,ob,(by rfl),rfl,rfl,rfl⟩ (wk [] (fw (fr (fc (x:=.i 0) li fl)))) ?_)))))))))))
 rintro m F h ⟨k,c0_0,c0_1,rfl,rfl,rfl⟩
 refine ar (Z0 1 (.n 9 (.b (decide ((k:Int)<(xs.length:Int)))) .r) (ie (aq (ac (decide ((k:Int)<(xs.length:Int))) dq (fun hc1=>?_) (fun hc1=>?_)))))
 ·refine ak (aq (ab 1 (ar (Z0 2 (.n 5 (.i k) .r) (ie (ar (Z0 3 (.n 11 (.i i) (.n 12 (Z1 xs) (.n 13 (.i k) .r))) ?_)))))))
  obtain ⟨x1,hx1⟩:=Zl (xs:=xs) (j:=k) om
  refine Zf (Zj (es:=Z6 xs) (hv:=none) (j:=(k:Int)) (sz:=1) (y:=.i x1) kr om (ZH hx1) rfl) (Z0 2 (.n 16 (.b (i==x1)) .r) (ie (ac (i==x1) Ze (fun hc2=>?_) (fun hc2=>?_))))
  ·refine ar (ir 2 [(4,.i k)] (ie ?_))
   rw [Zu hx1] at c0_1
   exact Z5 (r2 [] [.i k] ⟨rfl,rfl⟩ (li (by clear hx1;first|rfl|omega|grind [QR])))
  refine ak (az (ia (((k+1:Nat):Int)) (((k:Int))+(1)) (ir 1 [(0,Z1 xs),(1,.i i),(7,.i xs.length),(8,.i (k+1:Nat))] (ie ?_))))
  have hdr:=Zu hx1
  exact ⟨_,_,_,ob,⟨k+1,ob,(by rw [hdr] at c0_1;clear hdr hx1;grind [QR]),rfl,rfl,rfl⟩,(wk [] (fw (fr (fc (x:=.i (k+1:Nat)) li fl))))⟩
 refine ax 0 (ar (ir 1 [(4,.i (-1))] (ie ?_)))
 try rw [Ye (xs:=xs) (k:=k) om] at c0_1
 exact Z5 (r2 [] [.i (-1)] ⟨rfl,rfl⟩ (li (by first|rfl|omega|grind [QR])))
theorem Zas (xs:List Int) (i:Int) (hl_xs:xs.length<=4294967296:=by exact ob):Zd Tryz.prog 121 [Z1 xs,.i i] [] (fun r h=>r=.b (decide (i∈xs))/\h=[]):=by
 refine enter Tryz.func121 kr (n:=9) kr kr (ar (ir 1 [(0,Z1 xs),(1,.i i)] (ie (ar (ir 2 [(5,Z1 xs),(6,.i i)] (ic [] (Zxw xs i) ?_))))))
 rintro _ _ ⟨rfl,rfl⟩
 refine ir 2 [(4,.b (decide ((Z2j xs i)>=0)))] (ie ?_)
 exact Z5 (r2 [] [.b (decide ((Z2j xs i)>=0))] ⟨rfl,rfl⟩ (lb (Zsn xs i)))
theorem Z00 (xs:List Int) (ys:List Int) (hl_xs:xs.length<=4294967296:=by exact ob) (hl_ys:ys.length<=4294967296:=by exact ob):Zd Tryz.prog 166 [Z1 xs,Z1 ys] [] (fun r h=>r=.b (decide (xs=ys))/\h=[]):=by
 refine enter Tryz.func166 kr (n:=26) kr kr (ar (ir 1 [(0,Z1 xs),(1,Z1 ys)] (ie (aq (ar (Z0 1 (.n 6 (Z1 xs) .r) (iw (ZD xs) (Z0 1 (.n 8 (Z1 ys) .r) (iw (ZD ys) (Z0 1 (.n 10 (.b ((xs.length:Int) != (ys.length:Int))) .r) (ie (ac ((xs.length:Int) != (ys.length:Int)) Zw (fun hc1=>?_) (fun hc1=>?_)))))))))))))
 ·refine ar (ir 1 [(4,.b false)] (ie ?_))
  exact Z5 (r2 [] [.b false] ⟨rfl,rfl⟩ (lb (eq_comm.1 (decide_eq_false (fun q=>by rw [q] at hc1;exact hc1 rfl)))))
 refine ak (aq (ar (Z0 1 (.n 11 (Z1 xs) .r) (iw (ZD xs) (Z0 1 (.n 13 (.i 0) .r) (ie (ab 0 (al (fun m F h=>∃(k:Nat),(k<=xs.length)/\(xs.take k=ys.take k)/\F=[(0,Z1 xs),(1,Z1 ys),(12,.i xs.length),(13,.i k)]/\h=[]/\m=xs.length-k) _ _ _ ⟨0,ob,ob,rfl,rfl,rfl⟩ (wk [] (fw (fr (fc (x:=.i 0) li fl)))) ?_))))))))
 rintro m F h ⟨k,c0_0,c0_1,rfl,rfl,rfl⟩
 refine ar (Z0 1 (.n 14 (.b (decide ((k:Int)<(xs.length:Int)))) .r) (ie (aq (ac (decide ((k:Int)<(xs.length:Int))) dq (fun hc2=>?_) (fun hc2=>?_)))))
 ·refine ak (aq (ab 1 (ar (Z0 2 (.n 5 (.i k) .r) (ie (aD 9 (Zi (fuel:=7) 9 [0,1] (.n 16 (Z1 xs) (.n 17 (.i k) .r)) ?_)))))))
  obtain ⟨x1,hx1⟩:=Zl (xs:=xs) (j:=k) om
  refine dx 2 (Zj (es:=Z6 xs) (hv:=none) (j:=(k:Int)) (sz:=1) (y:=.i x1) kr om (ZH hx1) rfl) (Zi (fuel:=3) 6 [3,4,5] (.n 19 (.i x1) (.n 20 (Z1 ys) (.n 21 (.i k) .r))) ?_)
  obtain ⟨x2,hx2⟩:=Zl (xs:=ys) (j:=k) om
  refine dx 6 (Zj (es:=Z6 ys) (hv:=none) (j:=(k:Int)) (sz:=1) (y:=.i x2) kr om (ZH hx2) rfl) (Zi (fuel:=0) 2 [7,8] (.n 24 (.b (x1 != x2)) .r) (de (ac (x1 != x2) Zw (fun hc3=>?_) (fun hc3=>?_))))
  ·refine ar (ir 1 [(4,.b false)] (ie ?_))
   exact Z5 (r2 [] [.b false] ⟨rfl,rfl⟩ (lb (eq_comm.1 (decide_eq_false (fun q=>by subst q;rw [hx1] at hx2;cases hx2;exact hc3 rfl)))))
  refine ak (az (ia (((k+1:Nat):Int)) (((k:Int))+(1)) (ir 1 [(0,Z1 xs),(1,Z1 ys),(12,.i xs.length),(13,.i (k+1:Nat))] (ie ?_))))
  have hdr:=Zu hx1
  exact ⟨_,_,_,ob,⟨k+1,ob,(by rw [V3 hx1,V3 hx2,c0_1];have hxx:x1=x2:=om;rw [hxx]),rfl,rfl,rfl⟩,(wk [] (fw (fr (fc (x:=.i (k+1:Nat)) li fl))))⟩
 refine ax 0 (ar (ir 1 [(4,.b true)] (ie ?_)))
 exact Z5 (r2 [] [.b true] ⟨rfl,rfl⟩ (lb (eq_comm.1 (decide_eq_true (by rw [W7 om,W7 om] at c0_1;exact c0_1)))))
theorem Zxv (m:Nat) (hm:m<=4294967296:=by exact ob):Zd Tryz.prog 174 [nl,.i m] [] (fun r h=>∃(v:Hd),r=.h v/\h=[rV v []]):=by
 refine enter Tryz.func174 kr (n:=27) kr kr (XA Qy (JF (F':=[(0,.h hN),(1,.i m)]) (h':=[rV hN []]) (wk [0] (fc (x:=nl) (Zg.hd (v:=hN)) ( fc (x:=.i m) (lr _) (Zfi _)))) (ar (ir 1 [(0,.h hN),(1,.i m)] (ie (aq (ar (Z0 2 (.n 6 (.b (decide ((m:Int)<0))) .r) (ie (ac (decide ((m:Int)<0)) dq (fun hc1=>?_) (fun hc1=>?_)))))))))))
 ·exfalso;omega
 refine ak (aq (ar (Z0 2 (.n 8 (.i m) (.n 9 (.h hN) .r)) (Zf (Yz.le (Zkb hN) (li (by rfl))) (Z0 1 (.n 11 (.h hN) .r) (Zf (Yz.le (Z04 0 hN []) (li (by rfl))) (ia ((0-0)) ((0)-(0)) (ia ((m:Int)) (((m:Int))-((0-0))) (ir 1 [(0,.h hN),(1,.i m)] (ie (ar (Z0 2 (.n 16 (.b (decide ((m:Int)>0))) .r) (ie (ac (decide ((m:Int)>0)) dq (fun hc2=>?_) (fun hc2=>?_)))))))))))))))
 ·refine az (Z0 2 (.n 17 (.h hN) (.n 18 (.h hN) .r)) (Zf (Yz.le (Zkb hN) (li (by rfl))) (Zf (Td 0 hN [] 0) (Z0 1 (.n 21 (.i m) .r) (iZ m ?_)))))
  intro v1
  refine Z0 1 (.n 23 (.h hN) .r) (Zf (Yz.le (Z04 1 hN []) (li (by rfl))) (Zf (Td 0 v1 (List.replicate m 0) 0) (ir 1 [(0,.h (v1.cut 0))] (ie (ar (ir 2 [(4,.h (v1.cut 0))] (ie (XA (Z03 0 0 v1 (List.replicate m 0)) ?_))))))))
  exact Z5 (r1 [0] ⟨(v1.cut 0),rfl,rfl⟩ (eq:=(rv (xs:=((List.replicate m 0).take 0)) ob rz)))
 refine ak (ar (ir 2 [(4,.h hN)] (ie ?_)))
 exact Z5 (r1 [0] ⟨hN,rfl,rfl⟩)
theorem Zxu (xss:List (List Int)) (hl_xss:xss.length<=4294967296:=by exact ob) (hf:xss.flatten.length<=4294967296:=by exact ob):Zd Tryz.prog 165 [YL xss] [] (fun r h=>∃(v:Value),r=Zb xss.flatten v/\h=[.tail v 1]):=by
 have hft:=Zfh xss
 refine enter Tryz.func165 kr (n:=36) kr kr (ar (ir 1 [(0,YL xss)] (ie (ar (Z0 1 (.n 3 (.i 0) .r) (ie (aq (ar (Z0 1 (.n 9 (YL xss) .r) (iw (Z27 xss) (Z0 1 (.n 11 (.i 0) .r) (ie (ab 0 (al (fun m F h=>∃(k:Nat) (q:Nat),(k<=xss.length)/\(q=(xss.take k).flatten.length)/\F=[(0,YL xss),(3,.i q),(9,YL xss),(10,.i xss.length),(11,.i k)]/\h=[]/\m=xss.length-k) _ _ _ ⟨0,0,ob,(by simp),rfl,rfl,rfl⟩ (wk [] (fr (fc (x:=.i 0) li (fw (fc (x:=.i 0) li fl))))) ?_))))))))))))))
 rintro m F h ⟨k,q,c0_0,c0_1,rfl,rfl,rfl⟩
 refine ar (Z0 1 (.n 12 (.b (decide ((k:Int)<(xss.length:Int)))) .r) (ie (aq (ac (decide ((k:Int)<(xss.length:Int))) dq (fun hc1=>?_) (fun hc1=>?_)))))
 ·refine ak (aq (ab 1 (ar ?_)))
  obtain ⟨x1,hx1⟩:=Zl (xs:=xss) (j:=k) om
  refine Zf (Zj (es:=XO xss) (hv:=none) (j:=(k:Int)) (sz:=1) (y:=Z1 x1) kr om (KS hx1) rfl) (Z0 2 (.n 5 (Z1 x1) .r) (ie (ar (Z0 2 (.n 15 (.i q) (.n 16 (Z1 x1) .r)) (iw (ZD x1) (ia (((q+x1.length:Nat):Int)) (((q:Int))+((x1.length:Int))) (hb:=(by have:=Zfg hx1;omega)) (Z0 1 (.n 3 (.i (q+x1.length:Nat)) (.p (.p (.d (.d (.d (.p (.d (.k (.d .r)))))))))) (ie (ar (Z0 2 (.n 20 (.b (decide (((q+x1.length:Nat):Int)<0))) .r) (ie (ac (decide (((q+x1.length:Nat):Int)<0)) dq (fun hc2=>?_) (fun hc2=>?_)))))))))))))
  ·exfalso;omega
  refine ak (az (ia (((k+1:Nat):Int)) (((k:Int))+(1)) (Z0 1 (.n 11 (.i (k+1:Nat)) (.p (.d (.w .z)))) (ie ?_))))
  have hdr:=Zu hx1
  exact ⟨_,_,_,ob,⟨k+1,q+x1.length,ob,(by rw [Z8g hx1,ZC,c0_1]),rfl,rfl,rfl⟩,(wk [] (fr (fc (x:=.i (q+x1.length:Nat)) li (fw (fc (x:=.i (k+1:Nat)) li fl)))))⟩
 refine ax 0 (ar (Z0 1 (.n 23 (.i q) .r) (ic [] (Zxv q (hm:=(by have:=hft k;omega))) ?_)))
 rintro _ _ ⟨v1,rfl,rfl⟩
 refine Z0 1 (.n 6 (.h v1) .r) (ie (aq (ar (Z0 1 (.n 25 (YL xss) .r) (iw (Z27 xss) (Z0 1 (.n 27 (.i 0) .r) (ie (ab 2 (al (fun m F h=>∃(j:Nat) (v:Hd),(j<=xss.length)/\F=[(6,.h v),(25,YL xss),(26,.i xss.length),(27,.i j)]/\h=[rV v ((xss.take j).flatten)]/\m=xss.length-j) _ _ _ ⟨0,v1,ob,rfl,rfl,rfl⟩ (wk [0] (fw (fr (fc (x:=.i 0) li fl))) (e:=(rv (xs:=[]) ob rz))) ?_)))))))))
 rintro m F h ⟨j,v,c1_0,rfl,rfl,rfl⟩
 refine ar (Z0 1 (.n 28 (.b (decide ((j:Int)<(xss.length:Int)))) .r) (ie (aq (ac (decide ((j:Int)<(xss.length:Int))) dq (fun hc3=>?_) (fun hc3=>?_)))))
 ·refine ak (aq (ab 3 (ar ?_)))
  obtain ⟨x2,hx2⟩:=Zl (xs:=xss) (j:=j) om
  refine Zf (Zj (es:=XO xss) (hv:=none) (j:=(j:Int)) (sz:=1) (y:=Z1 x2) kr om (KS hx2) rfl) (Z0 2 (.n 8 (Z1 x2) .r) (ie (az (Z0 2 (.n 31 (.h v) (.n 32 (Z1 x2) .r)) (Q0 0 v ((xss.take j).flatten) x2 none (hbound:=(by have:=Zfg hx2;omega)) ?_)))))
  intro v2
  refine Z0 1 (.n 6 (.h v2) (.p (.d (.d (.d (.p (.d (.d .r)))))))) (ie (az (ia (((j+1:Nat):Int)) (((j:Int))+(1)) (Z0 1 (.n 27 (.i (j+1:Nat)) (.p (.k (.k (.k .z))))) (ie ?_)))))
  have hdr:=Zu hx2
  exact ⟨_,_,_,ob,⟨j+1,v2,ob,rfl,rfl,rfl⟩,(wk [0] (fw (fr (fc (x:=.i (j+1:Nat)) li fl))) (e:=(rv (xs:=((xss.take j).flatten++x2)) (Z8g hx2).symm rz)))⟩
 refine ax 2 (ar (ir 2 [(2,.h v)] (ie (Zbl 2 0 (v:=v) (xs:=(xss.take j).flatten) ?_))))
 exact Z5 (r2 [0] [Zb ((xss.take j).flatten) v.v] ⟨v.v,rfl,rfl⟩ (Zg.slh _ (Y1 Z6 (by rw [W7 om]))))
theorem Z4x (ds:List Decl) (t:Int) (hl_ds:ds.length<=4294967296:=by exact ob):Zd Tryz.prog 89 [Z3 ds,.i t] [] (fun r h=>r=.b (decide (0<=t/\t<=ds.length))/\h=[]):=by
 refine enter Tryz.func89 kr (n:=13) kr kr (ar (ir 1 [(0,Z3 ds),(1,.i t)] (ie (ar (YV 8 [(12,.b ((decide (t>=0))&&(decide (t<=(ds.length:Int)))))] [] ?_ (fun hj1=>?_))))))
 ·refine ir 1 [(4,.b ((decide (t>=0))&&(decide (t<=(ds.length:Int)))))] (ie ?_)
  exact Z5 (r2 [] [.b ((decide (t>=0))&&(decide (t<=(ds.length:Int))))] ⟨rfl,rfl⟩ (lb (by rw [YW];simp)))
 refine ir 3 [(0,Z3 ds),(1,.i t),(7,.b (decide (t>=0)))] (ib (b:=(decide (t>=0))) 7 (fun hb1=>?_) (fun hb1=>?_))
 ·have hp1:t>=0:=(dq).1 hb1
  refine Z0 2 (.n 8 (.i t) (.n 9 (Z3 ds) (.k .z))) (iw (Wv ds) (ir 2 [(12,.b (decide (t<=(ds.length:Int))))] ?_))
  exact ZL (wk [] (fc (x:=.b (decide (t<=(ds.length:Int)))) (lb (by simp only [hb1];rfl)) fl)) hj1
 have hp2:¬(t>=0):=Zv dq hb1
 refine ir 5 [(12,.b false)] ?_
 exact ZL (wk [] (fc (x:=.b false) (lb (by simp only [hb1];rfl)) fl)) hj1
theorem Zfu (ds:List Decl) (xs:List Int) (hl_ds:ds.length<=4294967296:=by exact ob) (hl_xs:xs.length<=4294967296:=by exact ob):Zd Tryz.prog 88 [Z3 ds,Z1 xs] [] (fun r h=>r=.b (YK ds.length xs)/\h=[]):=by
 refine enter Tryz.func88 kr (n:=18) kr kr (ar (ir 1 [(0,Z3 ds),(1,Z1 xs)] (ie (aq (ar (Z0 1 (.n 7 (Z1 xs) .r) (iw (ZD xs) (Z0 1 (.n 9 (.i 0) .r) (ie (ab 0 (al (fun m F h=>∃(k:Nat),(k<=xs.length)/\(YK ds.length (xs.drop k)=YK ds.length xs)/\F=[(0,Z3 ds),(7,Z1 xs),(8,.i xs.length),(9,.i k)]/\h=[]/\m=xs.length-k) _ _ _ ⟨0,ob,ob,rfl,rfl,rfl⟩ (wk [] (fw (fr (fc (x:=.i 0) li fl)))) ?_)))))))))))
 rintro m F h ⟨k,c0_0,c0_1,rfl,rfl,rfl⟩
 refine ar (Z0 1 (.n 10 (.b (decide ((k:Int)<(xs.length:Int)))) .r) (ie (aq (ac (decide ((k:Int)<(xs.length:Int))) dq (fun hc1=>?_) (fun hc1=>?_)))))
 ·refine ak (aq (ab 1 (ar ?_)))
  obtain ⟨x1,hx1⟩:=Zl (xs:=xs) (j:=k) om
  refine Zf (Zj (es:=Z6 xs) (hv:=none) (j:=(k:Int)) (sz:=1) (y:=.i x1) kr om (ZH hx1) rfl) (Z0 2 (.n 6 (.i x1) .r) (ie (ar (Z0 2 (.n 13 (Z3 ds) (.n 14 (.i x1) .r)) (ic [] (Z4x ds x1) ?_)))))
  rintro _ _ ⟨rfl,rfl⟩
  refine Z0 1 (.n 16 (.b (!(decide (0<=x1/\x1<=ds.length)))) .r) (ie (ac (!(decide (0<=x1/\x1<=ds.length))) (p:=¬(0<=x1/\x1<=ds.length)) (ZP dq) (fun hc2=>?_) (fun hc2=>?_)))
  ·refine ar (ir 1 [(4,.b false)] (ie ?_))
   rw [Zu hx1] at c0_1
   exact Z5 (r2 [] [.b false] ⟨rfl,rfl⟩ (lb (by clear hx1;first|rfl|omega|grind [YK])))
  refine ak (az (ia (((k+1:Nat):Int)) (((k:Int))+(1)) (Z0 1 (.n 9 (.i (k+1:Nat)) (.p (.d (.p (.d (.d (.d (.p (.d (.k (.k (.k .z)))))))))))) (ie ?_))))
  have hdr:=Zu hx1
  exact ⟨_,_,_,ob,⟨k+1,ob,(by rw [hdr] at c0_1;clear hdr hx1;grind [YK]),rfl,rfl,rfl⟩,(wk [] (fw (fr (fc (x:=.i (k+1:Nat)) li fl))))⟩
 refine ax 0 (ar (ir 1 [(4,.b true)] (ie ?_)))
 try rw [Ye (xs:=xs) (k:=k) om] at c0_1
 exact Z5 (r2 [] [.b true] ⟨rfl,rfl⟩ (lb (by first|rfl|omega|grind [YK])))
theorem Zry (ds:List Decl) (hd:DOk ds:=by exact ob):Zd Tryz.prog 154 [Z3 ds] [] (fun r h=>r=.i (ZA ds:Nat)/\h=[]):=by
 have hdl:=hd.len
 refine enter Tryz.func154 kr (n:=19) kr kr (ar (ir 1 [(0,Z3 ds)] (ie (ar (Z0 1 (.n 3 (.i 0) .r) (ie (aq (ar (Z0 1 (.n 6 (Z3 ds) .r) (iw (Wv ds) (Z0 1 (.n 8 (.i 0) .r) (ie (ab 0 (al (fun m F h=>∃(k:Nat),(k<=ds.length)/\F=[(3,.i ((ZA (ds.take k):Nat):Int)),(6,Z3 ds),(7,.i ds.length),(8,.i k)]/\h=[]/\m=ds.length-k) _ _ _ ⟨0,ob,rfl,rfl,rfl⟩ (wk [] (fc (x:=.i 0) li (fw (fc (x:=.i 0) li fl)))) ?_))))))))))))))
 rintro m F h ⟨k,c0_0,rfl,rfl,rfl⟩
 refine ar (Z0 1 (.n 9 (.b (decide ((k:Int)<(ds.length:Int)))) .r) (ie (aq (ac (decide ((k:Int)<(ds.length:Int))) dq (fun hc1=>?_) (fun hc1=>?_)))))
 ·refine ak (aq (ab 1 (ar ?_)))
  obtain ⟨x1,hx1⟩:=Zl (xs:=ds) (j:=k) om
  refine Zf (Zj (es:=ZQ ds) (hv:=none) (j:=(k:Int)) (sz:=3) (y:=Yw x1) kr om (Wd hx1) rfl) (Z0 1 (.n 11 (Yw x1) .r) (iA [.i 0,.i 0,nl] ?_))
  intro b1
  refine iS 0 b1 0 (Ys x1) [.i 0,.i 0,nl] (Ys x1) (ie (az (Za 3 (.n 12 (.i ((ZA (ds.take k):Nat):Int)) (.n 14 (Y8 x1.cons) .r)) [0] [b1] (iw (Wc x1.cons) (ia (((ZA (ds.take k)+x1.cons.length:Nat):Int)) ((((ZA (ds.take k):Nat):Int))+((x1.cons.length:Int))) (hb:=(by have h1:=hd.cons_at hx1;have h2:=(hd.take k).sum;omega)) (Z0 1 (.n 3 (.i ((ZA (ds.take k)+x1.cons.length:Nat):Int)) (.p (.p (.d (.d (.p (.d (.p (.d (.d .r)))))))))) (ie (az (ia (((k+1:Nat):Int)) (((k:Int))+(1)) (Z0 1 (.n 8 (.i (k+1:Nat)) (.p (.k (.k (.k .z))))) (ie ?_)))))))))))
  have hdr:=Zu hx1
  exact ⟨_,_,_,ob,⟨k+1,ob,rfl,rfl,rfl⟩,(wk [] (fc (x:=.i ((ZA (ds.take k)+x1.cons.length:Nat):Int)) (li (by rw [V3 hx1,Z1z];simp [ZA])) (fw (fc (x:=.i (k+1:Nat)) li fl))))⟩
 refine ax 0 (ar (ir 2 [(2,.i ((ZA (ds.take k):Nat):Int))] (ie ?_)))
 exact Z5 (r2 [] [.i ((ZA (ds.take k):Nat):Int)] ⟨rfl,rfl⟩ (li (by rw [W7 om])))
theorem Zfw (ds:List Decl) (c:Int) (hd:DOk ds:=by exact ob) (hc:-9223372036854775808<=c/\c<=9223372036854775807:=by exact ob):Zd Tryz.prog 155 [Z3 ds,.i c] [] (fun r h=>r=.tup [.i (Yr ds c),.agg [Z1 (Zc ds c)]]/\h=[]):=by
 have hdl:=hd.len
 refine enter Tryz.func155 kr (n:=38) kr kr (ar (ir 1 [(0,Z3 ds),(1,.i c)] (iA [nl] ?_)))
 intro b1
 refine ie (aq (ar (Z0 1 (.n 8 (Z3 ds) .r) (iw (Wv ds) (Z0 1 (.n 10 (.i 0) .r) (ie (ab 0 (al (fun m F h=>∃(k:Nat) (cv:Int),(k<=ds.length)/\(KH c (ZA (ds.take k)) cv)/\(VG c (ds.drop k) k (ZA (ds.take k))=VG c ds 0 0)/\F=[(1,.i cv),(5,.p b1 0),(8,Z3 ds),(9,.i ds.length),(10,.i k)]/\h=[.obj b1 [nl]]/\m=ds.length-k) _ _ _ ⟨0,c,ob,(.inl (by simp [ZA])),rfl,rfl,rfl,rfl⟩ (wk [0] (fq (fc (x:=.i 0) li fl))) ?_))))))))
 rintro m F h ⟨k,cv,c0_0,c0_1,c0_2,rfl,rfl,rfl⟩
 refine ar (Z0 1 (.n 11 (.b (decide ((k:Int)<(ds.length:Int)))) .r) (ie (aq (ac (decide ((k:Int)<(ds.length:Int))) dq (fun hc1=>?_) (fun hc1=>?_)))))
 ·refine ak (aq (ab 1 (ar (Z0 1 (.n 12 (.i k) .r) ?_))))
  obtain ⟨x1,hx1⟩:=Zl (xs:=ds) (j:=k) om
  refine Zf (Zj (es:=ZQ ds) (hv:=none) (j:=(k:Int)) (sz:=3) (y:=Yw x1) kr om (Wd hx1) rfl) (Z0 1 (.n 14 (Yw x1) .r) (iA [.i 0,.i 0,nl] ?_))
  intro b2
  refine Z0 1 (.n 6 (.i k) .r) (iS 0 b2 0 (Ys x1) [.i 0,.i 0,nl] (Ys x1) (ie (aq (ar (Xl [(1,.i cv),(5,.p b1 0),(6,.i k),(7,.p b2 0),(8,Z3 ds),(9,.i ds.length),(10,.i k),(23,.b ((decide (cv>=0))&&(decide (cv<(x1.cons.length:Int)))))] [.obj b2 (Ys x1),.obj b1 [nl]] ?_ ?_)))))
  ·refine ir 3 [(1,.i cv),(5,.p b1 0),(6,.i k),(7,.p b2 0),(8,Z3 ds),(9,.i ds.length),(10,.i k),(17,.b (decide (cv>=0)))] (ib (b:=(decide (cv>=0))) 17 (fun hb1=>?_) (fun hb1=>?_))
   ·have hp1:cv>=0:=(dq).1 hb1
    refine Za 3 (.n 18 (.i cv) (.n 20 (Y8 x1.cons) (.w (.w .z)))) [0] [b2] (iw (Wc x1.cons) (Z0 2 (.n 23 (.b (decide (cv<(x1.cons.length:Int)))) .r) (ie ?_)))
    exact wk [0,0] (fq (fw (fr (fc (x:=.b (decide (cv<(x1.cons.length:Int)))) (lb (by simp only [hb1];rfl)) fl))))
   have hp2:¬(cv>=0):=Zv dq hb1
   refine Z0 6 (.n 23 (.b false) (.d (.w (.k (.k (.k .z)))))) (ie ?_)
   exact wk [0,0] (fq (fw (fr (fc (x:=.b false) (lb (by simp only [hb1];rfl)) fl))))
  refine ac ((decide (cv>=0))&&(decide (cv<(x1.cons.length:Int)))) (p:=(cv>=0)/\(cv<(x1.cons.length:Int))) (ZZ dq dq) (fun hc2=>?_) (fun hc2=>?_)
  ·refine aD 9 (dt (fuel:=8) 9 [0] [(1,.i cv),(5,.p b1 0),(7,.p b2 0),(24,.i k)] (da 1 (((k+1:Nat):Int)) (((k:Int))+(1)) (ZI (fuel:=4) 7 [2,3,4] (.n 27 (Y8 x1.cons) (.n 28 (.i cv) .r)) [0] [b2] ?_)))
   obtain ⟨x2,hx2⟩:=Zl (xs:=x1.cons) (j:=cv.toNat) om
   refine dx 5 (Zj (es:=YH x1.cons) (hv:=none) (j:=cv) (sz:=1) (y:=Wm x2) kr om (Qq hx2) rfl) (Zi (fuel:=1) 3 [6,7] (.n 4 (.i (k+1:Nat)) (.n 30 (Wm x2) .r)) (Zm 8 (dS 8 1 [] [] b1 0 (UP x2) [nl] (UP x2) (de ?_))))
   have hz:=(hd.take k).sum
   have h3:=hd.cons_at hx1
   have hH:=c0_2.symm.trans (Znt hx1 c0_1 om h3 hc.1 hc2 hx2)
   exact Z5 (r3 [] [.i (k+1:Nat),Wm x2] [0] [(b1,b1)] ⟨rfl,rfl⟩ (Zg.tup (.cons (li (by rw [Yr,hH];omega)) (.cons (Zg.agg (.cons (Zg.sl _ (Y1 Z6 (by rw [Zc,hH]))) .nil)) .nil))))
  refine ak (az (iR 3 [(5,.p b1 0),(8,Z3 ds),(9,.i ds.length),(10,.i k),(31,.i cv),(33,Y8 x1.cons)] [0] [b2] (iw (Wc x1.cons) (iW ((cv)-((x1.cons.length:Int))) (Z0 1 (.n 1 (.i (Jp ((cv)-((x1.cons.length:Int))))) .r) (ie (az (ia (((k+1:Nat):Int)) (((k:Int))+(1)) (Z0 1 (.n 10 (.i (k+1:Nat)) (.p (.k (.p (.p (.k (.k (.k .z)))))))) (ie ?_))))))))))
  have hdr:=Zu hx1
  exact ⟨_,_,_,ob,⟨k+1,(Jp ((cv)-((x1.cons.length:Int)))),ob,(by have hz:=(hd.take k).sum;have h3:=hd.cons_at hx1;rw [V3 hx1,Z1z];simpa [ZA] using Zmi c0_1 om h3 hc),(Znr hx1 c0_1 hc2 c0_2),rfl,rfl,rfl⟩,(wk [1] (fq (fc (x:=.i (k+1:Nat)) li fl)))⟩
 refine ax 0 (ar (Z0 2 (.n 4 (.i (-1)) (.n 37 (.agg [nl]) .r)) (iS 0 b1 0 [nl] [nl] [nl] (ie ?_))))
 have hH:VG c ds 0 0=(-1,[]):=by rw [<-c0_2,Ye om];rfl
 exact Z5 (r3 [] [.i (-1),.agg [nl]] [0] [(b1,b1)] ⟨rfl,rfl⟩ (Zg.tup (.cons (li (by rw [Yr,hH])) (.cons (Zg.agg (.cons (Zg.sl _ (by rw [Zc,hH];rfl)) .nil)) .nil))))
theorem Zs5 (ds:List Decl) (c:Int) (hd:DOk ds:=by exact ob) (hc:-9223372036854775808<=c/\c<=9223372036854775807:=by exact ob):Zd Tryz.prog 125 [Z3 ds,.i c] [] (fun r h=>r=Z1 (Zc ds c)/\h=[]):=by
 refine enter Tryz.func125 kr (n:=15) kr kr (ar (ir 1 [(0,Z3 ds),(1,.i c)] (ie (ar (ir 2 [(8,Z3 ds),(9,.i c)] (ic [] (Zfw ds c) ?_))))))
 rintro _ _ ⟨rfl,rfl⟩
 refine ir 3 [(11,.i (Yr ds c)),(12,.agg [Z1 (Zc ds c)])] (iA [nl] ?_)
 intro b1
 refine Z0 1 .r (iS 0 b1 0 [Z1 (Zc ds c)] [nl] [Z1 (Zc ds c)] (ie (ar (iR 3 [(4,Z1 (Zc ds c))] [0] [b1] (ie ?_)))))
 exact Z5 (r1 [] ⟨rfl,rfl⟩)
theorem Zrz (ds:List Decl) (t:Int) (hd:DOk ds:=by exact ob):Zd Tryz.prog 124 [Z3 ds,.i t] [] (fun r h=>r=Z1 (Zt ds t)/\h=[]):=by
 have hdl:=hd.len
 refine enter Tryz.func124 kr (n:=39) kr kr (ar (ir 1 [(0,Z3 ds),(1,.i t)] (ie (aq (ar (Xl [(0,Z3 ds),(1,.i t),(15,.b ((decide (t<1))||(decide (t>(ds.length:Int)))))] [] ?_ ?_))))))
 ·refine ir 3 [(0,Z3 ds),(1,.i t),(10,.b (decide (t<1)))] (ib (b:=(decide (t<1))) 10 (fun hb1=>?_) (fun hb1=>?_))
  ·have hp1:t<1:=(dq).1 hb1
   refine Z0 5 (.n 15 (.b true) (.d (.k (.k .z)))) (ie ?_)
   exact wk [] (fw (fc (x:=.b true) (lb (by simp only [hb1];rfl)) fl))
  have hp2:¬(t<1):=Zv dq hb1
  refine Z0 2 (.n 11 (.i t) (.n 12 (Z3 ds) (.k (.k (.k .z))))) (iw (Wv ds) (Z0 2 (.n 15 (.b (decide (t>(ds.length:Int)))) .r) (ie ?_)))
  exact wk [] (fw (fc (x:=.b (decide (t>(ds.length:Int)))) (lb (by simp only [hb1];rfl)) fl))
 refine ac ((decide (t<1))||(decide (t>(ds.length:Int)))) (p:=(t<1)∨(t>(ds.length:Int))) (Zz dq dq) (fun hc1=>?_) (fun hc1=>?_)
 ·refine ar (ir 1 [(4,nl)] (ie ?_))
  exact Z5 (r2 [] [nl] ⟨rfl,rfl⟩ (Zg.sl _ (by rw [Zt,Z4 om];rfl)))
 have hti:1<=t/\t<=ds.length:=by omega
 obtain ⟨d,hd1⟩:=Zl (xs:=ds) (j:=(t-1).toNat) om
 have hdc:=hd.cons_at hd1
 have hsm:=(hd.take (t-1).toNat).sum
 refine ak (ar (ir 2 [(0,Z3 ds),(1,.i t),(16,Z3 ds),(17,.i t)] (ia ((((t-1).toNat:Nat):Int)) ((t)-(1)) (Zf (Z33 (es:=ZQ ds) (hv:=none) (l:=0) (m:=(((t-1).toNat:Nat):Int)) (sz:=3) (es':=ZQ (ds.take ((t-1).toNat))) kr om (by simp<;>omega) (by simp<;>omega) (Z0n _) (by first|(simp only [Te,Qh,Z0o,Z0m];done)|(simp only [Te,Qh,Z0o,Z0m];rfl)|(simp [Z0o,Z0m];done))) (ic [] (Zry (ds.take ((t-1).toNat)) (hd:=(hd.take _))) ?_)))))
 rintro _ _ ⟨rfl,rfl⟩
 refine Z0 1 (.n 5 (.i ((ZA (ds.take ((t-1).toNat)):Nat):Int)) .r) (ie (ar (Z0 1 (.n 6 (nl) .r) (ie (aq (ar (Z0 2 (.n 21 (Z3 ds) (.n 22 (.i t) .r)) (ia ((((t-1).toNat:Nat):Int)) ((t)-(1)) (Zf (Zj (es:=ZQ ds) (hv:=none) (j:=(((t-1).toNat:Nat):Int)) (sz:=3) (y:=Yw d) kr om (Wd hd1) rfl) (Z0 2 (.n 26 (Y8 d.cons) .r) (iw (Wc d.cons) (Z0 1 (.n 28 (.i 0) .r) (ie (ab 0 (U7 1 (al (fun m F h=>∃(k:Nat) (v:Value),(k<=d.cons.length)/\F=[(5,.i ((ZA (ds.take ((t-1).toNat)):Nat):Int)),(6,Zb (Xy (ZA (ds.take (t-1).toNat)) k) v),(27,.i d.cons.length),(28,.i k)]/\h=[.tail v 1]/\m=d.cons.length-k) _ _ _ ⟨0,(.slice none 0 0),ob,rfl,rfl,rfl⟩ (wk [0] (fr (fc (x:=nl) (Zg.slh _ rfl) (fr (fc (x:=.i 0) li fl))))) ?_))))))))))))))))
 rintro m F h ⟨k,v,c0_0,rfl,rfl,rfl⟩
 refine ar (Z0 1 (.n 29 (.b (decide ((k:Int)<(d.cons.length:Int)))) .r) (ie (aq (ac (decide ((k:Int)<(d.cons.length:Int))) dq (fun hc2=>?_) (fun hc2=>?_)))))
 ·refine ak (aq (ab 1 (ar (Z0 2 (.n 7 (.i k) .r) (ie (az (Z0 3 (.n 31 (Zb (Xy (ZA (ds.take (t-1).toNat)) k) v) (.n 32 (.i ((ZA (ds.take ((t-1).toNat)):Nat):Int)) (.n 33 (.i k) .r))) (ia ((((ZA (ds.take ((t-1).toNat)))+k:Nat):Int)) ((((ZA (ds.take ((t-1).toNat)):Nat):Int))+((k:Int))) (iL (Z6 [(((ZA (ds.take ((t-1).toNat)))+k:Nat):Int)]) 1 1 ?_)))))))))
  intro v1
  refine Z0 0 (.n 35 (Z1 [(((ZA (ds.take ((t-1).toNat)))+k:Nat):Int)]) (.p .r)) (ip 1 (Z6 (Xy (ZA (ds.take (t-1).toNat)) k++[(((ZA (ds.take ((t-1).toNat)))+k:Nat):Int)])) (Z6 (Xy (ZA (ds.take (t-1).toNat)) k)) (Z6 [(((ZA (ds.take ((t-1).toNat)))+k:Nat):Int)]) v none 1 (YS _) (YS _) (VL _) (by simp;omega) (by simp [VK,Z6]) ?_)
  intro v2
  refine Z0 1 (.n 6 (Zb (Xy (ZA (ds.take (t-1).toNat)) k++[(((ZA (ds.take ((t-1).toNat)))+k:Nat):Int)]) v2) (.p (.d (.p (.d (.d (.d (.d (.d (.k (.d .r))))))))))) (ie (az (ia (((k+1:Nat):Int)) (((k:Int))+(1)) (Z0 1 (.n 28 (.i (k+1:Nat)) (.p (.k (.k (.k .z))))) (ie ?_)))))
  exact ⟨_,_,_,ob,⟨k+1,v2,ob,rfl,rfl,rfl⟩,(wk [0] (fr (fc (x:=Zb (Xy (ZA (ds.take (t-1).toNat)) k++[(((ZA (ds.take ((t-1).toNat)))+k:Nat):Int)]) v2) (Zg.slh _ (Y1 Z6 (Zhl _ _).symm)) (fr (fc (x:=.i (k+1:Nat)) li fl)))))⟩
 refine ax 0 (ar (ir 2 [(4,Zb (Xy (ZA (ds.take (t-1).toNat)) k) v)] (ie ?_)))
 exact Z5 (r2 [] [Zb (Xy (ZA (ds.take (t-1).toNat)) k) v] ⟨rfl,rfl⟩ (Zg.sl _ (Y1 Z6 (by rw [Zt,Z8 hti,hd1,show k=d.cons.length by omega];rfl))))
theorem Z4v (ds:List Decl) (t:Int) (hd:DOk ds:=by exact ob):Zd Tryz.prog 146 [Z3 ds,.i t] [] (fun r h=>r=.tup [Yw (Xe ds t),.b (Yv ds t)]/\h=[]):=by
 have hdl:=hd.len
 refine enter Tryz.func146 kr (n:=30) kr kr (ar (iA [.i 0,.i 0,nl] ?_))
 intro b1
 refine ir 1 [(0,Z3 ds),(1,.i t),(4,.p b1 0)] (ie (aq (ar (YV 8 [(0,Z3 ds),(1,.i t),(4,.p b1 0),(13,.b ((decide (t<1))||(decide (t>(ds.length:Int)))))] [.obj b1 [.i 0,.i 0,nl]] ?_ (fun hj1=>?_)))))
 ·refine ir 1 [(0,Z3 ds),(1,.i t),(4,.p b1 0),(14,.b ((decide (t<1))||(decide (t>(ds.length:Int)))))] (ib (b:=((decide (t<1))||(decide (t>(ds.length:Int))))) 14 (fun hb1=>?_) (fun hb1=>?_))
  ·have hp1:(t<1)∨(t>(ds.length:Int)):=((Zz dq dq)).1 hb1
   refine Z0 9 (.n 23 (.b true) (.d (.k (.k (.k .z))))) (ie (X8 (ar (Z0 1 (.n 24 (.agg [.i 0,.i 0,nl]) .r) (iS 0 b1 0 [.i 0,.i 0,nl] [.i 0,.i 0,nl] [.i 0,.i 0,nl] (Z0 1 (.n 5 (.b false) .r) (ie ?_)))))))
   have hA:Yv ds t=false:=(Z8w om).symm
   have hD:Xe ds t=⟨0,0,[]⟩:=by rw [Xe,hA];rfl
   exact Z5 (r3 [] [.agg [.i 0,.i 0,nl],.b false] [0] [(b1,b1)] ⟨rfl,rfl⟩ (Zg.tup (.cons (Zg.agg (.cons (li (by rw [hD])) (.cons (li (by rw [hD])) (.cons (Zg.sl _ (by rw [hD];rfl)) .nil)))) (.cons (lb (by rw [hA])) .nil))))
  have hp2:¬((t<1)∨(t>(ds.length:Int))):=Zv (Zz dq dq) hb1
  refine Z0 2 (.n 15 (Z3 ds) (.n 16 (.i t) (.w .z))) (ia ((t-1)) ((t)-(1)) ?_)
  obtain ⟨x1,hx1⟩:=Zl (xs:=ds) (j:=(t-1).toNat) om
  refine Zf (Zj (es:=ZQ ds) (hv:=none) (j:=(t-1)) (sz:=3) (y:=Yw x1) kr om (Wd hx1) rfl) (Z0 2 (.n 20 (Y8 x1.cons) .r) (iw (Wc x1.cons) (Z0 2 (.n 23 (.b (decide ((x1.cons.length:Int)>0))) .r) (ie (ac (decide ((x1.cons.length:Int)>0)) dq (fun hc1=>?_) (fun hc1=>?_))))))
  ·refine ar (Z0 1 (.n 24 (.agg [.i 0,.i 0,nl]) .r) (iS 0 b1 0 [.i 0,.i 0,nl] [.i 0,.i 0,nl] [.i 0,.i 0,nl] (Z0 1 (.n 5 (.b false) .r) (ie ?_))))
   have hA:Yv ds t=false:=(Z4z om hx1).symm.trans (beq_eq_false_iff_ne.2 om)
   have hD:Xe ds t=⟨0,0,[]⟩:=by rw [Xe,hA];rfl
   exact Z5 (r3 [] [.agg [.i 0,.i 0,nl],.b false] [0] [(b1,b1)] ⟨rfl,rfl⟩ (Zg.tup (.cons (Zg.agg (.cons (li (by rw [hD])) (.cons (li (by rw [hD])) (.cons (Zg.sl _ (by rw [hD];rfl)) .nil)))) (.cons (lb (by rw [hA])) .nil))))
  refine ak (ar (Z0 2 (.n 25 (Z3 ds) (.n 26 (.i t) .r)) (ia ((t-1)) ((t)-(1)) (Zf (Zj (es:=ZQ ds) (hv:=none) (j:=(t-1)) (sz:=3) (y:=Yw x1) kr om (Wd hx1) rfl) (Z0 1 (.n 29 (Yw x1) .r) (iS 0 b1 0 (Ys x1) [.i 0,.i 0,nl] (Ys x1) (Z0 1 (.n 5 (.b true) .r) (ie ?_))))))))
  have hA:Yv ds t=true:=(Z4z om hx1).symm.trans (Ze.2 om)
  have hD:Xe ds t=x1:=by rw [Xe,hA,hx1];rfl
  exact Z5 (r3 [] [Yw x1,.b true] [0] [(b1,b1)] ⟨rfl,rfl⟩ (Zg.tup (.cons (Zg.agg (.cons (li (by rw [hD])) (.cons (li (by rw [hD])) (.cons (Zg.sl _ (Y1 YH (by rw [hD]))) .nil)))) (.cons (lb (by rw [hA])) .nil))))
 refine ir 3 [(0,Z3 ds),(1,.i t),(4,.p b1 0),(8,.b (decide (t<1)))] (ib (b:=(decide (t<1))) 8 (fun hb2=>?_) (fun hb2=>?_))
 ·have hp3:t<1:=(dq).1 hb2
  refine Z0 5 (.n 13 (.b true) (.d (.k (.k (.k .z))))) ?_
  exact ZL (wk [0] (fw (fr (fc (x:=.b true) (lb (by simp only [hb2];rfl)) fl)))) hj1
 have hp4:¬(t<1):=Zv dq hb2
 refine Z0 2 (.n 9 (.i t) (.n 10 (Z3 ds) (.w .z))) (iw (Wv ds) (Z0 2 (.n 13 (.b (decide (t>(ds.length:Int)))) .r) ?_))
 exact ZL (wk [0] (fw (fr (fc (x:=.b (decide (t>(ds.length:Int)))) (lb (by simp only [hb2];rfl)) fl)))) hj1
theorem Zrr (ds:List Decl) (frm:Int) (to_:Int) (hl_ds:ds.length<=4294967296:=by exact ob):Zd Tryz.prog 167 [Z3 ds,.i frm,.i to_] [] (fun r h=>r=.i (WV ds frm to_)/\h=[]):=by
 refine enter Tryz.func167 kr (n:=35) kr kr (ar (ir 1 [(0,Z3 ds),(1,.i frm),(2,.i to_)] (ie (aq (ar (Z0 1 (.n 9 (Z3 ds) .r) (iw (Wv ds) (Z0 1 (.n 11 (.i 0) .r) (ie (ab 0 (al (fun m F h=>∃(k:Nat),(k<=ds.length)/\(Tl frm to_ (ds.drop k) k=WV ds frm to_)/\F=[(1,.i frm),(2,.i to_),(9,Z3 ds),(10,.i ds.length),(11,.i k)]/\h=[]/\m=ds.length-k) _ _ _ ⟨0,ob,rfl,rfl,rfl,rfl⟩ (wk [] (fq (fc (x:=.i 0) li fl))) ?_)))))))))))
 rintro m F h ⟨k,c0_0,c0_1,rfl,rfl,rfl⟩
 refine ar (Z0 1 (.n 12 (.b (decide ((k:Int)<(ds.length:Int)))) .r) (ie (aq (ac (decide ((k:Int)<(ds.length:Int))) dq (fun hc1=>?_) (fun hc1=>?_)))))
 ·refine ak (aq (ab 1 (ar (Z0 1 (.n 13 (.i k) .r) ?_))))
  obtain ⟨x1,hx1⟩:=Zl (xs:=ds) (j:=k) om
  refine Zf (Zj (es:=ZQ ds) (hv:=none) (j:=(k:Int)) (sz:=3) (y:=Yw x1) kr om (Wd hx1) rfl) (Z0 1 (.n 15 (Yw x1) .r) (iA [.i 0,.i 0,nl] ?_))
  intro b1
  refine Z0 1 (.n 7 (.i k) .r) (iS 0 b1 0 (Ys x1) [.i 0,.i 0,nl] (Ys x1) (ie (ar (Za 2 (.n 17 (Y8 x1.cons) .r) [0] [b1] (iw (Wc x1.cons) (YV 10 [(1,.i frm),(2,.i to_),(7,.i k),(8,.p b1 0),(9,Z3 ds),(10,.i ds.length),(11,.i k),(25,.b (((x1.cons.length:Int)==0)&&(x1.frm==frm)))] [.obj b1 (Ys x1)] ?_ (fun hj1=>?_)))))))
  ·refine Xl [(1,.i frm),(2,.i to_),(7,.i k),(9,Z3 ds),(10,.i ds.length),(11,.i k),(31,.b ((((x1.cons.length:Int)==0)&&(x1.frm==frm))&&(x1.to_==to_)))] [.obj b1 (Ys x1)] ?_ ?_
   ·refine ir 1 [(1,.i frm),(2,.i to_),(7,.i k),(8,.p b1 0),(9,Z3 ds),(10,.i ds.length),(11,.i k),(26,.b (((x1.cons.length:Int)==0)&&(x1.frm==frm)))] (ib (b:=(((x1.cons.length:Int)==0)&&(x1.frm==frm))) 26 (fun hb1=>?_) (fun hb1=>?_))
    ·have hp1:((x1.cons.length:Int)=0)/\(x1.frm=frm):=((ZZ Ze Ze)).1 hb1
     refine Za 5 (.n 31 (.b (x1.to_==to_)) (.d (.k (.k (.k (.d (.k (.k (.k .z))))))))) [0] [b1] (ie ?_)
     exact wk [0] (fq (fw (fc (x:=.b (x1.to_==to_)) (lb (by simp only [hb1];rfl)) fl)))
    have hp2:¬(((x1.cons.length:Int)=0)/\(x1.frm=frm)):=Zv (ZZ Ze Ze) hb1
    refine Z0 5 (.n 31 (.b false) (.d (.k (.k (.k (.d (.k (.k (.k .z))))))))) (ie ?_)
    exact wk [0] (fq (fw (fc (x:=.b false) (lb (by simp only [hb1];rfl)) fl)))
   refine ac ((((x1.cons.length:Int)==0)&&(x1.frm==frm))&&(x1.to_==to_)) (p:=(((x1.cons.length:Int)=0)/\(x1.frm=frm))/\(x1.to_=to_)) (ZZ (ZZ Ze Ze) Ze) (fun hc2=>?_) (fun hc2=>?_)
   ·refine ar (ir 1 [(32,.i k)] (ia (((k+1:Nat):Int)) (((k:Int))+(1)) (ir 1 [(6,.i (k+1:Nat))] (ie ?_))))
    rw [Zu hx1] at c0_1
    exact Z5 (r2 [] [.i (k+1:Nat)] ⟨rfl,rfl⟩ (li (by clear hx1;first|rfl|omega|grind [Tl])))
   refine ak (az (ia (((k+1:Nat):Int)) (((k:Int))+(1)) (ir 1 [(1,.i frm),(2,.i to_),(9,Z3 ds),(10,.i ds.length),(11,.i (k+1:Nat))] (ie ?_))))
   have hdr:=Zu hx1
   exact ⟨_,_,_,ob,⟨k+1,ob,(by rw [hdr] at c0_1;clear hdr hx1;grind [Tl]),rfl,rfl,rfl⟩,(wk [] (fq (fc (x:=.i (k+1:Nat)) li fl)))⟩
  refine ir 2 [(1,.i frm),(2,.i to_),(7,.i k),(8,.p b1 0),(9,Z3 ds),(10,.i ds.length),(11,.i k),(20,.b ((x1.cons.length:Int)==0))] (ib (b:=((x1.cons.length:Int)==0)) 20 (fun hb2=>?_) (fun hb2=>?_))
  ·have hp3:(x1.cons.length:Int)=0:=(Ze).1 hb2
   refine Za 5 (.n 25 (.b (x1.frm==frm)) (.d (.w (.k (.k (.k .z)))))) [0] [b1] ?_
   exact ZL (wk [0] (fq (fw (fr (fc (x:=.b (x1.frm==frm)) (lb (by simp only [hb2];rfl)) fl))))) hj1
  have hp4:¬((x1.cons.length:Int)=0):=Zv Ze hb2
  refine Z0 5 (.n 25 (.b false) (.d (.w (.k (.k (.k .z)))))) ?_
  exact ZL (wk [0] (fq (fw (fr (fc (x:=.b false) (lb (by simp only [hb2];rfl)) fl))))) hj1
 refine ax 0 (ar (ir 1 [(6,.i (-1))] (ie ?_)))
 try rw [Ye (xs:=ds) (k:=k) om] at c0_1
 exact Z5 (r2 [] [.i (-1)] ⟨rfl,rfl⟩ (li (by first|rfl|omega|grind [Tl])))
theorem Zrq (ds:List Decl) (hz:DSz ds:=by exact ob):Zd Tryz.prog 87 [Z3 ds] [] (fun r h=>r=.b (Xf ds)/\h=[]):=by
 have hzl:=hz.len
 refine enter Tryz.func87 kr (n:=106) kr kr (ar (ir 1 [(0,Z3 ds)] (ie (aq (ar (Z0 1 (.n 9 (Z3 ds) .r) (iw (Wv ds) (Z0 1 (.n 11 (.b (decide ((ds.length:Int)>4))) .r) (ie (ac (decide ((ds.length:Int)>4)) dq (fun hc1=>?_) (fun hc1=>?_)))))))))))
 ·refine ar (ir 1 [(2,.b false)] (ie ?_))
  exact Z5 (r2 [] [.b false] ⟨rfl,rfl⟩ (lb (by rw [Xf,decide_eq_false om];rfl)))
 refine ak (aq (ar (Z0 1 (.n 12 (Z3 ds) .r) (iw (Wv ds) (Z0 1 (.n 14 (.i 0) .r) (ie (ab 0 (al (fun m F h=>∃(k:Nat),(k<=ds.length)/\(VH ds (ds.drop k) k=VH ds ds 0)/\F=[(0,Z3 ds),(12,Z3 ds),(13,.i ds.length),(14,.i k)]/\h=[]/\m=ds.length-k) _ _ _ ⟨0,ob,rfl,rfl,rfl,rfl⟩ (wk [] (fw (fr (fc (x:=.i 0) li fl)))) ?_))))))))
 rintro m F h ⟨k,c0_0,c0_1,rfl,rfl,rfl⟩
 refine ar (Z0 1 (.n 15 (.b (decide ((k:Int)<(ds.length:Int)))) .r) (ie (aq (ac (decide ((k:Int)<(ds.length:Int))) dq (fun hc2=>?_) (fun hc2=>?_)))))
 ·refine ak (aq (ab 1 (ar (Z0 1 (.n 16 (.i k) .r) ?_))))
  obtain ⟨x1,hx1⟩:=Zl (xs:=ds) (j:=k) om
  have hz1:=hz.cons_at hx1
  refine Zf (Zj (es:=ZQ ds) (hv:=none) (j:=(k:Int)) (sz:=3) (y:=Yw x1) kr om (Wd hx1) rfl) (Z0 1 (.n 18 (Yw x1) .r) (iA [.i 0,.i 0,nl] ?_))
  intro b1
  refine Z0 1 (.n 3 (.i k) .r) (iS 0 b1 0 (Ys x1) [.i 0,.i 0,nl] (Ys x1) (ie (aq (ar (Za 3 (.n 19 (Z3 ds) (.n 21 (.i x1.frm) .r)) [0] [b1] (ic [] (Z4x ds x1.frm) ?_))))))
  rintro _ _ ⟨rfl,rfl⟩
  refine YV 12 [(0,Z3 ds),(3,.i k),(4,.p b1 0),(12,Z3 ds),(13,.i ds.length),(14,.i k),(30,.b ((!(decide (0<=x1.frm/\x1.frm<=ds.length)))||(!(decide (0<=x1.to_/\x1.to_<=ds.length)))))] [.obj b1 (Ys x1)] ?_ (fun hj1=>?_)
  ·refine YV 18 [(0,Z3 ds),(3,.i k),(4,.p b1 0),(12,Z3 ds),(13,.i ds.length),(14,.i k),(36,.b (((!(decide (0<=x1.frm/\x1.frm<=ds.length)))||(!(decide (0<=x1.to_/\x1.to_<=ds.length))))||(decide ((x1.cons.length:Int)>3))))] [.obj b1 (Ys x1)] ?_ (fun hj2=>?_)
   ·refine Xl [(0,Z3 ds),(3,.i k),(4,.p b1 0),(12,Z3 ds),(13,.i ds.length),(14,.i k),(52,.b ((((!(decide (0<=x1.frm/\x1.frm<=ds.length)))||(!(decide (0<=x1.to_/\x1.to_<=ds.length))))||(decide ((x1.cons.length:Int)>3)))||((decide ((x1.cons.length:Int)>0))&&((x1.frm != 0)||(x1.to_ != 0)))))] [.obj b1 (Ys x1)] ?_ ?_
    ·refine ir 1 [(0,Z3 ds),(3,.i k),(4,.p b1 0),(12,Z3 ds),(13,.i ds.length),(14,.i k),(37,.b (((!(decide (0<=x1.frm/\x1.frm<=ds.length)))||(!(decide (0<=x1.to_/\x1.to_<=ds.length))))||(decide ((x1.cons.length:Int)>3))))] (ib (b:=(((!(decide (0<=x1.frm/\x1.frm<=ds.length)))||(!(decide (0<=x1.to_/\x1.to_<=ds.length))))||(decide ((x1.cons.length:Int)>3)))) 37 (fun hb1=>?_) (fun hb1=>?_))
     ·have hp1:((¬(0<=x1.frm/\x1.frm<=ds.length))∨(¬(0<=x1.to_/\x1.to_<=ds.length)))∨((x1.cons.length:Int)>3):=((Zz (Zz (ZP dq) (ZP dq)) dq)).1 hb1
      refine Z0 15 (.n 52 (.b true) (.d (.w (.k (.k .z))))) (ie ?_)
      exact wk [0] (fq (fw (fc (x:=.b true) (lb (by simp only [hb1];rfl)) fl)))
     have hp2:¬(((¬(0<=x1.frm/\x1.frm<=ds.length))∨(¬(0<=x1.to_/\x1.to_<=ds.length)))∨((x1.cons.length:Int)>3)):=Zv (Zz (Zz (ZP dq) (ZP dq)) dq) hb1
     refine Za 2 (.n 39 (Y8 x1.cons) (.w (.k (.k (.k .z))))) [0] [b1] (iw (Wc x1.cons) (Z0 2 (.n 42 (.b (decide ((x1.cons.length:Int)>0))) .r) (ib (b:=(decide ((x1.cons.length:Int)>0))) 42 (fun hb2=>?_) (fun hb2=>?_))))
     ·have hp3:(x1.cons.length:Int)>0:=(dq).1 hb2
      refine Za 4 (.n 46 (.b (x1.frm != 0)) (.k (.d .r))) [0] [b1] (ib (b:=(x1.frm != 0)) 46 (fun hb3=>?_) (fun hb3=>?_))
      ·have hp4:x1.frm≠0:=(Zw).1 hb3
       refine Z0 6 (.n 52 (.b true) (.k (.d .r))) (ie ?_)
       exact wk [0] (fq (fw (fc (x:=.b true) (lb (by simp only [hb1,hb2,hb3];rfl)) fl)))
      have hp5:¬(x1.frm≠0):=Zv Zw hb3
      refine Za 6 (.n 52 (.b (x1.to_ != 0)) (.k (.d .r))) [0] [b1] (ie ?_)
      exact wk [0] (fq (fw (fc (x:=.b (x1.to_ != 0)) (lb (by simp only [hb1,hb2,hb3];rfl)) fl)))
     have hp6:¬((x1.cons.length:Int)>0):=Zv dq hb2
     refine Z0 10 (.n 52 (.b false) (.k (.d .r))) (ie ?_)
     exact wk [0] (fq (fw (fc (x:=.b false) (lb (by simp only [hb1,hb2];rfl)) fl)))
    refine ac ((((!(decide (0<=x1.frm/\x1.frm<=ds.length)))||(!(decide (0<=x1.to_/\x1.to_<=ds.length))))||(decide ((x1.cons.length:Int)>3)))||((decide ((x1.cons.length:Int)>0))&&((x1.frm != 0)||(x1.to_ != 0)))) (p:=(((¬(0<=x1.frm/\x1.frm<=ds.length))∨(¬(0<=x1.to_/\x1.to_<=ds.length)))∨((x1.cons.length:Int)>3))∨(((x1.cons.length:Int)>0)/\((x1.frm≠0)∨(x1.to_≠0)))) (Zz (Zz (Zz (ZP dq) (ZP dq)) dq) (ZZ dq (Zz Zw Zw))) (fun hc3=>?_) (fun hc3=>?_)
    ·refine ar (ir 1 [(2,.b false)] (ie ?_))
     exact Z5 (r2 [] [.b false] ⟨rfl,rfl⟩ (lb (Zbc hx1 (Zoj hc3) c0_1)))
    refine ak (aq (ar (iR 2 [(0,Z3 ds),(3,.i k),(4,.p b1 0),(12,Z3 ds),(13,.i ds.length),(14,.i k),(54,Y8 x1.cons)] [0] [b1] (iw (Wc x1.cons) (Z0 1 (.n 56 (.i 0) .r) (ie (ab 2 (al (fun m F h=>∃(q:Nat),(q<=x1.cons.length)/\(U8 ds.length (x1.cons.drop q)=U8 ds.length x1.cons)/\F=[(0,Z3 ds),(3,.i k),(4,.p b1 0),(12,Z3 ds),(13,.i ds.length),(14,.i k),(54,Y8 x1.cons),(55,.i x1.cons.length),(56,.i q)]/\h=[.obj b1 (Ys x1)]/\m=x1.cons.length-q) _ _ _ ⟨0,ob,rfl,rfl,rfl,rfl⟩ (wk [0] (fq (fq (fc (x:=.i 0) li fl)))) ?_))))))))
    rintro m F h ⟨q,c1_0,c1_1,rfl,rfl,rfl⟩
    refine ar (Z0 1 (.n 57 (.b (decide ((q:Int)<(x1.cons.length:Int)))) .r) (ie (aq (ac (decide ((q:Int)<(x1.cons.length:Int))) dq (fun hc4=>?_) (fun hc4=>?_)))))
    ·refine ak (aq (ab 3 (ar ?_)))
     obtain ⟨x2,hx2⟩:=Zl (xs:=x1.cons) (j:=q) om
     refine Zf (Zj (es:=YH x1.cons) (hv:=none) (j:=(q:Int)) (sz:=1) (y:=Wm x2) kr om (Qq hx2) rfl) (Z0 1 (.n 59 (Wm x2) .r) (iA [nl] ?_))
     intro b2
     refine iS 0 b2 0 (UP x2) [nl] (UP x2) (ie (ar (Za 2 (.n 61 (Z1 x2.fields) .r) [0] [b2] (iw (ZD x2.fields) (Xl [(0,Z3 ds),(3,.i k),(4,.p b1 0),(12,Z3 ds),(13,.i ds.length),(14,.i k),(54,Y8 x1.cons),(55,.i x1.cons.length),(56,.i q),(70,.b ((decide ((x2.fields.length:Int)>3))||(!YK ds.length x2.fields)))] [.obj b2 (UP x2),.obj b1 (Ys x1)] ?_ ?_)))))
     ·refine ir 2 [(0,Z3 ds),(3,.i k),(4,.p b1 0),(6,.p b2 0),(12,Z3 ds),(13,.i ds.length),(14,.i k),(54,Y8 x1.cons),(55,.i x1.cons.length),(56,.i q),(64,.b (decide ((x2.fields.length:Int)>3)))] (ib (b:=(decide ((x2.fields.length:Int)>3))) 64 (fun hb4=>?_) (fun hb4=>?_))
      ·have hp7:(x2.fields.length:Int)>3:=(dq).1 hb4
       refine Z0 6 (.n 70 (.b true) (.d (.k (.k (.k (.d (.w (.k (.k .z))))))))) (ie ?_)
       exact wk [0,0] (fq (fq (fr (fc (x:=.b true) (lb (by simp only [hb4];rfl)) fl))))
      have hp8:¬((x2.fields.length:Int)>3):=Zv dq hb4
      refine Za 3 (.n 65 (Z3 ds) (.n 67 (Z1 x2.fields) (.w (.d (.w (.k (.k .z))))))) [0] [b2] (ic [] (Zfu ds x2.fields) ?_)
      rintro _ _ ⟨rfl,rfl⟩
      refine Z0 2 (.n 70 (.b (!YK ds.length x2.fields)) .r) (ie ?_)
      exact wk [0,0] (fq (fq (fr (fc (x:=.b (!YK ds.length x2.fields)) (lb (by simp only [hb4];rfl)) fl))))
     refine ac ((decide ((x2.fields.length:Int)>3))||(!YK ds.length x2.fields)) (p:=((x2.fields.length:Int)>3)∨(¬(YK ds.length x2.fields=true))) (Zz dq (ZP Iff.rfl)) (fun hc5=>?_) (fun hc5=>?_)
     ·refine ar (ir 1 [(2,.b false)] (ie ?_))
      exact Z5 (r2 [] [.b false] ⟨rfl,rfl⟩ (lb (Zbc hx1 (Zok om (by rw [<-c1_1,Zu hx2,U8,Z4 (by rw [Znu hc5];simp)])) c0_1)))
     refine ak (az (ia (((q+1:Nat):Int)) (((q:Int))+(1)) (ir 1 [(0,Z3 ds),(3,.i k),(4,.p b1 0),(12,Z3 ds),(13,.i ds.length),(14,.i k),(54,Y8 x1.cons),(55,.i x1.cons.length),(56,.i (q+1:Nat))] (ie ?_))))
     have hdr:=Zu hx2
     exact ⟨_,_,_,ob,⟨q+1,ob,(by rw [Zu hx2,U8,Z8 (Znv hc5)] at c1_1;exact c1_1),rfl,rfl,rfl⟩,(wk [1] (fq (fq (fc (x:=.i (q+1:Nat)) li fl))))⟩
    have hC:U8 ds.length x1.cons=true:=by rw [<-c1_1,Ye om];rfl
    refine ax 2 (ar (Z0 2 (.n 72 (Z3 ds) (.n 73 (.i k) .r)) (Zf (Z33 (es:=ZQ ds) (hv:=none) (l:=0) (m:=(k:Int)) (sz:=3) (es':=ZQ (ds.take k)) kr om (by simp<;>omega) (by simp<;>omega) (Z0n _) (by first|(simp only [Te,Qh,Z0o,Z0m];done)|(simp only [Te,Qh,Z0o,Z0m];rfl)|(simp [Z0o,Z0m];done))) (io (.i (((ds.take k).length:Nat):Int)) (.i (((ZQ (ds.take k)).length:Nat):Int)) (li (by rw [Wv])) (Z0 1 (.n 76 (.i 0) .r) (ie (ab 4 (al (fun m F h=>∃(j:Nat),(j<=k)/\(x1.cons.length=0->T5 x1 ((ds.take k).drop j)=T5 x1 (ds.take k))/\F=[(0,Z3 ds),(4,.p b1 0),(12,Z3 ds),(13,.i ds.length),(14,.i k),(74,Z3 (ds.take k)),(75,.i (((ds.take k).length:Nat):Int)),(76,.i j)]/\h=[.obj b1 (Ys x1)]/\m=k-j) _ _ _ ⟨0,ob,ob,rfl,rfl,rfl⟩ (wk [0] (fq (fw (fr (fc (x:=.i 0) li fl))))) ?_))))))))
    rintro m F h ⟨j,c2_0,c2_1,rfl,rfl,rfl⟩
    refine ar (Z0 1 (.n 77 (.b (decide ((j:Int)<(((ds.take k).length:Nat):Int)))) .r) (ie (aq (ac (decide ((j:Int)<(((ds.take k).length:Nat):Int))) dq (fun hc6=>?_) (fun hc6=>?_)))))
    ·have htl:(ds.take k).length<=k:=by rw [TL];omega
     refine ak (aq (ab 5 (ar ?_)))
     obtain ⟨x3,hx3⟩:=Zl (xs:=(ds.take k)) (j:=j) om
     refine Zf (Zj (es:=ZQ (ds.take k)) (hv:=none) (j:=(j:Int)) (sz:=3) (y:=Yw x3) kr om (Wd hx3) rfl) (Z0 1 (.n 79 (Yw x3) .r) (iA [.i 0,.i 0,nl] ?_))
     intro b3
     refine iS 0 b3 0 (Ys x3) [.i 0,.i 0,nl] (Ys x3) (ie (ar (Za 2 (.n 81 (Y8 x1.cons) .r) [1] [b1] (iw (Wc x1.cons) (YV 10 [(0,Z3 ds),(4,.p b1 0),(8,.p b3 0),(12,Z3 ds),(13,.i ds.length),(14,.i k),(74,Z3 (ds.take k)),(75,.i (((ds.take k).length:Nat):Int)),(76,.i j),(89,.b (((x1.cons.length:Int)==0)&&((x3.cons.length:Int)==0)))] [.obj b3 (Ys x3),.obj b1 (Ys x1)] ?_ (fun hj3=>?_))))))
     ·refine YV 17 [(0,Z3 ds),(4,.p b1 0),(8,.p b3 0),(12,Z3 ds),(13,.i ds.length),(14,.i k),(74,Z3 (ds.take k)),(75,.i (((ds.take k).length:Nat):Int)),(76,.i j),(96,.b ((((x1.cons.length:Int)==0)&&((x3.cons.length:Int)==0))&&(x3.frm==x1.frm)))] [.obj b3 (Ys x3),.obj b1 (Ys x1)] ?_ (fun hj4=>?_)
      ·refine Xl [(0,Z3 ds),(4,.p b1 0),(12,Z3 ds),(13,.i ds.length),(14,.i k),(74,Z3 (ds.take k)),(75,.i (((ds.take k).length:Nat):Int)),(76,.i j),(103,.b (((((x1.cons.length:Int)==0)&&((x3.cons.length:Int)==0))&&(x3.frm==x1.frm))&&(x3.to_==x1.to_)))] [.obj b3 (Ys x3),.obj b1 (Ys x1)] ?_ ?_
       ·refine ir 1 [(0,Z3 ds),(4,.p b1 0),(8,.p b3 0),(12,Z3 ds),(13,.i ds.length),(14,.i k),(74,Z3 (ds.take k)),(75,.i (((ds.take k).length:Nat):Int)),(76,.i j),(97,.b ((((x1.cons.length:Int)==0)&&((x3.cons.length:Int)==0))&&(x3.frm==x1.frm)))] (ib (b:=((((x1.cons.length:Int)==0)&&((x3.cons.length:Int)==0))&&(x3.frm==x1.frm))) 97 (fun hb5=>?_) (fun hb5=>?_))
        ·have hp9:(((x1.cons.length:Int)=0)/\((x3.cons.length:Int)=0))/\(x3.frm=x1.frm):=((ZZ (ZZ Ze Ze) Ze)).1 hb5
         refine Za 6 (.n 103 (.b (x3.to_==x1.to_)) (.d (.k (.k (.d (.w (.k (.k .z)))))))) [0,1] [b3,b1] (ie ?_)
         exact wk [0,0] (fq (fq (fc (x:=.b (x3.to_==x1.to_)) (lb (by simp only [hb5];rfl)) fl)))
        have hp10:¬((((x1.cons.length:Int)=0)/\((x3.cons.length:Int)=0))/\(x3.frm=x1.frm)):=Zv (ZZ (ZZ Ze Ze) Ze) hb5
        refine Z0 6 (.n 103 (.b false) (.d (.k (.k (.d (.w (.k (.k .z)))))))) (ie ?_)
        exact wk [0,0] (fq (fq (fc (x:=.b false) (lb (by simp only [hb5];rfl)) fl)))
       refine ac (((((x1.cons.length:Int)==0)&&((x3.cons.length:Int)==0))&&(x3.frm==x1.frm))&&(x3.to_==x1.to_)) (p:=((((x1.cons.length:Int)=0)/\((x3.cons.length:Int)=0))/\(x3.frm=x1.frm))/\(x3.to_=x1.to_)) (ZZ (ZZ (ZZ Ze Ze) Ze) Ze) (fun hc7=>?_) (fun hc7=>?_)
       ·refine ar (ir 1 [(2,.b false)] (ie ?_))
        exact Z5 (r2 [] [.b false] ⟨rfl,rfl⟩ (lb (Zbc hx1 (Zol om (by rw [<-c2_1 om,Zu hx3,T5,Z8 om])) c0_1)))
       refine ak (az (ia (((j+1:Nat):Int)) (((j:Int))+(1)) (ir 1 [(0,Z3 ds),(4,.p b1 0),(12,Z3 ds),(13,.i ds.length),(14,.i k),(74,Z3 (ds.take k)),(75,.i (((ds.take k).length:Nat):Int)),(76,.i (j+1:Nat))] (ie ?_))))
       exact ⟨_,_,_,ob,⟨j+1,ob,(fun q=>by have hq:=c2_1 q;rw [Zu hx3,T5,Z4 om] at hq;exact hq),rfl,rfl,rfl⟩,(wk [1] (fq (fw (fr (fc (x:=.i (j+1:Nat)) li fl)))))⟩
      refine ir 1 [(0,Z3 ds),(4,.p b1 0),(8,.p b3 0),(12,Z3 ds),(13,.i ds.length),(14,.i k),(74,Z3 (ds.take k)),(75,.i (((ds.take k).length:Nat):Int)),(76,.i j),(90,.b (((x1.cons.length:Int)==0)&&((x3.cons.length:Int)==0)))] (ib (b:=(((x1.cons.length:Int)==0)&&((x3.cons.length:Int)==0))) 90 (fun hb6=>?_) (fun hb6=>?_))
      ·have hp11:((x1.cons.length:Int)=0)/\((x3.cons.length:Int)=0):=((ZZ Ze Ze)).1 hb6
       refine Za 6 (.n 96 (.b (x3.frm==x1.frm)) (.d (.w (.w (.k .z))))) [0,1] [b3,b1] ?_
       exact ZL (wk [0,0] (fq (fq (fr (fc (x:=.b (x3.frm==x1.frm)) (lb (by simp only [hb6];rfl)) fl))))) hj4
      have hp12:¬(((x1.cons.length:Int)=0)/\((x3.cons.length:Int)=0)):=Zv (ZZ Ze Ze) hb6
      refine Z0 6 (.n 96 (.b false) (.d (.w (.w (.k .z))))) ?_
      exact ZL (wk [0,0] (fq (fq (fr (fc (x:=.b false) (lb (by simp only [hb6];rfl)) fl))))) hj4
     refine ir 2 [(0,Z3 ds),(4,.p b1 0),(8,.p b3 0),(12,Z3 ds),(13,.i ds.length),(14,.i k),(74,Z3 (ds.take k)),(75,.i (((ds.take k).length:Nat):Int)),(76,.i j),(84,.b ((x1.cons.length:Int)==0))] (ib (b:=((x1.cons.length:Int)==0)) 84 (fun hb7=>?_) (fun hb7=>?_))
     ·have hp13:(x1.cons.length:Int)=0:=(Ze).1 hb7
      refine Za 2 (.n 86 (Y8 x3.cons) (.w (.w (.k (.k .z))))) [0] [b3] (iw (Wc x3.cons) (Z0 2 (.n 89 (.b ((x3.cons.length:Int)==0)) .r) ?_))
      exact ZL (wk [0,0] (fq (fq (fr (fc (x:=.b ((x3.cons.length:Int)==0)) (lb (by simp only [hb7];rfl)) fl))))) hj3
     have hp14:¬((x1.cons.length:Int)=0):=Zv Ze hb7
     refine Z0 5 (.n 89 (.b false) (.d (.w (.w (.k .z))))) ?_
     exact ZL (wk [0,0] (fq (fq (fr (fc (x:=.b false) (lb (by simp only [hb7];rfl)) fl))))) hj3
    have htl:(ds.take k).length=k:=by rw [TL];omega
    have hD:x1.cons.length=0->T5 x1 (ds.take k)=false:=fun q=>by rw [<-c2_1 q,Ye om];rfl
    refine ax 4 (az (ia (((k+1:Nat):Int)) (((k:Int))+(1)) (Z0 1 (.n 14 (.i (k+1:Nat)) (.p (.d (.k (.d (.k (.k .z))))))) (ie ?_))))
    have hdr:=Zu hx1
    exact ⟨_,_,_,ob,⟨k+1,ob,(Y0s hx1 (Zom hc3 hC hD) c0_1),rfl,rfl,rfl⟩,(wk [] (fw (fr (fc (x:=.i (k+1:Nat)) li fl))))⟩
   refine ir 1 [(0,Z3 ds),(3,.i k),(4,.p b1 0),(12,Z3 ds),(13,.i ds.length),(14,.i k),(31,.b ((!(decide (0<=x1.frm/\x1.frm<=ds.length)))||(!(decide (0<=x1.to_/\x1.to_<=ds.length)))))] (ib (b:=((!(decide (0<=x1.frm/\x1.frm<=ds.length)))||(!(decide (0<=x1.to_/\x1.to_<=ds.length))))) 31 (fun hb8=>?_) (fun hb8=>?_))
   ·have hp15:(¬(0<=x1.frm/\x1.frm<=ds.length))∨(¬(0<=x1.to_/\x1.to_<=ds.length)):=((Zz (ZP dq) (ZP dq))).1 hb8
    refine Z0 5 (.n 36 (.b true) (.d (.w (.k (.k .z))))) ?_
    exact ZL (wk [0] (fq (fw (fc (x:=.b true) (lb (by simp only [hb8];rfl)) fl)))) hj2
   have hp16:¬((¬(0<=x1.frm/\x1.frm<=ds.length))∨(¬(0<=x1.to_/\x1.to_<=ds.length))):=Zv (Zz (ZP dq) (ZP dq)) hb8
   refine Za 2 (.n 33 (Y8 x1.cons) (.w (.k (.k (.k .z))))) [0] [b1] (iw (Wc x1.cons) (Z0 2 (.n 36 (.b (decide ((x1.cons.length:Int)>3))) .r) ?_))
   exact ZL (wk [0] (fq (fw (fc (x:=.b (decide ((x1.cons.length:Int)>3))) (lb (by simp only [hb8];rfl)) fl)))) hj2
  refine ir 2 [(0,Z3 ds),(3,.i k),(4,.p b1 0),(12,Z3 ds),(13,.i ds.length),(14,.i k),(24,.b (!(decide (0<=x1.frm/\x1.frm<=ds.length))))] (ib (b:=(!(decide (0<=x1.frm/\x1.frm<=ds.length)))) 24 (fun hb9=>?_) (fun hb9=>?_))
  ·have hp17:¬(0<=x1.frm/\x1.frm<=ds.length):=((ZP dq)).1 hb9
   refine Z0 6 (.n 30 (.b true) (.d (.w (.k (.k .z))))) ?_
   exact ZL (wk [0] (fq (fw (fc (x:=.b true) (lb (by simp only [hb9];rfl)) fl)))) hj1
  have hp18:¬(¬(0<=x1.frm/\x1.frm<=ds.length)):=Zv (ZP dq) hb9
  refine Za 3 (.n 25 (Z3 ds) (.n 27 (.i x1.to_) (.w (.k (.k (.k .z)))))) [0] [b1] (ic [] (Z4x ds x1.to_) ?_)
  rintro _ _ ⟨rfl,rfl⟩
  refine Z0 2 (.n 30 (.b (!(decide (0<=x1.to_/\x1.to_<=ds.length)))) .r) ?_
  exact ZL (wk [0] (fq (fw (fc (x:=.b (!(decide (0<=x1.to_/\x1.to_<=ds.length)))) (lb (by simp only [hb9];rfl)) fl)))) hj1
 refine ax 0 (ar (ir 1 [(2,.b true)] (ie ?_)))
 exact Z5 (r2 [] [.b true] ⟨rfl,rfl⟩ (lb (Y0r om om c0_1)))
theorem Z4w (op:Int) :Zd Tryz.prog 54 [.i op] [] (fun r h=>r=.b (Y2 op)/\h=[]):=by
 refine enter Tryz.func54 kr (n:=9) kr kr (ar (ir 1 [(0,.i op)] (ie (ar (YV 6 [(8,.b ((decide (op>=14))&&(decide (op<=17))))] [] ?_ (fun hj1=>?_))))))
 ·refine ir 1 [(2,.b ((decide (op>=14))&&(decide (op<=17))))] (ie ?_)
  exact Z5 (r2 [] [.b ((decide (op>=14))&&(decide (op<=17)))] ⟨rfl,rfl⟩ (lb (by rw [Y2,YW];simp)))
 refine ir 3 [(0,.i op),(5,.b (decide (op>=14)))] (ib (b:=(decide (op>=14))) 5 (fun hb1=>?_) (fun hb1=>?_))
 ·have hp1:op>=14:=(dq).1 hb1
  refine ir 3 [(8,.b (decide (op<=17)))] ?_
  exact ZL (wk [] (fc (x:=.b (decide (op<=17))) (lb (by simp only [hb1];rfl)) fl)) hj1
 have hp2:¬(op>=14):=Zv dq hb1
 refine ir 3 [(8,.b false)] ?_
 exact ZL (wk [] (fc (x:=.b false) (lb (by simp only [hb1];rfl)) fl)) hj1
theorem Zfy (op:Int) :Zd Tryz.prog 152 [.i op] [] (fun r h=>r=.b (VW op)/\h=[]):=by
 refine enter Tryz.func152 kr (n:=17) kr kr (ar (ir 1 [(0,.i op)] (ie (ar (YV 6 [(0,.i op),(8,.b ((op==6)||(op==9)))] [] ?_ (fun hj1=>?_))))))
 ·refine YV 10 [(0,.i op),(12,.b (((op==6)||(op==9))||(op==10)))] [] ?_ (fun hj2=>?_)
  ·refine YV 14 [(16,.b ((((op==6)||(op==9))||(op==10))||(op==11)))] [] ?_ (fun hj3=>?_)
   ·refine ir 1 [(2,.b ((((op==6)||(op==9))||(op==10))||(op==11)))] (ie ?_)
    exact Z5 (r2 [] [.b ((((op==6)||(op==9))||(op==10))||(op==11))] ⟨rfl,rfl⟩ (lb (by first|rfl|omega|grind [VW])))
   refine ir 1 [(0,.i op),(13,.b (((op==6)||(op==9))||(op==10)))] (ib (b:=(((op==6)||(op==9))||(op==10))) 13 (fun hb1=>?_) (fun hb1=>?_))
   ·have hp1:((op=6)∨(op=9))∨(op=10):=((Zz (Zz Ze Ze) Ze)).1 hb1
    refine ir 3 [(16,.b true)] ?_
    exact ZL (wk [] (fc (x:=.b true) (lb (by simp only [hb1];rfl)) fl)) hj3
   have hp2:¬(((op=6)∨(op=9))∨(op=10)):=Zv (Zz (Zz Ze Ze) Ze) hb1
   refine ir 3 [(16,.b (op==11))] ?_
   exact ZL (wk [] (fc (x:=.b (op==11)) (lb (by simp only [hb1];rfl)) fl)) hj3
  refine ir 1 [(0,.i op),(9,.b ((op==6)||(op==9)))] (ib (b:=((op==6)||(op==9))) 9 (fun hb2=>?_) (fun hb2=>?_))
  ·have hp3:(op=6)∨(op=9):=((Zz Ze Ze)).1 hb2
   refine ir 3 [(0,.i op),(12,.b true)] ?_
   exact ZL (wk [] (fr (fc (x:=.b true) (lb (by simp only [hb2];rfl)) fl))) hj2
  have hp4:¬((op=6)∨(op=9)):=Zv (Zz Ze Ze) hb2
  refine ir 3 [(0,.i op),(12,.b (op==10))] ?_
  exact ZL (wk [] (fr (fc (x:=.b (op==10)) (lb (by simp only [hb2];rfl)) fl))) hj2
 refine ir 3 [(0,.i op),(5,.b (op==6))] (ib (b:=(op==6)) 5 (fun hb3=>?_) (fun hb3=>?_))
 ·have hp5:op=6:=(Ze).1 hb3
  refine ir 3 [(0,.i op),(8,.b true)] ?_
  exact ZL (wk [] (fr (fc (x:=.b true) (lb (by simp only [hb3];rfl)) fl))) hj1
 have hp6:¬(op=6):=Zv Ze hb3
 refine ir 3 [(0,.i op),(8,.b (op==9))] ?_
 exact ZL (wk [] (fr (fc (x:=.b (op==9)) (lb (by simp only [hb3];rfl)) fl))) hj1
theorem Zs1 (b:Block) (c:Nat) (v:Int) (hb:b.sz<=1000000000:=by exact ob) (hv:0<=v/\v<=600:=by exact ob) (ih:∀(b2:Block) (c:Nat) (v:Int),(b2.sz<b.sz)->(0<=v/\v<=600)->Zd Tryz.prog 118 [Zx b2,.p c 0] [.obj c [.i v]] (fun r h=>(r=.b true/\h=[.obj c [.i (600-X4 b2 (600-v))]]/\0<=X4 b2 (600-v))∨(r=.b false/\h=[]/\X4 b2 (600-v)<0))):Zd Tryz.prog 118 [Zx b,.p c 0] [.obj c [.i v]] (fun r h=>(r=.b true/\h=[.obj c [.i (600-X4 b (600-v))]]/\0<=X4 b (600-v))∨(r=.b false/\h=[]/\X4 b (600-v)<0)):=by
 have hbz:=Z02 b
 have hbe:=Zgs b (600-v)
 refine enter Tryz.func118 kr (n:=38) kr kr (ar (iA (YY b) ?_))
 intro b1
 refine ir 1 [(1,.p c 0),(2,.p b1 0)] (ie (aq (ar (Za 2 (.n 10 (ZX b.steps) .r) [0] [b1] (iw (UK b.steps) (Z0 1 (.n 12 (.i 0) .r) (ie (ab 0 (al (fun m F h=>∃(k:Nat) (q:Int),(k<=b.steps.length)/\(0<=q/\q<=600)/\(Ul (b.steps.drop k) (600-q)=Ul b.steps (600-v))/\F=[(1,.p c 0),(10,ZX b.steps),(11,.i b.steps.length),(12,.i k)]/\h=[.obj c [.i q]]/\m=b.steps.length-k) _ _ _ ⟨0,v,ob,ob,rfl,rfl,rfl,rfl⟩ (wk [1] (fw (fr (fc (x:=.i 0) li fl)))) ?_)))))))))
 rintro m F h ⟨k,q,c0_0,c0_1,c0_2,rfl,rfl,rfl⟩
 refine ar (Z0 1 (.n 13 (.b (decide ((k:Int)<(b.steps.length:Int)))) .r) (ie (aq (ac (decide ((k:Int)<(b.steps.length:Int))) dq (fun hc1=>?_) (fun hc1=>?_)))))
 ·refine ak (aq (ab 1 (ar ?_)))
  obtain ⟨x1,hx1⟩:=Zl (xs:=b.steps) (j:=k) om
  have hss:=Zb4 hx1
  have hkz:=UO x1
  refine Zf (Zj (es:=Wg b.steps) (hv:=none) (j:=(k:Int)) (sz:=5) (y:=ZN x1) kr om (T6 hx1) rfl) (Z0 1 (.n 15 (ZN x1) .r) (iA [.i 0,.i 0,.i 0,nl,nl] ?_))
  intro b2
  refine iS 0 b2 0 (ZE x1) [.i 0,.i 0,.i 0,nl,nl] (ZE x1) (ie (aq (ar (Za 3 (.n 16 (.p c 0) (.n 18 (.i q) .r)) [1] [c] (ia ((q+1)) ((q)+(1)) (Z0 1 (.n 20 (.p c 0) .r) (iS 1 c 0 [.i (q+1)] [.i q] [.i (q+1)] (ie (ar (Za 4 (.n 24 (.b (decide ((q+1)>600))) .r) [0] [c] (ie (ac (decide ((q+1)>600)) dq (fun hc2=>?_) (fun hc2=>?_)))))))))))))
  ·refine ar (ir 1 [(4,.b false)] (ie ?_))
   exact Z5 (r1 [] (.inr ⟨rfl,rfl,(by rw [hbe,<-c0_2,Zu hx1,Ul,Z8 om];omega)⟩))
  refine ak (ar (Za 2 (.n 26 (ZT x1.kids) .r) [1] [b2] (iw (VJ x1.kids) (Z0 1 (.n 28 (.i 0) .r) (ie (ab 2 (al (fun m F h=>∃(j:Nat) (j2:Int),(j<=x1.kids.length)/\(0<=j2/\j2<=600)/\(UB (x1.kids.drop j) (600-j2)=UB x1.kids (600-(q+1)))/\F=[(1,.p c 0),(10,ZX b.steps),(11,.i b.steps.length),(12,.i k),(26,ZT x1.kids),(27,.i x1.kids.length),(28,.i j)]/\h=[.obj c [.i j2]]/\m=x1.kids.length-j) _ _ _ ⟨0,(q+1),ob,ob,rfl,rfl,rfl,rfl⟩ (wk [0] (fq (fw (fc (x:=.i 0) li fl)))) ?_)))))))
  rintro m F h ⟨j,j2,c1_0,c1_1,c1_2,rfl,rfl,rfl⟩
  refine ar (Z0 1 (.n 29 (.b (decide ((j:Int)<(x1.kids.length:Int)))) .r) (ie (aq (ac (decide ((j:Int)<(x1.kids.length:Int))) dq (fun hc3=>?_) (fun hc3=>?_)))))
  ·refine ak (aq (ab 3 (ar ?_)))
   obtain ⟨x2,hx2⟩:=Zl (xs:=x1.kids) (j:=j) om
   have hks:=UN hx2
   have hle:=Z95.2 x2 (600-j2) om
   refine Zf (Zj (es:=Xw x1.kids) (hv:=none) (j:=(j:Int)) (sz:=2) (y:=Zx x2) kr om (WY hx2) rfl) (Z0 1 (.n 31 (Zx x2) .r) (iA [nl,.i 0] ?_))
   intro b3
   refine iS 0 b3 0 (YY x2) [nl,.i 0] (YY x2) (ie (ar (Za 2 (.n 32 (Zx x2) (.n 33 (.p c 0) .r)) [0] [b3] (ic [1] (ih x2 c j2 ob ob) ?_))))
   rintro _ _ (⟨rfl,rfl,hp1⟩|⟨rfl,rfl,hp2⟩)
   ·refine Z0 1 (.n 35 (.b false) .r) (ie (YA (ak (az (ia (((j+1:Nat):Int)) (((j:Int))+(1)) (Z0 1 (.n 28 (.i (j+1:Nat)) (.p (.d (.p (.d (.d (.p (.d (.p (.d (.w (.k (.k .z))))))))))))) (ie ?_)))))))
    have hdr:=Zu hx2
    exact ⟨_,_,_,ob,⟨j+1,(600-X4 x2 (600-j2)),ob,ob,(by rw [Zu hx2,UB,Z4 om] at c1_2;rw [show 600-(600-X4 x2 (600-j2))=X4 x2 (600-j2) by omega];exact c1_2),rfl,rfl,rfl⟩,(wk [0] (fq (fw (fc (x:=.i (j+1:Nat)) li fl))))⟩
   refine Z0 1 (.n 35 (.b true) .r) (ie (X8 (ar (ir 1 [(4,.b false)] (ie ?_)))))
   exact Z5 (r1 [] (.inr ⟨rfl,rfl,(by rw [hbe,<-c0_2,Zu hx1,Ul,Z4 om,Z8 (by rw [Z56,show (600-q-1:Int)=600-(q+1) by omega,<-c1_2,Zu hx2,UB,Z8 hp2];omega)];omega)⟩))
  have hE:UB x1.kids (600-(q+1))=600-j2:=by rw [<-c1_2,Ye om,UB]
  refine ax 2 (az (ia (((k+1:Nat):Int)) (((k:Int))+(1)) (Z0 1 (.n 12 (.i (k+1:Nat)) (.p (.d (.k (.k (.k .z)))))) (ie ?_))))
  have hdr:=Zu hx1
  exact ⟨_,_,_,ob,⟨k+1,j2,ob,ob,(by rw [Zu hx1,Ul,Z4 om,Z56,show (600-q-1:Int)=600-(q+1) by omega,hE,Z4 om] at c0_2;exact c0_2),rfl,rfl,rfl⟩,(wk [0] (fw (fr (fc (x:=.i (k+1:Nat)) li fl))))⟩
 refine ax 0 (ar (ir 1 [(4,.b true)] (ie ?_)))
 have hF:X4 b (600-v)=600-q:=by rw [hbe,<-c0_2,Ye om,Ul]
 exact Z5 (r1 [0] (.inl ⟨rfl,rfl,om⟩) (eq:=(ro (ls:=[.i q]) (by rw [hF,show (600-(600-q):Int)=q by omega]) rz)))
theorem Zs0:∀(b:Block) (c:Nat) (v:Int),(b.sz<=1000000000)->(0<=v/\v<=600)->Zd Tryz.prog 118 [Zx b,.p c 0] [.obj c [.i v]] (fun r h=>(r=.b true/\h=[.obj c [.i (600-X4 b (600-v))]]/\0<=X4 b (600-v))∨(r=.b false/\h=[]/\X4 b (600-v)<0)):=by
 have key:∀m:Nat,∀(b:Block) (c:Nat) (v:Int),(b.sz<=m)->(b.sz<=1000000000)->(0<=v/\v<=600)->Zd Tryz.prog 118 [Zx b,.p c 0] [.obj c [.i v]] (fun r h=>(r=.b true/\h=[.obj c [.i (600-X4 b (600-v))]]/\0<=X4 b (600-v))∨(r=.b false/\h=[]/\X4 b (600-v)<0)):=by
  intro m
  induction m with
  | zero=>intro b c v h;have:=b.sz_pos;omega
  | succ m ih=>intro b c v h1 h2 h3;exact Zs1 b c v h2 h3 fun b2 c2 v2 k1 k2=>ih b2 c2 v2 om om k2
 intro b c v h2 h3
 exact key b.sz b c v (Yp _) h2 h3
theorem Zro (b:Block) (hb:b.sz<=1000000000:=by exact ob):Zd Tryz.prog 82 [Zx b] [] (fun r h=>r=.i (Vl b)/\h=[]):=by
 refine enter Tryz.func82 kr (n:=8) kr kr (ar (iA (YY b) ?_))
 intro b1
 refine ir 1 [(1,.p b1 0)] (ie (ar (iA [.i 0] ?_)))
 intro b2
 refine iS 0 b2 0 [.i 0] [.i 0] [.i 0] (ie (aq (ar (Za 1 (.n 4 (Zx b) .r) [1] [b1] (ic [0] (Zs0 b b2 0 ob ob) ?_)))))
 rintro _ _ (⟨rfl,rfl,hp1⟩|⟨rfl,rfl,hp2⟩)
 ·have h0:=hp1
  rw [show (600-0:Int)=600 from rfl] at h0
  refine Z0 1 (.n 6 (.b false) .r) (ie (YA (ak (ar (iR 2 [(2,.i (600-X4 b (600-0)))] [0] [b2] (ie ?_))))))
  exact Z5 (r2 [] [.i (600-X4 b (600-0))] ⟨rfl,rfl⟩ (li (by rw [show (600-0:Int)=600 from rfl,Vl,Z4 om])))
 have h0:=hp2
 rw [show (600-0:Int)=600 from rfl] at h0
 refine Z0 1 (.n 6 (.b true) .r) (ie (X8 (ar (ir 1 [(2,.i (-1))] (ie ?_)))))
 exact Z5 (r2 [] [.i (-1)] ⟨rfl,rfl⟩ (li (by rw [Vl,Z8 h0])))
theorem Zsa (ds:List Decl) (fs:List Sg3) (hz:DSz ds:=by exact ob) (hf:∀f∈fs,f.pms.length<=4194304/\f.lnt.length<=4194304) (hfl:fs.length<=4194304:=by exact ob):Zd Tryz.prog 47 [Z3 ds,Wi fs] [] (fun r h=>r=.b (TI ds fs)/\h=[]):=by
 have hzl:=hz.len
 refine enter Tryz.func47 kr (n:=102) kr kr (ar (ir 1 [(0,Z3 ds),(1,Wi fs)] (ie (aq (ar (Z0 1 (.n 9 (Z3 ds) .r) (ic [] (Zrq ds) ?_)))))))
 rintro _ _ ⟨rfl,rfl⟩
 refine YV 8 [(0,Z3 ds),(1,Wi fs),(16,.b ((!Xf ds)||(decide ((fs.length:Int)<1))))] [] ?_ (fun hj1=>?_)
 ·refine YV 13 [(0,Z3 ds),(1,Wi fs),(21,.b (((!Xf ds)||(decide ((fs.length:Int)<1)))||(decide ((fs.length:Int)>4))))] [] ?_ (fun hj2=>?_)
  ·refine ir 1 [(0,Z3 ds),(1,Wi fs),(22,.b (((!Xf ds)||(decide ((fs.length:Int)<1)))||(decide ((fs.length:Int)>4))))] (ib (b:=(((!Xf ds)||(decide ((fs.length:Int)<1)))||(decide ((fs.length:Int)>4)))) 22 (fun hb1=>?_) (fun hb1=>?_))
   ·have hp1:((¬(Xf ds=true))∨((fs.length:Int)<1))∨((fs.length:Int)>4):=((Zz (Zz (ZP Iff.rfl) dq) dq)).1 hb1
    refine Z0 14 (.n 36 (.b true) (.d (.k (.k .z)))) (ie (X8 (ar (ir 1 [(4,.b false)] (ie ?_)))))
    exact Z5 (r2 [] [.b false] ⟨rfl,rfl⟩ (lb (Y0y (by assumption))))
   have hp2:¬(((¬(Xf ds=true))∨((fs.length:Int)<1))∨((fs.length:Int)>4)):=Zv (Zz (Zz (ZP Iff.rfl) dq) dq) hb1
   refine Z0 1 (.n 23 (Wi fs) (.k (.k (.k .z)))) ?_
   obtain ⟨x1,hx1⟩:=Zl (xs:=fs) (j:=0) om
   refine Zf (Zj (es:=WL fs) (hv:=none) (j:=0) (sz:=3) (y:=QE x1) kr om (JL hx1) rfl) (Z0 2 (.n 26 (Z1 x1.pms) .r) (iw (ZD x1.pms) (Z0 3 (.n 30 (.b (decide ((x1.pms.length:Int)>0))) .r) (ib (b:=(decide ((x1.pms.length:Int)>0))) 30 (fun hb2=>?_) (fun hb2=>?_)))))
   ·have hp3:(x1.pms.length:Int)>0:=(dq).1 hb2
    refine Z0 6 (.n 36 (.b true) (.k (.d .r))) (ie (X8 (ar (ir 1 [(4,.b false)] (ie ?_)))))
    exact Z5 (r2 [] [.b false] ⟨rfl,rfl⟩ (lb (Zks hx1 (.inl (by assumption)))))
   have hp4:¬((x1.pms.length:Int)>0):=Zv dq hb2
   refine Z0 1 (.n 31 (Wi fs) (.k (.d .r))) (Zf (Zj (es:=WL fs) (hv:=none) (j:=0) (sz:=3) (y:=QE x1) kr om (JL hx1) rfl) (Z0 4 (.n 36 (.b (x1.res != 0)) .r) (ie (ac (x1.res != 0) Zw (fun hc1=>?_) (fun hc1=>?_)))))
   ·refine ar (ir 1 [(4,.b false)] (ie ?_))
    exact Z5 (r2 [] [.b false] ⟨rfl,rfl⟩ (lb (Zks hx1 (.inr hc1))))
   refine ak (aq (ar (Z0 1 (.n 37 (Wi fs) .r) (iw (Z28 fs) (Z0 1 (.n 39 (.i 0) .r) (ie (ab 0 (al (fun m F h=>∃(k:Nat),(k<=fs.length)/\(TB ds.length (fs.drop k)=TB ds.length fs)/\F=[(0,Z3 ds),(37,Wi fs),(38,.i fs.length),(39,.i k)]/\h=[]/\m=fs.length-k) _ _ _ ⟨0,ob,ob,rfl,rfl,rfl⟩ (wk [] (fw (fr (fc (x:=.i 0) li fl)))) ?_))))))))
   rintro m F h ⟨k,c0_0,c0_1,rfl,rfl,rfl⟩
   refine ar (Z0 1 (.n 40 (.b (decide ((k:Int)<(fs.length:Int)))) .r) (ie (aq (ac (decide ((k:Int)<(fs.length:Int))) dq (fun hc2=>?_) (fun hc2=>?_)))))
   ·refine ak (aq (ab 1 (ar ?_)))
    obtain ⟨x2,hx2⟩:=Zl (xs:=fs) (j:=k) om
    have hf2:=hf _ (ZV hx2)
    refine Zf (Zj (es:=WL fs) (hv:=none) (j:=(k:Int)) (sz:=3) (y:=QE x2) kr om (JL hx2) rfl) (Z0 1 (.n 42 (QE x2) .r) (iA [nl,nl,.i 0] ?_))
    intro b1
    refine iS 0 b1 0 (JU x2) [nl,nl,.i 0] (JU x2) (ie (aq (ar (Za 2 (.n 44 (Z1 x2.pms) .r) [0] [b1] (iw (ZD x2.pms) (YV 11 [(0,Z3 ds),(6,.p b1 0),(37,Wi fs),(38,.i fs.length),(39,.i k),(53,.b ((decide ((x2.pms.length:Int)>3))||(!YK ds.length x2.pms)))] [.obj b1 (JU x2)] ?_ (fun hj3=>?_)))))))
    ·refine Xl [(0,Z3 ds),(6,.p b1 0),(37,Wi fs),(38,.i fs.length),(39,.i k),(60,.b (((decide ((x2.pms.length:Int)>3))||(!YK ds.length x2.pms))||(!(decide (0<=x2.res/\x2.res<=ds.length)))))] [.obj b1 (JU x2)] ?_ ?_
     ·refine ir 1 [(0,Z3 ds),(6,.p b1 0),(37,Wi fs),(38,.i fs.length),(39,.i k),(54,.b ((decide ((x2.pms.length:Int)>3))||(!YK ds.length x2.pms)))] (ib (b:=((decide ((x2.pms.length:Int)>3))||(!YK ds.length x2.pms))) 54 (fun hb3=>?_) (fun hb3=>?_))
      ·have hp5:((x2.pms.length:Int)>3)∨(¬(YK ds.length x2.pms=true)):=((Zz dq (ZP Iff.rfl))).1 hb3
       refine Z0 6 (.n 60 (.b true) (.d (.w (.k .z)))) (ie ?_)
       exact wk [0] (fq (fr (fc (x:=.b true) (lb (by simp only [hb3];rfl)) fl)))
      have hp6:¬(((x2.pms.length:Int)>3)∨(¬(YK ds.length x2.pms=true))):=Zv (Zz dq (ZP Iff.rfl)) hb3
      refine Za 3 (.n 55 (Z3 ds) (.n 57 (.i x2.res) (.w (.k (.k .z))))) [0] [b1] (ic [] (Z4x ds x2.res) ?_)
      rintro _ _ ⟨rfl,rfl⟩
      refine Z0 2 (.n 60 (.b (!(decide (0<=x2.res/\x2.res<=ds.length)))) .r) (ie ?_)
      exact wk [0] (fq (fr (fc (x:=.b (!(decide (0<=x2.res/\x2.res<=ds.length)))) (lb (by simp only [hb3];rfl)) fl)))
     refine ac (((decide ((x2.pms.length:Int)>3))||(!YK ds.length x2.pms))||(!(decide (0<=x2.res/\x2.res<=ds.length)))) (p:=(((x2.pms.length:Int)>3)∨(¬(YK ds.length x2.pms=true)))∨(¬(0<=x2.res/\x2.res<=ds.length))) (Zz (Zz dq (ZP Iff.rfl)) (ZP dq)) (fun hc3=>?_) (fun hc3=>?_)
     ·refine ar (ir 1 [(4,.b false)] (ie ?_))
      exact Z5 (r2 [] [.b false] ⟨rfl,rfl⟩ (lb (Z67 (Z5s hx2 (Zwz hc3) c0_1))))
     refine ak (ar (iR 2 [(0,Z3 ds),(6,.p b1 0),(37,Wi fs),(38,.i fs.length),(39,.i k),(62,Z1 x2.lnt)] [0] [b1] (iw (ZD x2.lnt) (Z0 1 (.n 64 (.i 0) .r) (ie (ab 2 (al (fun m F h=>∃(j:Nat),(j<=x2.lnt.length)/\(UR x2.pms (x2.lnt.drop j) (if j=0 then none else x2.lnt[j-1]?)=TH x2.pms x2.lnt)/\F=[(0,Z3 ds),(6,.p b1 0),(37,Wi fs),(38,.i fs.length),(39,.i k),(62,Z1 x2.lnt),(63,.i x2.lnt.length),(64,.i j)]/\h=[.obj b1 (JU x2)]/\m=x2.lnt.length-j) _ _ _ ⟨0,ob,(by rfl),rfl,rfl,rfl⟩ (wk [0] (fq (fw (fr (fc (x:=.i 0) li fl))))) ?_)))))))
     rintro m F h ⟨j,c1_0,c1_1,rfl,rfl,rfl⟩
     refine ar (Z0 1 (.n 65 (.b (decide ((j:Int)<(x2.lnt.length:Int)))) .r) (ie (aq (ac (decide ((j:Int)<(x2.lnt.length:Int))) dq (fun hc4=>?_) (fun hc4=>?_)))))
     ·refine ak (aq (ab 3 (ar (Z0 1 (.n 66 (.i j) .r) ?_))))
      obtain ⟨x3,hx3⟩:=Zl (xs:=x2.lnt) (j:=j) om
      refine Zf (Zj (es:=Z6 x2.lnt) (hv:=none) (j:=(j:Int)) (sz:=1) (y:=.i x3) kr om (ZH hx3) rfl) (Z0 3 (.n 7 (.i j) (.n 8 (.i x3) .r)) (ie (ar (YV 9 [(0,Z3 ds),(6,.p b1 0),(7,.i j),(8,.i x3),(37,Wi fs),(38,.i fs.length),(39,.i k),(62,Z1 x2.lnt),(63,.i x2.lnt.length),(64,.i j),(77,.b ((decide (x3<0))||(decide (x3>=(x2.pms.length:Int)))))] [.obj b1 (JU x2)] ?_ (fun hj4=>?_)))))
      ·refine ir 1 [(0,Z3 ds),(6,.p b1 0),(7,.i j),(8,.i x3),(37,Wi fs),(38,.i fs.length),(39,.i k),(62,Z1 x2.lnt),(63,.i x2.lnt.length),(64,.i j),(78,.b ((decide (x3<0))||(decide (x3>=(x2.pms.length:Int)))))] (ib (b:=((decide (x3<0))||(decide (x3>=(x2.pms.length:Int))))) 78 (fun hb4=>?_) (fun hb4=>?_))
       ·have hp7:(x3<0)∨(x3>=(x2.pms.length:Int)):=((Zz dq dq)).1 hb4
        refine Z0 21 (.n 99 (.b true) (.d (.k (.k (.d (.d (.w (.k (.k .z))))))))) (ie (X8 (ar (ir 1 [(4,.b false)] (ie ?_)))))
        exact Z5 (r2 [] [.b false] ⟨rfl,rfl⟩ (lb (Z67 (Z5s hx2 (Za4 (Z99 hx3 (by rintro ⟨q1,q2,q3⟩;first|omega|(rw [hx4] at q2;exact q2 (Y1 some om))|(have:=q3 _ (by rw [Z4 om];exact hx5);omega)) c1_1)) c0_1))))
       have hp8:¬((x3<0)∨(x3>=(x2.pms.length:Int))):=Zv (Zz dq dq) hb4
       refine Za 3 (.n 80 (Z1 x2.pms) (.n 81 (.i x3) (.w (.w (.k (.k (.k .z))))))) [0] [b1] ?_
       obtain ⟨x4,hx4⟩:=Zl (xs:=x2.pms) (j:=x3.toNat) om
       refine Zf (Zj (es:=Z6 x2.pms) (hv:=none) (j:=x3) (sz:=1) (y:=.i x4) kr om (ZH hx4) rfl) (Z0 4 (.n 86 (.b (x4==0)) .r) (ib (b:=(x4==0)) 86 (fun hb5=>?_) (fun hb5=>?_)))
       ·have hp9:x4=0:=(Ze).1 hb5
        refine Z0 13 (.n 99 (.b true) (.k (.d .r))) (ie (X8 (ar (ir 1 [(4,.b false)] (ie ?_)))))
        exact Z5 (r2 [] [.b false] ⟨rfl,rfl⟩ (lb (Z67 (Z5s hx2 (Za4 (Z99 hx3 (by rintro ⟨q1,q2,q3⟩;first|omega|(rw [hx4] at q2;exact q2 (Y1 some om))|(have:=q3 _ (by rw [Z4 om];exact hx5);omega)) c1_1)) c0_1))))
       have hp10:¬(x4=0):=Zv Ze hb5
       refine Z0 3 (.n 89 (.b (decide ((j:Int)>0))) (.k (.d .r))) (ib (b:=(decide ((j:Int)>0))) 89 (fun hb6=>?_) (fun hb6=>?_))
       ·have hp11:(j:Int)>0:=(dq).1 hb6
        refine Za 4 (.n 90 (.i x3) (.n 92 (Z1 x2.lnt) (.n 93 (.i j) (.k (.d .r))))) [0] [b1] (ia (((j-1:Nat):Int)) (((j:Int))-(1)) ?_)
        obtain ⟨x5,hx5⟩:=Zl (xs:=x2.lnt) (j:=j-1) om
        refine Zf (Zj (es:=Z6 x2.lnt) (hv:=none) (j:=((j-1:Nat):Int)) (sz:=1) (y:=.i x5) kr om (ZH hx5) rfl) (Z0 4 (.n 99 (.b (decide (x3<=x5))) .r) (ie (ac (decide (x3<=x5)) dq (fun hc5=>?_) (fun hc5=>?_))))
        ·refine ar (ir 1 [(4,.b false)] (ie ?_))
         exact Z5 (r2 [] [.b false] ⟨rfl,rfl⟩ (lb (Z67 (Z5s hx2 (Za4 (Z99 hx3 (by rintro ⟨q1,q2,q3⟩;first|omega|(rw [hx4] at q2;exact q2 (Y1 some om))|(have:=q3 _ (by rw [Z4 om];exact hx5);omega)) c1_1)) c0_1))))
        refine ak (az (ia (((j+1:Nat):Int)) (((j:Int))+(1)) (Z0 1 (.n 64 (.i (j+1:Nat)) (.p (.d (.p (.p (.d (.d (.d (.d (.d (.p (.d (.d (.d (.k (.k (.d (.d (.w (.k .z)))))))))))))))))))) (ie ?_))))
        have hdr:=Zu hx3
        exact ⟨_,_,_,ob,⟨j+1,ob,(Zgy hx3 ⟨by omega,(by rw [hx4];intro q;cases q;omega),fun p hp=>by first|(rw [Z8 om] at hp;cases hp;done)|(rw [Z4 om,hx5] at hp;cases hp;omega)⟩ c1_1),rfl,rfl,rfl⟩,(wk [0] (fq (fw (fr (fc (x:=.i (j+1:Nat)) li fl)))))⟩
       have hp12:¬((j:Int)>0):=Zv dq hb6
       refine Z0 10 (.n 99 (.b false) (.k (.d .r))) (ie (YA (ak (az (ia (((j+1:Nat):Int)) (((j:Int))+(1)) (Z0 1 (.n 64 (.i (j+1:Nat)) (.p (.d (.d (.d (.p (.d (.d (.d (.k (.k (.d (.d (.w (.k .z))))))))))))))) (ie ?_)))))))
       have hdr:=Zu hx3
       exact ⟨_,_,_,ob,⟨j+1,ob,(Zgy hx3 ⟨by omega,(by rw [hx4];intro q;cases q;omega),fun p hp=>by first|(rw [Z8 om] at hp;cases hp;done)|(rw [Z4 om,hx5] at hp;cases hp;omega)⟩ c1_1),rfl,rfl,rfl⟩,(wk [0] (fq (fw (fr (fc (x:=.i (j+1:Nat)) li fl)))))⟩
      refine ir 3 [(0,Z3 ds),(6,.p b1 0),(7,.i j),(8,.i x3),(37,Wi fs),(38,.i fs.length),(39,.i k),(62,Z1 x2.lnt),(63,.i x2.lnt.length),(64,.i j),(71,.b (decide (x3<0)))] (ib (b:=(decide (x3<0))) 71 (fun hb7=>?_) (fun hb7=>?_))
      ·have hp13:x3<0:=(dq).1 hb7
       refine Z0 6 (.n 77 (.b true) (.d (.w (.w (.k (.k .z)))))) ?_
       exact ZL (wk [0] (fq (fq (fw (fc (x:=.b true) (lb (by simp only [hb7];rfl)) fl))))) hj4
      have hp14:¬(x3<0):=Zv dq hb7
      refine Za 3 (.n 72 (.i x3) (.n 74 (Z1 x2.pms) (.w (.w (.k (.k (.k .z))))))) [0] [b1] (iw (ZD x2.pms) (Z0 2 (.n 77 (.b (decide (x3>=(x2.pms.length:Int)))) .r) ?_))
      exact ZL (wk [0] (fq (fq (fw (fc (x:=.b (decide (x3>=(x2.pms.length:Int)))) (lb (by simp only [hb7];rfl)) fl))))) hj4
     have hL:TH x2.pms x2.lnt=true:=by rw [<-c1_1,Ye om];rfl
     have hS:=Zx0 hc3 hL
     refine ax 2 (az (ia (((k+1:Nat):Int)) (((k:Int))+(1)) (Z0 1 (.n 39 (.i (k+1:Nat)) (.p (.d (.k (.d (.k (.k .z))))))) (ie ?_))))
     have hdr:=Zu hx2
     exact ⟨_,_,_,ob,⟨k+1,ob,(Zxc hx2 hS c0_1),rfl,rfl,rfl⟩,(wk [] (fw (fr (fc (x:=.i (k+1:Nat)) li fl))))⟩
    refine ir 2 [(0,Z3 ds),(6,.p b1 0),(37,Wi fs),(38,.i fs.length),(39,.i k),(47,.b (decide ((x2.pms.length:Int)>3)))] (ib (b:=(decide ((x2.pms.length:Int)>3))) 47 (fun hb8=>?_) (fun hb8=>?_))
    ·have hp15:(x2.pms.length:Int)>3:=(dq).1 hb8
     refine Z0 6 (.n 53 (.b true) (.d (.w (.k .z)))) ?_
     exact ZL (wk [0] (fq (fr (fc (x:=.b true) (lb (by simp only [hb8];rfl)) fl)))) hj3
    have hp16:¬((x2.pms.length:Int)>3):=Zv dq hb8
    refine Za 3 (.n 48 (Z3 ds) (.n 50 (Z1 x2.pms) (.w (.k (.k .z))))) [0] [b1] (ic [] (Zfu ds x2.pms) ?_)
    rintro _ _ ⟨rfl,rfl⟩
    refine Z0 2 (.n 53 (.b (!YK ds.length x2.pms)) .r) ?_
    exact ZL (wk [0] (fq (fr (fc (x:=.b (!YK ds.length x2.pms)) (lb (by simp only [hb8];rfl)) fl)))) hj3
   refine ax 0 (ar (ir 1 [(4,.b true)] (ie ?_)))
   exact Z5 (r2 [] [.b true] ⟨rfl,rfl⟩ (lb (Y0z (by assumption) hx1 (by assumption) hc1 (by rw [<-c0_1,Ye om];rfl))))
  refine ir 1 [(0,Z3 ds),(1,Wi fs),(17,.b ((!Xf ds)||(decide ((fs.length:Int)<1))))] (ib (b:=((!Xf ds)||(decide ((fs.length:Int)<1)))) 17 (fun hb9=>?_) (fun hb9=>?_))
  ·have hp17:(¬(Xf ds=true))∨((fs.length:Int)<1):=((Zz (ZP Iff.rfl) dq)).1 hb9
   refine Z0 4 (.n 21 (.b true) (.d (.k (.k .z)))) ?_
   exact ZL (wk [] (fw (fc (x:=.b true) (lb (by simp only [hb9];rfl)) fl))) hj2
  have hp18:¬((¬(Xf ds=true))∨((fs.length:Int)<1)):=Zv (Zz (ZP Iff.rfl) dq) hb9
  refine Z0 1 (.n 18 (Wi fs) (.k (.k (.k .z)))) (iw (Z28 fs) (Z0 2 (.n 21 (.b (decide ((fs.length:Int)>4))) .r) ?_))
  exact ZL (wk [] (fw (fc (x:=.b (decide ((fs.length:Int)>4))) (lb (by simp only [hb9];rfl)) fl))) hj2
 refine ir 2 [(0,Z3 ds),(1,Wi fs),(12,.b (!Xf ds))] (ib (b:=(!Xf ds)) 12 (fun hb10=>?_) (fun hb10=>?_))
 ·have hp19:¬(Xf ds=true):=((ZP Iff.rfl)).1 hb10
  refine Z0 4 (.n 16 (.b true) (.d (.k (.k .z)))) ?_
  exact ZL (wk [] (fw (fc (x:=.b true) (lb (by simp only [hb10];rfl)) fl))) hj1
 have hp20:¬(¬(Xf ds=true)):=Zv (ZP Iff.rfl) hb10
 refine Z0 1 (.n 13 (Wi fs) (.k (.k (.k .z)))) (iw (Z28 fs) (Z0 2 (.n 16 (.b (decide ((fs.length:Int)<1))) .r) ?_))
 exact ZL (wk [] (fw (fc (x:=.b (decide ((fs.length:Int)<1))) (lb (by simp only [hb10];rfl)) fl))) hj1
theorem Zfz (n:Normal) (hz:NSz n:=by exact ob):Zd Tryz.prog 20 [ZJ n] [] (fun r h=>(r=.tup [.agg [Z3 n.decls,Zh n],.b (XF n)]/\h=[]/\n.routines.length<=4)∨(r=.tup [.agg [Z3 [],Wi []],.b false]/\h=[]/\XF n=false)):=by
 have hzl:=hz.len
 refine enter Tryz.func20 kr (n:=41) kr kr (ar (iA (ZU n) ?_))
 intro b1
 refine iA [nl,nl] ?_
 intro b2
 refine ir 1 [(1,.p b1 0),(2,.p b2 0)] (ie (aq (ar (Za 2 (.n 8 (Yh n.routines) .r) [1] [b1] (iw (VY n.routines) (Z0 1 (.n 10 (.b (decide ((n.routines.length:Int)>4))) .r) (ie (ac (decide ((n.routines.length:Int)>4)) dq (fun hc1=>?_) (fun hc1=>?_)))))))))
 ·refine ar (Z0 1 (.n 11 (.agg [nl,nl]) .r) (iS 0 b2 0 [nl,nl] [nl,nl] [nl,nl] (Z0 1 (.n 3 (.b false) .r) (ie ?_))))
  exact Z5 (r3 [] [.agg [nl,nl],.b false] [0] [(b2,b2)] (.inr ⟨rfl,rfl,(by rw [Zhi,decide_eq_false om];rfl)⟩) (Zg.tup (.cons (Zg.agg (.cons (Zg.sl _ rfl) (.cons (Zg.sl _ rfl) .nil))) (.cons (lr _) .nil))))
 refine ak (ar (Za 3 (.n 14 (.agg [Z3 n.decls,nl]) .r) [1] [b1] (iA [nl,nl] ?_)))
 intro b3
 refine iS 0 b3 0 [Z3 n.decls,nl] [nl,nl] [Z3 n.decls,nl] (ie (aq (ar (Za 2 (.n 16 (Yh n.routines) .r) [2] [b1] (iw (VY n.routines) (Z0 1 (.n 18 (.i 0) .r) (ie (ab 0 (U7 3 (al (fun m F h=>∃(k:Nat) (v:Value),(k<=n.routines.length)/\F=[(1,.p b1 0),(2,.p b2 0),(4,.p b3 0),(16,Yh n.routines),(17,.i n.routines.length),(18,.i k)]/\h=[.obj b3 [Z3 n.decls,Kz ((n.routines.take k).map Yo) v],.obj b2 [nl,nl],.obj b1 (ZU n),.tail v 3]/\m=n.routines.length-k) _ _ _ ⟨0,(.slice none 0 0),ob,rfl,rfl,rfl⟩ (wk [1,1,1,0] (fq (fr (fc (x:=.i 0) li fl)))) ?_))))))))))
 rintro m F h ⟨k,v,c0_0,rfl,rfl,rfl⟩
 refine ar (Z0 1 (.n 19 (.b (decide ((k:Int)<(n.routines.length:Int)))) .r) (ie (aq (ac (decide ((k:Int)<(n.routines.length:Int))) dq (fun hc2=>?_) (fun hc2=>?_)))))
 ·refine ak (aq (ab 1 (ar ?_)))
  obtain ⟨x1,hx1⟩:=Zl (xs:=n.routines) (j:=k) om
  refine Zf (Zj (es:=WD n.routines) (hv:=none) (j:=(k:Int)) (sz:=5) (y:=Xc x1) kr om (VX hx1) rfl) (Z0 1 (.n 21 (Xc x1) .r) (iA [nl,nl,.i 0,nl,.i 0] ?_))
  intro b4
  refine iS 0 b4 0 (WI x1) [nl,nl,.i 0,nl,.i 0] (WI x1) (ie (az (Za 9 (.n 23 (Kz ((n.routines.take k).map Yo) v) (.n 30 (.agg [Z1 x1.params,Z1 x1.lent,.i x1.result]) .r)) [1,0,0,0] [b3,b4,b4,b4] (iL (WL [Sg3.mk x1.params x1.lent x1.result]) 1 3 ?_))))
  intro v1
  refine Z0 0 (.n 31 (Wi [Sg3.mk x1.params x1.lent x1.result]) (.p .r)) (ip 5 (WL ((n.routines.take (k+1)).map Yo)) (WL ((n.routines.take k).map Yo)) (WL [Sg3.mk x1.params x1.lent x1.result]) v none 3 (Ze2 _) (Ze2 _) (Zpd _) (by simp<;>omega) (by rw [V3 hx1];simp [WL,Yo]) ?_)
  intro v2
  refine Z0 1 (.n 33 (.p b3 1) .r) (iS 3 b3 1 [Kz ((n.routines.take (k+1)).map Yo) v2] [Z3 n.decls,Kz ((n.routines.take k).map Yo) v] [Z3 n.decls,Kz ((n.routines.take (k+1)).map Yo) v2] (ie (az (ia (((k+1:Nat):Int)) (((k:Int))+(1)) (Z0 1 (.n 18 (.i (k+1:Nat)) (.p (.d (.p (.d (.d (.d (.p (.d (.p (.d (.w (.k .z))))))))))))) (ie ?_))))))
  have hdr:=Zu hx1
  exact ⟨_,_,_,ob,⟨k+1,v2,ob,rfl,rfl,rfl⟩,(wk [0,3,3,0] (fq (fr (fc (x:=.i (k+1:Nat)) li fl))))⟩
 refine ax 0 (aD 8 (ZI (fuel:=3) 8 [0,1,2,3,4] (.n 35 (.agg [Z3 n.decls,Kz ((n.routines.take k).map Yo) v]) (.n 37 (Z3 n.decls) (.n 39 (Wi ((n.routines.take k).map Yo)) .r))) [0,2,0] [b3,b1,b3] (Zm 5 (dc 5 [] [0] [b3] (Zsa n.decls ((n.routines.take k).map Yo) (hz:=hz.decls) (hf:=(by intro f hf;obtain ⟨r,h1,rfl⟩:=YJ.1 hf;have:=Z3j h1;exact ⟨hz.params r this,hz.lent r this⟩))) ?_))))
 rintro _ _ ⟨rfl,rfl⟩
 refine Zm 6 (dS 6 1 [] [] b2 0 [Z3 n.decls,Kz ((n.routines.take k).map Yo) v] [nl,nl] [Z3 n.decls,Kz ((n.routines.take k).map Yo) v] (Zi (fuel:=0) 1 [7] (.n 3 (.b (TI n.decls ((n.routines.take k).map Yo))) .r) (de ?_)))
 have htk:n.routines.take k=n.routines:=W7 om
 exact Z5 (r3 [] [.agg [Z3 n.decls,Kz ((n.routines.take k).map Yo) v],.b (TI n.decls ((n.routines.take k).map Yo))] [0] [(b2,b2)] (.inl ⟨rfl,rfl,om⟩) (Zg.tup (.cons (Zg.agg (.cons (lr _) (.cons (Zg.sl _ (Y1 WL (by rw [htk]))) .nil))) (.cons (lb (by rw [htk,Zhi,decide_eq_true (p:=n.routines.length<=4) om,Bool.true_and])) .nil))))
theorem Z8t (n:Normal) (t:Int) (hn:NOk n:=by exact ob):Zd Tryz.prog 91 [.agg [Z3 n.decls,Zh n],.i t] [] (fun r h=>r=YL ((Zt n.decls t).map (Zc n.decls))/\h=[]):=by
 have hdk:=hn.decls
 have hcl:=Z9j hdk t
 refine enter Tryz.func91 kr (n:=26) kr kr (ar (iA [Z3 n.decls,Zh n] ?_))
 intro b1
 refine ir 1 [(1,.i t),(2,.p b1 0)] (ie (ar (Z0 1 (.n 5 (nl) .r) (ie (aq (ar (Za 3 (.n 9 (Z3 n.decls) (.n 10 (.i t) .r)) [0] [b1] (ic [] (Zrz n.decls t) ?_))))))))
 rintro _ _ ⟨rfl,rfl⟩
 refine io (.i (((Zt n.decls t).length:Nat):Int)) (.i (((Z6 (Zt n.decls t)).length:Nat):Int)) (li (by rw [ZD])) (Z0 1 (.n 13 (.i 0) .r) (ie (ab 0 (U7 1 (al (fun m F h=>∃(k:Nat) (v:Value),(k<=(Zt n.decls t).length)/\F=[(2,.p b1 0),(5,QV (((Zt n.decls t).take k).map (Zc n.decls)) v),(11,Z1 (Zt n.decls t)),(12,.i (((Zt n.decls t).length:Nat):Int)),(13,.i k)]/\h=[.obj b1 [Z3 n.decls,Zh n],.tail v 1]/\m=(Zt n.decls t).length-k) _ _ _ ⟨0,(.slice none 0 0),ob,rfl,rfl,rfl⟩ (wk [1,0] (fr (fc (x:=nl) (Zg.slh _ rfl) (fw (fc (x:=.i 0) li fl))))) ?_)))))
 rintro m F h ⟨k,v,c0_0,rfl,rfl,rfl⟩
 refine ar (Z0 1 (.n 14 (.b (decide ((k:Int)<(((Zt n.decls t).length:Nat):Int)))) .r) (ie (aq (ac (decide ((k:Int)<(((Zt n.decls t).length:Nat):Int))) dq (fun hc1=>?_) (fun hc1=>?_)))))
 ·refine ak (aq (ab 1 (ar ?_)))
  obtain ⟨x1,hx1⟩:=Zl (xs:=Zt n.decls t) (j:=k) om
  refine Zf (Zj (es:=Z6 (Zt n.decls t)) (hv:=none) (j:=(k:Int)) (sz:=1) (y:=.i x1) kr om (ZH hx1) rfl) (Z0 2 (.n 7 (.i x1) .r) (ie (az (Za 4 (.n 17 (QV (((Zt n.decls t).take k).map (Zc n.decls)) v) (.n 19 (Z3 n.decls) (.n 20 (.i x1) .r))) [0] [b1] (ic [] (Zs5 n.decls x1 (hc:=(by have:=Zdh hdk hx1;omega))) ?_)))))
  rintro _ _ ⟨rfl,rfl⟩
  refine iL (XO [Zc n.decls x1]) 1 1 ?_
  intro v1
  refine Z0 0 (.n 22 (YL [Zc n.decls x1]) (.p .r)) (ip 2 (XO (((Zt n.decls t).take (k+1)).map (Zc n.decls))) (XO (((Zt n.decls t).take k).map (Zc n.decls))) (XO [Zc n.decls x1]) v none 1 (Zdz _) (Zdz _) (Zpb _) (by simp;omega) (by rw [V3 hx1];simp [XO]) ?_)
  intro v2
  refine Z0 1 (.n 5 (QV (((Zt n.decls t).take (k+1)).map (Zc n.decls)) v2) (.p (.d (.p (.d (.d (.d (.d (.p (.d (.k (.d .r)))))))))))) (ie (az (ia (((k+1:Nat):Int)) (((k:Int))+(1)) (Z0 1 (.n 13 (.i (k+1:Nat)) (.p (.w .z))) (ie ?_)))))
  have hdr:=Zu hx1
  exact ⟨_,_,_,ob,⟨k+1,v2,ob,rfl,rfl,rfl⟩,(wk [2,0] (fq (fc (x:=.i (k+1:Nat)) li fl)))⟩
 refine ax 0 (ar (ir 2 [(4,QV (((Zt n.decls t).take k).map (Zc n.decls)) v)] (ie ?_)))
 exact Z5 (r2 [] [QV (((Zt n.decls t).take k).map (Zc n.decls)) v] ⟨rfl,rfl⟩ (Zg.sl _ (Y1 XO (by rw [W7 om]))))
theorem Zs8 (n:Normal) (op:Int) (num:Int) (ts:List Int) (hn:NOk n:=by exact ob) (hl_ts:ts.length<=4294967296:=by exact ob) (hnum:-9223372036854775808<=num/\num<=9223372036854775807:=by exact ob):Zd Tryz.prog 148 [.agg [Z3 n.decls,Zh n],.i op,.i num,Z1 ts] [] (fun r h=>∃(t:Int),r=.tup [.i t,.b ((Yt n op num ts).isSome)]/\h=[]/\∀x,Yt n op num ts=some x->t=x):=by
 have hdk:=hn.decls
 have hrl:=hn.len
 have hcfl:(Zc n.decls num).length<=4294967296:=by have:=VV hdk num;omega
 have hdl:n.decls.length<=4294967296:=by have:=hdk.len;omega
 refine enter Tryz.func148 kr (n:=149) kr kr (ar (iA [Z3 n.decls,Zh n] ?_))
 intro b1
 refine ir 2 [(1,.i op),(2,.i num),(3,Z1 ts),(4,.p b1 0)] (ie (ar (Z0 2 (.n 11 (.i 0) .r) (ie (aq (ar (Z0 1 (.n 18 (.i op) .r) (ie (ab 0 (ar (Z0 2 (.n 19 (.b (op==0)) .r) (ie (ac (op==0) Ze (fun hc1=>?_) (fun hc1=>?_))))))))))))))
 ·refine ar (YV 6 [(3,Z1 ts),(26,.b ((decide (num>=(-999)))&&(decide (num<=999))))] [.obj b1 [Z3 n.decls,Zh n]] ?_ (fun hj1=>?_))
  ·refine YV 11 [(31,.b (((decide (num>=(-999)))&&(decide (num<=999)))&&((ts.length:Int)==0)))] [.obj b1 [Z3 n.decls,Zh n]] ?_ (fun hj2=>?_)
   ·refine ir 2 [(8,.i 0),(9,.b (((decide (num>=(-999)))&&(decide (num<=999)))&&((ts.length:Int)==0)))] (ie ?_)
    have hF:=sf0 (n:=n) (num:=num) (ts:=ts) hc1
    exact Z5 (r2 [] [.i 0,.b (((decide (num>=(-999)))&&(decide (num<=999)))&&((ts.length:Int)==0))] ⟨0,rfl,rfl,(Je hF)⟩ (Zg.tup (.cons (lr _) (.cons (lb (Jd hF (by simp [*];try omega))) .nil))))
   refine ir 1 [(3,Z1 ts),(27,.b ((decide (num>=(-999)))&&(decide (num<=999))))] (ib (b:=((decide (num>=(-999)))&&(decide (num<=999)))) 27 (fun hb1=>?_) (fun hb1=>?_))
   ·have hp1:(num>=(-999))/\(num<=999):=((ZZ dq dq)).1 hb1
    refine Z0 1 (.n 28 (Z1 ts) (.k .z)) (iw (ZD ts) (ir 2 [(31,.b ((ts.length:Int)==0))] ?_))
    exact ZL (wk [0] (fc (x:=.b ((ts.length:Int)==0)) (lb (by simp only [hb1];rfl)) fl)) hj2
   have hp2:¬((num>=(-999))/\(num<=999)):=Zv (ZZ dq dq) hb1
   refine ir 4 [(31,.b false)] ?_
   exact ZL (wk [0] (fc (x:=.b false) (lb (by simp only [hb1];rfl)) fl)) hj2
  refine ir 3 [(2,.i num),(3,Z1 ts),(23,.b (decide (num>=(-999))))] (ib (b:=(decide (num>=(-999)))) 23 (fun hb2=>?_) (fun hb2=>?_))
  ·have hp3:num>=(-999):=(dq).1 hb2
   refine ir 3 [(3,Z1 ts),(26,.b (decide (num<=999)))] ?_
   exact ZL (wk [0] (fr (fc (x:=.b (decide (num<=999))) (lb (by simp only [hb2];rfl)) fl))) hj1
  have hp4:¬(num>=(-999)):=Zv dq hb2
  refine ir 3 [(3,Z1 ts),(26,.b false)] ?_
  exact ZL (wk [0] (fr (fc (x:=.b false) (lb (by simp only [hb2];rfl)) fl))) hj1
 refine aq (ar (Z0 2 (.n 32 (.b (op==1)) .r) (ie (Ug (fun F h=>F=[(1,.i op),(2,.i num),(3,Z1 ts),(4,.p b1 0),(11,.i 0),(18,.i op),(32,.b ((op==1)||((op==2)||((op==3)||(op==4)))))]/\h=[.obj b1 [Z3 n.decls,Zh n]]) ?_ ?_))))
 ·refine ac (op==1) Ze (fun hc2=>?_) (fun hc2=>?_)
  ·refine ak ?_
   exact ⟨_,_,⟨rfl,rfl⟩,(wk [0] (fq (fw (fc (x:=.b (op==1)) (lb (by first|rfl|(rw [Z8 hc2])|(rw [Z4 hc2])|(simp [hc2];done)|(rw [YW];simp [hc2];done)|omega)) fl))))⟩
  refine ar (ir 2 [(1,.i op),(2,.i num),(3,Z1 ts),(4,.p b1 0),(11,.i 0),(18,.i op),(32,.b (op==2))] (ie (ac (op==2) Ze (fun hc3=>?_) (fun hc3=>?_))))
  ·refine ak ?_
   exact ⟨_,_,⟨rfl,rfl⟩,(wk [0] (fq (fw (fc (x:=.b (op==2)) (lb (by first|rfl|(rw [Z8 hc2])|(rw [Z4 hc2])|(simp [hc2,hc3];done)|(rw [YW];simp [hc2,hc3];done)|omega)) fl))))⟩
  refine ar (Z0 2 (.n 32 (.b (op==3)) (.w (.k (.k .z)))) (ie (ac (op==3) Ze (fun hc4=>?_) (fun hc4=>?_))))
  ·refine ak ?_
   exact ⟨_,_,⟨rfl,rfl⟩,(wk [0] (fq (fw (fc (x:=.b (op==3)) (lb (by first|rfl|(rw [Z8 hc2])|(rw [Z4 hc2])|(simp [hc2,hc3,hc4];done)|(rw [YW];simp [hc2,hc3,hc4];done)|omega)) fl))))⟩
  refine az (Z0 2 (.n 32 (.b (op==4)) (.d .r)) (ie ?_))
  exact ⟨_,_,⟨rfl,rfl⟩,(wk [0] (fq (fw (fc (x:=.b (op==4)) (lb (by first|rfl|(rw [Z8 hc2])|(rw [Z4 hc2])|(simp [hc2,hc3,hc4];done)|(rw [YW];simp [hc2,hc3,hc4];done)|omega)) fl))))⟩
 rintro F h ⟨rfl,rfl⟩
 refine ac ((op==1)||((op==2)||((op==3)||(op==4)))) (p:=(op=1)∨((op=2)∨((op=3)∨(op=4)))) (Zz Ze (Zz Ze (Zz Ze Ze))) (fun hc5=>?_) (fun hc5=>?_)
 ·refine az (iL (Z6 [0,0]) 2 1 ?_)
  intro v1
  refine ir 1 [(2,.i num),(3,Z1 ts),(10,Zb [0,0] v1),(11,.i 0)] (ie (ar (YV 8 [(141,.i 0),(148,.b ((num==0)&&(decide (ts=[0,0]))))] [.tail v1 1,.obj b1 [Z3 n.decls,Zh n]] ?_ (fun hj3=>?_))))
  ·refine ir 2 [(8,.i 0),(9,.b ((num==0)&&(decide (ts=[0,0]))))] (ie ?_)
   have hF:=sf1 (n:=n) (num:=num) (ts:=ts) hc5
   exact Z5 (r2 [] [.i 0,.b ((num==0)&&(decide (ts=[0,0])))] ⟨0,rfl,rfl,(Je hF)⟩ (Zg.tup (.cons (lr _) (.cons (lb (Jd hF (by simp [*];try omega))) .nil))))
  refine ir 4 [(3,Z1 ts),(10,Zb [0,0] v1),(141,.i 0),(144,.b (num==0))] (ib (b:=(num==0)) 144 (fun hb3=>?_) (fun hb3=>?_))
  ·have hp5:num=0:=(Ze).1 hb3
   refine Z0 2 (.n 145 (Z1 ts) (.n 146 (Z1 [0,0]) (.k (.d (.d (.k .z)))))) (ic [] (Z00 ts [0,0]) ?_)
   rintro _ _ ⟨rfl,rfl⟩
   refine Z0 1 (.n 148 (.b (decide (ts=[0,0]))) .r) ?_
   exact ZL (wk [0,0] (fr (fc (x:=.b (decide (ts=[0,0]))) (lb (by simp only [hb3];rfl)) fl))) hj3
  have hp6:¬(num=0):=Zv Ze hb3
  refine ir 4 [(141,.i 0),(148,.b false)] ?_
  exact ZL (wk [0,0] (fr (fc (x:=.b false) (lb (by simp only [hb3];rfl)) fl))) hj3
 refine ar (ir 2 [(1,.i op),(2,.i num),(3,Z1 ts),(4,.p b1 0),(11,.i 0),(18,.i op),(38,.b (op==5))] (ie (ac (op==5) Ze (fun hc6=>?_) (fun hc6=>?_))))
 ·refine az (iL (Z6 [0]) 1 1 ?_)
  intro v2
  refine Z0 1 (.n 10 (Zb [0] v2) .r) (ie (ar (YV 8 [(141,.i 0),(148,.b ((num==0)&&(decide (ts=[0]))))] [.tail v2 1,.obj b1 [Z3 n.decls,Zh n]] ?_ (fun hj4=>?_))))
  ·refine ir 2 [(8,.i 0),(9,.b ((num==0)&&(decide (ts=[0]))))] (ie ?_)
   have hF:=sf5 (n:=n) (num:=num) (ts:=ts) hc6
   exact Z5 (r2 [] [.i 0,.b ((num==0)&&(decide (ts=[0])))] ⟨0,rfl,rfl,(Je hF)⟩ (Zg.tup (.cons (lr _) (.cons (lb (Jd hF (by simp [*];try omega))) .nil))))
  refine ir 4 [(3,Z1 ts),(10,Zb [0] v2),(141,.i 0),(144,.b (num==0))] (ib (b:=(num==0)) 144 (fun hb4=>?_) (fun hb4=>?_))
  ·have hp7:num=0:=(Ze).1 hb4
   refine Z0 2 (.n 145 (Z1 ts) (.n 146 (Z1 [0]) (.k (.d (.d (.k .z)))))) (ic [] (Z00 ts [0]) ?_)
   rintro _ _ ⟨rfl,rfl⟩
   refine Z0 1 (.n 148 (.b (decide (ts=[0]))) .r) ?_
   exact ZL (wk [0,0] (fr (fc (x:=.b (decide (ts=[0]))) (lb (by simp only [hb4];rfl)) fl))) hj4
  have hp8:¬(num=0):=Zv Ze hb4
  refine ir 4 [(141,.i 0),(148,.b false)] ?_
  exact ZL (wk [0,0] (fr (fc (x:=.b false) (lb (by simp only [hb4];rfl)) fl))) hj4
 refine ar (Z0 2 (.n 41 (.b (op==11)) .r) (ie (ac (op==11) Ze (fun hc7=>?_) (fun hc7=>?_))))
 ·refine aq (ar (Z0 1 (.n 43 (Z1 ts) .r) (iw (ZD ts) (Z0 1 (.n 45 (.b ((ts.length:Int) != 2)) .r) (ie (ac ((ts.length:Int) != 2) Zw (fun hc8=>?_) (fun hc8=>?_)))))))
  ·refine ar (ir 2 [(8,.i (-1)),(9,.b false)] (ie ?_))
   have hF:=Zx9 (n:=n) (num:=num) hc7 hc8
   exact Z5 (r2 [] [.i (-1),.b false] ⟨(-1),rfl,rfl,(Z2z hF)⟩ (Zg.tup (.cons (lr _) (.cons (lb (sfn hF)) .nil))))
  refine ak (aD 12 (ZI (fuel:=9) 12 [0,1,2] (.n 48 (Z3 n.decls) (.n 49 (Z1 ts) .r)) [0] [b1] ?_))
  obtain ⟨x1,hx1⟩:=Zl (xs:=ts) (j:=0) om
  refine dx 3 (Zj (es:=Z6 ts) (hv:=none) (j:=0) (sz:=1) (y:=.i x1) kr om (ZH hx1) rfl) (Zi (fuel:=7) 8 [4] (.n 51 (.i x1) .r) (dK (fun F h=>∃(b2:Nat),F=[(2,.i num),(3,Z1 ts),(12,.p b2 0),(13,.b (Yv n.decls x1))]/\h=[.obj b2 (Ys (Xe n.decls x1)),.obj b1 [Z3 n.decls,Zh n]]) ?_ ?_))
  ·refine Z21 5 9 ?_ ?_
   ·refine dc 5 [] [] [] (Z4v n.decls x1) ?_
    rintro _ _ ⟨rfl,rfl⟩
    refine dt (fuel:=3) 6 [6,7,8] [(2,.i num),(3,Z1 ts),(53,Yw (Xe n.decls x1)),(54,.b (Yv n.decls x1))] (Zm 9 (dA 9 [] [] [.i 0,.i 0,nl] ?_))
    intro b2
    refine Zm 10 (dS 10 0 [] [] b2 0 (Ys (Xe n.decls x1)) [.i 0,.i 0,nl] (Ys (Xe n.decls x1)) (Zi (fuel:=0) 1 [11] (.n 13 (.b (Yv n.decls x1)) .r) (de ?_)))
    exact ⟨_,_,⟨b2,rfl,rfl⟩,(wk [0,0] fl)⟩
   refine dA 9 [0] [b1] [.i 0,.i 0,nl] ?_
   intro b3
   refine Zm 5 (dc 5 [] [] [] (Z4v n.decls x1) ?_)
   rintro _ _ ⟨rfl,rfl⟩
   refine dt (fuel:=2) 5 [6,7,8] [(2,.i num),(3,Z1 ts),(12,.p b3 0),(53,Yw (Xe n.decls x1)),(54,.b (Yv n.decls x1))] (Zm 10 (dS 10 0 [] [] b3 0 (Ys (Xe n.decls x1)) [.i 0,.i 0,nl] (Ys (Xe n.decls x1)) (Zi (fuel:=0) 1 [11] (.n 13 (.b (Yv n.decls x1)) .r) (de ?_))))
   exact ⟨_,_,⟨b3,rfl,rfl⟩,(wk [0,0] fl)⟩
  rintro F h ⟨b2,rfl,rfl⟩
  refine aD 17 (dT (fuel:=13) 17 [0,1,2,3] [(2,.i num),(3,Z1 ts),(12,.p b2 0),(56,.i ((Xe n.decls x1).to_)),(58,.b (Yv n.decls x1))] [0] [b2] (db (b:=Yv n.decls x1) 58 (fun hb5=>?_) (fun hb5=>?_)))
  ·have hp9:Yv n.decls x1=true:=(Iff.rfl).1 hb5
   refine Zi (fuel:=12) 13 [4] (.n 59 (Z1 ts) (.k (.k (.d (.k (.k .z)))))) ?_
   obtain ⟨x2,hx2⟩:=Zl (xs:=ts) (j:=1) om
   refine dx 5 (Zj (es:=Z6 ts) (hv:=none) (j:=1) (sz:=1) (y:=.i x2) kr om (ZH hx2) rfl) (ZI (fuel:=4) 11 [6,7,8,9,10,11,15] (.n 8 (.i ((Xe n.decls x1).to_)) (.n 66 (.b (x2==((Xe n.decls x1).frm))) .r)) [0] [b2] (db (b:=(x2==((Xe n.decls x1).frm))) 66 (fun hb6=>?_) (fun hb6=>?_)))
   ·have hp10:x2=((Xe n.decls x1).frm):=(Ze).1 hb6
    refine Zi (fuel:=0) 4 [12,13,14,16] (.n 9 (.b (num==0)) (.d (.k .z))) (de ?_)
    have hF:=Zaa (n:=n) (num:=num) hc7 hc8 hx1 hx2
    exact Z5 (r2 [] [.i ((Xe n.decls x1).to_),.b (num==0)] ⟨(Xe n.decls x1).to_,rfl,rfl,(Je hF)⟩ (Zg.tup (.cons (lr _) (.cons (lb (Jd hF (by simp [*];try omega))) .nil))))
   have hp11:¬(x2=((Xe n.decls x1).frm)):=Zv Ze hb6
   refine Zi (fuel:=0) 4 [12,13,14,16] (.n 9 (.b false) (.d (.k .z))) (de ?_)
   have hF:=Zaa (n:=n) (num:=num) hc7 hc8 hx1 hx2
   exact Z5 (r2 [] [.i ((Xe n.decls x1).to_),.b false] ⟨(Xe n.decls x1).to_,rfl,rfl,(Je hF)⟩ (Zg.tup (.cons (lr _) (.cons (lb (Jd hF (by simp [*]))) .nil))))
  have hp12:¬(Yv n.decls x1=true):=Zv Iff.rfl hb5
  refine dt (fuel:=0) 13 [4,5,6,7,8,9,10,11,12,13,14,15,16] [(8,.i ((Xe n.decls x1).to_)),(9,.b false)] (de ?_)
  have hF:=Zx8 (n:=n) (num:=num) hc7 hc8 hx1 (by assumption)
  exact Z5 (r2 [] [.i ((Xe n.decls x1).to_),.b false] ⟨(Xe n.decls x1).to_,rfl,rfl,(Z2z hF)⟩ (Zg.tup (.cons (lr _) (.cons (lb (sfn hF)) .nil))))
 refine ar (Z0 2 (.n 70 (.b (op==6)) .r) (ie (ac (op==6) Ze (fun hc9=>?_) (fun hc9=>?_))))
 ·refine ar (Za 3 (.n 74 (Z3 n.decls) (.n 75 (.i num) .r)) [0] [b1] (ic [] (Zfw n.decls num) ?_))
  rintro _ _ ⟨rfl,rfl⟩
  refine Z0 3 (.n 77 (.i (Yr n.decls num)) (.n 78 (.agg [Z1 (Zc n.decls num)]) .r)) (iA [nl] ?_)
  intro b4
  refine Z0 1 (.n 14 (.i (Yr n.decls num)) .r) (iS 0 b4 0 [Z1 (Zc n.decls num)] [nl] [Z1 (Zc n.decls num)] (ie (ar (YV 9 [(79,.i (Yr n.decls num)),(87,.b ((decide ((Yr n.decls num)>=0))&&(decide (ts=(Zc n.decls num)))))] [.obj b4 [Z1 (Zc n.decls num)],.obj b1 [Z3 n.decls,Zh n]] ?_ (fun hj5=>?_)))))
  ·refine ir 2 [(8,.i (Yr n.decls num)),(9,.b ((decide ((Yr n.decls num)>=0))&&(decide (ts=(Zc n.decls num)))))] (ie ?_)
   have hF:=sf6 (n:=n) (num:=num) (ts:=ts) hc9
   exact Z5 (r2 [] [.i (Yr n.decls num),.b ((decide ((Yr n.decls num)>=0))&&(decide (ts=(Zc n.decls num))))] ⟨Yr n.decls num,rfl,rfl,(Je hF)⟩ (Zg.tup (.cons (lr _) (.cons (lb (Jd hF (by simp [*];try omega))) .nil))))
  refine ir 4 [(3,Z1 ts),(15,.p b4 0),(79,.i (Yr n.decls num)),(82,.b (decide ((Yr n.decls num)>=0)))] (ib (b:=(decide ((Yr n.decls num)>=0))) 82 (fun hb7=>?_) (fun hb7=>?_))
  ·have hp13:(Yr n.decls num)>=0:=(dq).1 hb7
   refine Za 3 (.n 83 (Z1 ts) (.n 85 (Z1 (Zc n.decls num)) (.k (.d (.d (.k .z)))))) [0] [b4] (ic [] (Z00 ts (Zc n.decls num)) ?_)
   rintro _ _ ⟨rfl,rfl⟩
   refine Z0 1 (.n 87 (.b (decide (ts=(Zc n.decls num)))) .r) ?_
   exact ZL (wk [0,0] (fr (fc (x:=.b (decide (ts=(Zc n.decls num)))) (lb (by simp only [hb7];rfl)) fl))) hj5
  have hp14:¬((Yr n.decls num)>=0):=Zv dq hb7
  refine Z0 5 (.n 87 (.b false) (.d (.d (.d (.k .z))))) ?_
  exact ZL (wk [0,0] (fr (fc (x:=.b false) (lb (by simp only [hb7];rfl)) fl))) hj5
 refine aq (ar (Z0 2 (.n 88 (.b (op==9)) .r) (ie (Ug (fun F h=>F=[(1,.i op),(2,.i num),(3,Z1 ts),(4,.p b1 0),(88,.b ((op==9)||(op==10)))]/\h=[.obj b1 [Z3 n.decls,Zh n]]) ?_ ?_))))
 ·refine ac (op==9) Ze (fun hc10=>?_) (fun hc10=>?_)
  ·refine ak ?_
   exact ⟨_,_,⟨rfl,rfl⟩,(wk [0] (fq (fc (x:=.b (op==9)) (lb (by first|rfl|(rw [Z8 hc10])|(rw [Z4 hc10])|(simp [hc10];done)|(rw [YW];simp [hc10];done)|omega)) fl)))⟩
  refine az (ir 2 [(1,.i op),(2,.i num),(3,Z1 ts),(4,.p b1 0),(88,.b (op==10))] (ie ?_))
  exact ⟨_,_,⟨rfl,rfl⟩,(wk [0] (fq (fc (x:=.b (op==10)) (lb (by first|rfl|(rw [Z8 hc10])|(rw [Z4 hc10])|(simp [hc10];done)|(rw [YW];simp [hc10];done)|omega)) fl)))⟩
 rintro F h ⟨rfl,rfl⟩
 refine ac ((op==9)||(op==10)) (p:=(op=9)∨(op=10)) (Zz Ze Ze) (fun hc11=>?_) (fun hc11=>?_)
 ·refine aq (ar (Xl [(1,.i op),(2,.i num),(3,Z1 ts),(4,.p b1 0),(99,.b ((decide (num<0))||(decide (num>=(((n.routines.map Yo).length:Nat):Int)))))] [.obj b1 [Z3 n.decls,Zh n]] ?_ ?_))
  ·refine ir 3 [(1,.i op),(2,.i num),(3,Z1 ts),(4,.p b1 0),(93,.b (decide (num<0)))] (ib (b:=(decide (num<0))) 93 (fun hb8=>?_) (fun hb8=>?_))
   ·have hp15:num<0:=(dq).1 hb8
    refine Z0 6 (.n 99 (.b true) (.d (.w .z))) (ie ?_)
    exact wk [0] (fq (fc (x:=.b true) (lb (by simp only [hb8];rfl)) fl))
   have hp16:¬(num<0):=Zv dq hb8
   refine Za 3 (.n 94 (.i num) (.n 96 (Zh n) (.w (.k .z)))) [0] [b1] (io (.i (((n.routines.map Yo).length:Nat):Int)) (.i (((WL (n.routines.map Yo)).length:Nat):Int)) (li (by rw [Z28])) (Z0 2 (.n 99 (.b (decide (num>=(((n.routines.map Yo).length:Nat):Int)))) .r) (ie ?_)))
   exact wk [0] (fq (fc (x:=.b (decide (num>=(((n.routines.map Yo).length:Nat):Int)))) (lb (by simp only [hb8];rfl)) fl))
  refine ac ((decide (num<0))||(decide (num>=(((n.routines.map Yo).length:Nat):Int)))) (p:=(num<0)∨(num>=(((n.routines.map Yo).length:Nat):Int))) (Zz dq dq) (fun hc12=>?_) (fun hc12=>?_)
  ·refine ar (ir 2 [(8,.i (-1)),(9,.b false)] (ie ?_))
   have hF:=Zxa (n:=n) (ts:=ts) hc11 hc12
   exact Z5 (r2 [] [.i (-1),.b false] ⟨(-1),rfl,rfl,(Z2z hF)⟩ (Zg.tup (.cons (lr _) (.cons (lb (sfn hF)) .nil))))
  refine ak (aD 14 (dT (fuel:=11) 14 [0,1,2] [(1,.i op),(2,.i num),(3,Z1 ts),(4,.p b1 0),(101,Zh n),(102,.i num)] [0] [b1] ?_))
  obtain ⟨x3,hx3⟩:=Zl (xs:=(n.routines.map Yo)) (j:=num.toNat) om
  obtain ⟨r,hr,hrx⟩:=Z5r hx3
  have hrp:=hn.params_at hr
  have hpx:x3.pms=r.params:=by rw [hrx];rfl
  have hpl:x3.pms.length<=3:=by rw [hpx];exact hrp
  refine dx 3 (Zj (es:=WL (n.routines.map Yo)) (hv:=none) (j:=num) (sz:=3) (y:=QE x3) kr om (JL hx3) rfl) (ZI (fuel:=5) 10 [4,5,6,7,8] (.n 105 (Z1 x3.pms) (.n 107 (Zh n) (.n 108 (.i num) .r))) [0] [b1] (dx 9 (Zj (es:=WL (n.routines.map Yo)) (hv:=none) (j:=num) (sz:=3) (y:=QE x3) kr om (JL hx3) rfl) (Zi (fuel:=0) 4 [10,11,12,13] (.n 10 (Z1 x3.pms) (.n 11 (.i x3.res) .r)) (de (aq (ar (Z0 2 (.n 113 (.b (op==9)) .r) (ie (ac (op==9) Ze (fun hc13=>?_) (fun hc13=>?_))))))))))
  ·refine ar (ir 3 [(114,.i x3.res),(115,Z1 ts),(116,Z1 x3.pms)] (ic [] (Z00 ts x3.pms) ?_))
   rintro _ _ ⟨rfl,rfl⟩
   refine ir 2 [(8,.i x3.res),(9,.b (decide (ts=x3.pms)))] (ie ?_)
   have hF:=sf9 (ts:=ts) hc13 hc12 hx3
   exact Z5 (r2 [] [.i x3.res,.b (decide (ts=x3.pms))] ⟨x3.res,rfl,rfl,(Je hF)⟩ (Zg.tup (.cons (lr _) (.cons (lb (Jd hF (by simp [*];try omega))) .nil))))
  refine ak (ar (Z0 1 (.n 118 (Z1 x3.pms) .r) (iw (ZD x3.pms) (ia (((x3.pms.length:Int)-1)) (((x3.pms.length:Int))-(1)) (Z0 1 (.n 16 (.i ((x3.pms.length:Int)-1)) .r) (ie (aq (ar (Z0 2 (.n 122 (.b (decide (((x3.pms.length:Int)-1)<0))) .r) (ie (ac (decide (((x3.pms.length:Int)-1)<0)) dq (fun hc14=>?_) (fun hc14=>?_))))))))))))
  ·refine ar (ir 2 [(8,.i (-1)),(9,.b false)] (ie ?_))
   have hF:=Zx7 (ts:=ts) (hc11.resolve_left hc13) hc12 hx3 hc14
   exact Z5 (r2 [] [.i (-1),.b false] ⟨(-1),rfl,rfl,(Z2z hF)⟩ (Zg.tup (.cons (lr _) (.cons (lb (sfn hF)) .nil))))
  refine ak (aD 9 (ZI (fuel:=5) 9 [0,1,2,3] (.n 124 (Z3 n.decls) (.n 125 (Z1 x3.pms) (.n 126 (.i ((x3.pms.length:Int)-1)) .r))) [0] [b1] ?_))
  obtain ⟨x4,hx4⟩:=Zl (xs:=x3.pms) (j:=((x3.pms.length:Int)-1).toNat) om
  refine dx 4 (Zj (es:=Z6 x3.pms) (hv:=none) (j:=((x3.pms.length:Int)-1)) (sz:=1) (y:=.i x4) kr om (ZH hx4) rfl) (Zi (fuel:=2) 4 [5,6] (.n 128 (.i x4) (.n 129 (.i x3.res) .r)) (Zm 7 (dc 7 [] [] [] (Zrr n.decls x4 x3.res) ?_)))
  rintro _ _ ⟨rfl,rfl⟩
  refine Zi (fuel:=0) 1 [8] (.n 17 (.i (WV n.decls x4 x3.res)) .r) (de (ar (YV 10 [(131,.i (WV n.decls x4 x3.res)),(140,.b ((decide ((WV n.decls x4 x3.res)>=0))&&(decide (ts=(x3.pms.take (((x3.pms.length:Int)-1).toNat))))))] [.obj b1 [Z3 n.decls,Zh n]] ?_ (fun hj6=>?_))))
  ·refine ir 2 [(8,.i (WV n.decls x4 x3.res)),(9,.b ((decide ((WV n.decls x4 x3.res)>=0))&&(decide (ts=(x3.pms.take (((x3.pms.length:Int)-1).toNat))))))] (ie ?_)
   have hF:=Zx6 (ts:=ts) (hc11.resolve_left hc13) hc12 hx3 hc14 hx4
   exact Z5 (r2 [] [.i (WV n.decls x4 x3.res),.b ((decide ((WV n.decls x4 x3.res)>=0))&&(decide (ts=(x3.pms.take (((x3.pms.length:Int)-1).toNat)))))] ⟨WV n.decls x4 x3.res,rfl,rfl,(Je hF)⟩ (Zg.tup (.cons (lr _) (.cons (lb (Jd hF (by rw [YW];simp))) .nil))))
  refine ir 4 [(3,Z1 ts),(10,Z1 x3.pms),(16,.i ((x3.pms.length:Int)-1)),(131,.i (WV n.decls x4 x3.res)),(134,.b (decide ((WV n.decls x4 x3.res)>=0)))] (ib (b:=(decide ((WV n.decls x4 x3.res)>=0))) 134 (fun hb9=>?_) (fun hb9=>?_))
  ·have hp17:(WV n.decls x4 x3.res)>=0:=(dq).1 hb9
   refine Z0 3 (.n 135 (Z1 ts) (.n 136 (Z1 x3.pms) (.n 137 (.i ((x3.pms.length:Int)-1)) (.k (.d (.d (.d (.k .z)))))))) (Zf (Z33 (es:=Z6 x3.pms) (hv:=none) (l:=0) (m:=((x3.pms.length:Int)-1)) (sz:=1) (es':=Z6 (x3.pms.take (((x3.pms.length:Int)-1).toNat))) kr om (by simp<;>omega) (by simp<;>omega) (YS _) (by first|(simp only [Te,Qh,Qr,Kg];done)|(simp only [Te,Qh,Qr,Kg];rfl)|(simp [Qr,Kg];done))) (ic [] (Z00 ts (x3.pms.take (((x3.pms.length:Int)-1).toNat))) ?_))
   rintro _ _ ⟨rfl,rfl⟩
   refine Z0 1 (.n 140 (.b (decide (ts=(x3.pms.take (((x3.pms.length:Int)-1).toNat))))) .r) ?_
   exact ZL (wk [0] (fr (fc (x:=.b (decide (ts=(x3.pms.take (((x3.pms.length:Int)-1).toNat))))) (lb (by simp only [hb9];rfl)) fl))) hj6
  have hp18:¬((WV n.decls x4 x3.res)>=0):=Zv dq hb9
  refine Z0 6 (.n 140 (.b false) (.d (.d (.d (.d (.k .z)))))) ?_
  exact ZL (wk [0] (fr (fc (x:=.b false) (lb (by simp only [hb9];rfl)) fl))) hj6
 refine ar (ir 2 [(8,.i (-1)),(9,.b false)] (ie ?_))
 have hF:=sfd (n:=n) (num:=num) (ts:=ts) hc1 hc5 hc6 hc7 hc9 hc11
 exact Z5 (r2 [] [.i (-1),.b false] ⟨(-1),rfl,rfl,(Z2z hF)⟩ (Zg.tup (.cons (lr _) (.cons (lb (sfn hF)) .nil))))
theorem Zg1 (n:Normal) (us:List Int) (ks:List Block) (ms:List (List Int)) (hn:NOk n:=by exact ob) (hnn:∀t∈us,0<=t) (hk:0<ks.length:=by exact ob) (hl:ks.length=ms.length:=by exact ob) (hb:us.length+3+4*Yx ks<=1000000000:=by exact ob) (hr:QG ks:=by exact ob) (hm3:∀m∈ms,m.length<=3) (hmn:∀m∈ms,∀f∈m,0<=f) (ih:∀(b:Block) (us:List Int),(b.sz<=Yx ks)->(us.length+4*b.sz<=1000000000)->(b.rng)->(∀t∈us,0<=t)->Zd Tryz.prog 83 [.agg [Z3 n.decls,Zh n],Z1 us,Zx b] [] (fun r h=>r=.i (ZF n us b)/\h=[])):Zd Tryz.prog 147 [.agg [Z3 n.decls,Zh n],Z1 us,ZT ks,YL ms] [] (fun r h=>r=.tup [.i (Xm n us ks ms true 0),.b (decide (0<=Xm n us ks ms true 0))]/\h=[]):=by
 have hkl:=Z79 ks
 refine enter Tryz.func147 kr (n:=45) kr kr (ar (iA [Z3 n.decls,Zh n] ?_))
 intro b1
 refine ir 2 [(1,Z1 us),(2,ZT ks),(3,YL ms),(4,.p b1 0)] (ie (ar (Z0 1 (.n 10 (.i (-1)) .r) (ie (aq (ar (Z0 1 (.n 14 (ZT ks) .r) (iw (VJ ks) (Z0 1 (.n 16 (.i 0) .r) (ie (ab 0 (al (fun m F h=>∃(k:Nat) (t:Int),(k<=ks.length)/\(0<k->0<=t)/\(Xm n us (ks.drop k) (ms.drop k) (decide (k=0)) t=Xm n us ks ms true 0)/\F=[(1,Z1 us),(3,YL ms),(4,.p b1 0),(10,.i t),(14,ZT ks),(15,.i ks.length),(16,.i k)]/\h=[.obj b1 [Z3 n.decls,Zh n]]/\m=ks.length-k) _ _ _ ⟨0,(-1),ob,ob,(Zt9 hk (-1)),rfl,rfl,rfl⟩ (wk [0] (fq (fw (fc (x:=.i 0) li fl)))) ?_))))))))))))
 rintro m F h ⟨k,t,c0_0,c0_1,c0_2,rfl,rfl,rfl⟩
 refine ar (Z0 1 (.n 17 (.b (decide ((k:Int)<(ks.length:Int)))) .r) (ie (aq (ac (decide ((k:Int)<(ks.length:Int))) dq (fun hc1=>?_) (fun hc1=>?_)))))
 ·refine ak (aq (ab 1 (ar (Z0 1 (.n 18 (.i k) .r) ?_))))
  obtain ⟨x1,hx1⟩:=Zl (xs:=ks) (j:=k) om
  have hbs:=Zd7 hx1
  have hbr:=Z40 hr hx1
  refine Zf (Zj (es:=Xw ks) (hv:=none) (j:=(k:Int)) (sz:=2) (y:=Zx x1) kr om (WY hx1) rfl) (Z0 1 (.n 20 (Zx x1) .r) (iA [nl,.i 0] ?_))
  intro b2
  refine Z0 1 (.n 11 (.i k) .r) (iS 0 b2 0 (YY x1) [nl,.i 0] (YY x1) (ie (aD 11 (ZI (fuel:=7) 11 [0,1,2,3] (.n 21 (.agg [Z3 n.decls,Zh n]) (.n 22 (Z1 us) (.n 23 (YL ms) (.n 24 (.i k) .r)))) [1] [b1] ?_))))
  obtain ⟨x2,hx2⟩:=Zl (xs:=ms) (j:=k) om
  have hxl:=hm3 x2 (ZV hx2)
  have hxn:=hmn x2 (ZV hx2)
  refine dx 4 (Zj (es:=XO ms) (hv:=none) (j:=(k:Int)) (sz:=1) (y:=Z1 x2) kr om (KS hx2) rfl) (ZI (fuel:=4) 6 [5,8] (.n 26 (Z1 x2) (.n 29 (Zx x1) .r)) [0] [b2] (Zm 6 (dL 6 [0,1] [b2,b1] (XO [us,x2]) 2 1 ?_)))
  intro v1
  refine Zi (fuel:=3) 3 [] (.n 27 (YL [us,x2]) (.p .r)) (Zm 7 (dc 7 [] [0,1] [b2,b1] (Zxu [us,x2] (hf:=(by simp only [Z3d,ZC];omega))) ?_))
  rintro _ _ ⟨v2,rfl,rfl⟩
  refine Zi (fuel:=2) 2 [] (.n 28 (Z1 ([us,x2].flatten)) (.p .r)) (Zm 9 (dc 9 [] [] [] (ih x1 ([us,x2].flatten) ob (by simp only [Z3d,ZC];omega) ob (by rw [Z3d];exact Z2r hnn hxn)) ?_))
  rintro _ _ ⟨rfl,rfl⟩
  refine Zi (fuel:=0) 1 [10] (.n 13 (.i (ZF n ([us,x2].flatten) x1)) .r) (de (aq (ar (Xl [(1,Z1 us),(3,YL ms),(4,.p b1 0),(13,.i (ZF n ([us,x2].flatten) x1)),(14,ZT ks),(15,.i ks.length),(16,.i k),(41,.b ((decide ((ZF n ([us,x2].flatten) x1)<0))||((decide ((k:Int)>0))&&((ZF n ([us,x2].flatten) x1) != t))))] [.tail v2 1,.tail v1 1,.obj b2 (YY x1),.obj b1 [Z3 n.decls,Zh n]] ?_ ?_))))
  ·refine ir 3 [(1,Z1 us),(3,YL ms),(4,.p b1 0),(10,.i t),(11,.i k),(13,.i (ZF n ([us,x2].flatten) x1)),(14,ZT ks),(15,.i ks.length),(16,.i k),(33,.b (decide ((ZF n ([us,x2].flatten) x1)<0)))] (ib (b:=(decide ((ZF n ([us,x2].flatten) x1)<0))) 33 (fun hb1=>?_) (fun hb1=>?_))
   ·have hp1:(ZF n ([us,x2].flatten) x1)<0:=(dq).1 hb1
    refine Z0 8 (.n 41 (.b true) (.d (.k (.k (.k (.d (.d (.w .z)))))))) (ie ?_)
    exact wk [0,0,0,0] (fq (fw (fr (fc (x:=.b true) (lb (by simp only [hb1];rfl)) fl))))
   have hp2:¬((ZF n ([us,x2].flatten) x1)<0):=Zv dq hb1
   refine Z0 3 (.n 36 (.b (decide ((k:Int)>0))) (.w (.k (.d (.w .z))))) (ib (b:=(decide ((k:Int)>0))) 36 (fun hb2=>?_) (fun hb2=>?_))
   ·have hp3:(k:Int)>0:=(dq).1 hb2
    refine Z0 5 (.n 41 (.b ((ZF n ([us,x2].flatten) x1) != t)) (.k (.d .r))) (ie ?_)
    exact wk [0,0,0,0] (fq (fw (fr (fc (x:=.b ((ZF n ([us,x2].flatten) x1) != t)) (lb (by simp only [hb1,hb2];rfl)) fl))))
   have hp4:¬((k:Int)>0):=Zv dq hb2
   refine Z0 5 (.n 41 (.b false) (.k (.d .r))) (ie ?_)
   exact wk [0,0,0,0] (fq (fw (fr (fc (x:=.b false) (lb (by simp only [hb1,hb2];rfl)) fl))))
  refine ac ((decide ((ZF n ([us,x2].flatten) x1)<0))||((decide ((k:Int)>0))&&((ZF n ([us,x2].flatten) x1) != t))) (p:=((ZF n ([us,x2].flatten) x1)<0)∨(((k:Int)>0)/\((ZF n ([us,x2].flatten) x1)≠t))) (Zz dq (ZZ dq Zw)) (fun hc2=>?_) (fun hc2=>?_)
  ·refine ar (ir 2 [(8,.i (-1)),(9,.b false)] (ie ?_))
   have hK:Xm n us ks ms true 0=-1:=by rw [<-c0_2];rw [Z3d] at hc2;exact Zgi hx1 hx2 hc2
   exact Z5 (r2 [] [.i (-1),.b false] ⟨rfl,rfl⟩ (Zg.tup (.cons (li (by rw [hK])) (.cons (lb (by rw [hK];rfl)) .nil))))
  refine ak (az (ir 2 [(1,Z1 us),(3,YL ms),(4,.p b1 0),(10,.i (ZF n ([us,x2].flatten) x1)),(14,ZT ks),(15,.i ks.length),(16,.i k)] (ie (az (ia (((k+1:Nat):Int)) (((k:Int))+(1)) (Z0 1 (.n 16 (.i (k+1:Nat)) (.p (.w (.k (.k .z))))) (ie ?_)))))))
  exact ⟨_,_,_,ob,⟨k+1,ZF n ([us,x2].flatten) x1,ob,(by intro _;omega),(by rw [Z3d] at hc2 ⊢;rw [<-c0_2];exact (Zgm hx1 hx2 hc2).symm),rfl,rfl,rfl⟩,(wk [3] (fq (fw (fc (x:=.i (k+1:Nat)) li fl))))⟩
 refine ax 0 (ar (ir 3 [(8,.i t),(9,.b true)] (ie ?_)))
 have hK:Xm n us ks ms true 0=t:=by rw [<-c0_2];exact Zgj om
 exact Z5 (r2 [] [.i t,.b true] ⟨rfl,rfl⟩ (Zg.tup (.cons (li (by rw [hK])) (.cons (lb (by rw [hK];exact (decide_eq_true (c0_1 om)).symm)) .nil))))
theorem Zg2 (n:Normal) (us:List Int) (s:Step) (hn:NOk n:=by exact ob) (hty:NTy n:=by exact ob) (hnn:∀t∈us,0<=t) (hb:us.length+4*s.sz<=1000000000:=by exact ob) (hr:s.rng:=by exact ob) (ih:∀(b:Block) (us:List Int),(b.sz<s.sz)->(us.length+4*b.sz<=1000000000)->(b.rng)->(∀t∈us,0<=t)->Zd Tryz.prog 83 [.agg [Z3 n.decls,Zh n],Z1 us,Zx b] [] (fun r h=>r=.i (ZF n us b)/\h=[])):Zd Tryz.prog 119 [.agg [Z3 n.decls,Zh n],Z1 us,ZN s] [] (fun r h=>∃(t:Int),r=.tup [.i t,.b (decide (0<=Zp n us s))]/\h=[]/\(¬Y2 s.op=true->0<=Zp n us s->t=Zp n us s)):=by
 have hdk:=hn.decls
 have hkz:=UO s
 have haz:=TR s
 have hse:=s.sz_eq
 rw [s.rng_eq] at hr
 obtain ⟨hnum,hkr⟩:=hr
 refine enter Tryz.func119 kr (n:=233) kr kr (ar (iA [Z3 n.decls,Zh n] ?_))
 intro b1
 refine iA (ZE s) ?_
 intro b2
 refine ir 2 [(1,Z1 us),(3,.p b1 0),(5,.p b2 0)] (ie (ar (Za 2 (.n 16 (Z1 s.args) .r) [0] [b2] (iw (ZD s.args) (iM 0 s.args.length ?_)))))
 intro v1
 refine Z0 1 (.n 8 (Zb [] v1) .r) (ie (aq (ar (Za 2 (.n 20 (Z1 s.args) .r) [1] [b2] (iw (ZD s.args) (Z0 1 (.n 22 (.i 0) .r) (ie (ab 0 (al (fun m F h=>∃(k:Nat) (ts:List Int) (v:Value),(k<=s.args.length)/\(ts.length=k)/\(X0 us (s.args.take k)=some ts)/\F=[(1,Z1 us),(3,.p b1 0),(5,.p b2 0),(8,Zb ts v),(20,Z1 s.args),(21,.i s.args.length),(22,.i k)]/\h=[.obj b2 (ZE s),.obj b1 [Z3 n.decls,Zh n],.tail v 1]/\m=s.args.length-k) _ _ _ ⟨0,[],v1,ob,ob,ob,rfl,rfl,rfl⟩ (wk [1,1,0] (fq (fw (fc (x:=.i 0) li fl)))) ?_)))))))))
 rintro m F h ⟨k,ts,v,c0_0,c0_1,c0_2,rfl,rfl,rfl⟩
 refine ar (Z0 1 (.n 23 (.b (decide ((k:Int)<(s.args.length:Int)))) .r) (ie (aq (ac (decide ((k:Int)<(s.args.length:Int))) dq (fun hc1=>?_) (fun hc1=>?_)))))
 ·refine ak (aq (ab 1 (ar ?_)))
  obtain ⟨x1,hx1⟩:=Zl (xs:=s.args) (j:=k) om
  refine Zf (Zj (es:=Z6 s.args) (hv:=none) (j:=(k:Int)) (sz:=1) (y:=.i x1) kr om (ZH hx1) rfl) (Z0 2 (.n 10 (.i x1) .r) (ie (aq (ar (Xl [(1,Z1 us),(3,.p b1 0),(5,.p b2 0),(8,Zb ts v),(10,.i x1),(20,Z1 s.args),(21,.i s.args.length),(22,.i k),(33,.b ((decide (x1<0))||(decide (x1>=(us.length:Int)))))] [.obj b2 (ZE s),.obj b1 [Z3 n.decls,Zh n],.tail v 1] ?_ ?_)))))
  ·refine ir 3 [(1,Z1 us),(3,.p b1 0),(5,.p b2 0),(8,Zb ts v),(10,.i x1),(20,Z1 s.args),(21,.i s.args.length),(22,.i k),(28,.b (decide (x1<0)))] (ib (b:=(decide (x1<0))) 28 (fun hb1=>?_) (fun hb1=>?_))
   ·have hp1:x1<0:=(dq).1 hb1
    refine Z0 5 (.n 33 (.b true) (.d (.w (.w .z)))) (ie ?_)
    exact wk [0,0,0] (fq (fq (fc (x:=.b true) (lb (by simp only [hb1];rfl)) fl)))
   have hp2:¬(x1<0):=Zv dq hb1
   refine Z0 2 (.n 29 (.i x1) (.n 30 (Z1 us) (.w (.w (.k .z))))) (iw (ZD us) (Z0 2 (.n 33 (.b (decide (x1>=(us.length:Int)))) .r) (ie ?_)))
   exact wk [0,0,0] (fq (fq (fc (x:=.b (decide (x1>=(us.length:Int)))) (lb (by simp only [hb1];rfl)) fl)))
  refine ac ((decide (x1<0))||(decide (x1>=(us.length:Int)))) (p:=(x1<0)∨(x1>=(us.length:Int))) (Zz dq dq) (fun hc2=>?_) (fun hc2=>?_)
  ·refine ar (ir 2 [(6,.i (-1)),(7,.b false)] (ie ?_))
   have hS:Zp n us s=-1:=Zzm (Zcn hx1 (Tm om))
   exact Z5 (r2 [] [.i (-1),.b false] ⟨(-1),rfl,rfl,(by intro _ h;rw [hS] at h;omega)⟩ (Zg.tup (.cons (lr _) (.cons (lb (by rw [hS];rfl)) .nil))))
  refine ak (az (ir 3 [(1,Z1 us),(3,.p b1 0),(5,.p b2 0),(20,Z1 s.args),(21,.i s.args.length),(22,.i k),(34,Zb ts v),(35,Z1 us),(36,.i x1)] ?_))
  obtain ⟨x2,hx2⟩:=Zl (xs:=us) (j:=x1.toNat) om
  refine Zf (Zj (es:=Z6 us) (hv:=none) (j:=x1) (sz:=1) (y:=.i x2) kr om (ZH hx2) rfl) (Z0 1 (.n 38 (.i x2) .r) (iL (Z6 [x2]) 1 1 ?_))
  intro v2
  refine Z0 0 (.n 39 (Z1 [x2]) (.p .r)) (ip 3 (Z6 (ts++[x2])) (Z6 ts) (Z6 [x2]) v none 1 (YS _) (YS _) (VL _) (by simp<;>omega) (by simp [VK,Z6]) ?_)
  intro v3
  refine Z0 1 (.n 8 (Zb (ts++[x2]) v3) .r) (ie (az (ia (((k+1:Nat):Int)) (((k:Int))+(1)) (Z0 1 (.n 22 (.i (k+1:Nat)) (.p (.k (.p (.d (.d (.p (.w (.k .z))))))))) (ie ?_)))))
  exact ⟨_,_,_,ob,⟨k+1,(ts++[x2]),v3,ob,ob,(Zm9 c0_2 hx1 (by rw [Ut om hx2])),rfl,rfl,rfl⟩,(wk [2,2,0] (fq (fw (fc (x:=.i (k+1:Nat)) li fl))))⟩
 refine ax 0 (aq (ar (Xl [(1,Z1 us),(3,.p b1 0),(5,.p b2 0),(8,Zb ts v),(70,.b ((s.into != 0)&&((s.op != 6)||((decide (s.into<1))||((decide (s.into>(us.length:Int)))||((gI us (s.into-1))==0))))))] [.obj b2 (ZE s),.obj b1 [Z3 n.decls,Zh n],.tail v 1] ?_ ?_)))
 ·refine iR 4 [(1,Z1 us),(3,.p b1 0),(5,.p b2 0),(8,Zb ts v),(45,.b (s.into != 0))] [0] [b2] (ib (b:=(s.into != 0)) 45 (fun hb2=>?_) (fun hb2=>?_))
  ·have hp3:s.into≠0:=(Zw).1 hb2
   refine Za 4 (.n 49 (.b (s.op != 6)) (.w (.k .z))) [0] [b2] (ib (b:=(s.op != 6)) 49 (fun hb3=>?_) (fun hb3=>?_))
   ·have hp4:s.op≠6:=(Zw).1 hb3
    refine Z0 21 (.n 70 (.b true) (.k (.d .r))) (ie ?_)
    exact wk [0,0,0] (fq (fc (x:=.b true) (lb (by simp only [hb2,hb3];rfl)) fl))
   have hp5:¬(s.op≠6):=Zv Zw hb3
   refine Za 5 (.n 54 (.b (decide (s.into<1))) (.d (.d .r))) [0] [b2] (ib (b:=(decide (s.into<1))) 54 (fun hb4=>?_) (fun hb4=>?_))
   ·have hp6:s.into<1:=(dq).1 hb4
    refine Z0 16 (.n 70 (.b true) (.k (.d .r))) (ie ?_)
    exact wk [0,0,0] (fq (fc (x:=.b true) (lb (by simp only [hb2,hb3,hb4];rfl)) fl))
   have hp7:¬(s.into<1):=Zv dq hb4
   refine Za 3 (.n 56 (.i s.into) (.n 57 (Z1 us) (.k (.d .r)))) [0] [b2] (iw (ZD us) (Z0 3 (.n 61 (.b (decide (s.into>(us.length:Int)))) .r) (ib (b:=(decide (s.into>(us.length:Int)))) 61 (fun hb5=>?_) (fun hb5=>?_))))
   ·have hp8:s.into>(us.length:Int):=(dq).1 hb5
    refine Z0 9 (.n 70 (.b true) (.k (.d .r))) (ie ?_)
    exact wk [0,0,0] (fq (fc (x:=.b true) (lb (by simp only [hb2,hb3,hb4,hb5];rfl)) fl))
   have hp9:¬(s.into>(us.length:Int)):=Zv dq hb5
   refine Za 3 (.n 62 (Z1 us) (.n 64 (.i s.into) (.k (.d .r)))) [0] [b2] (ia ((s.into-1)) ((s.into)-(1)) (Zf (Zj (es:=Z6 us) (hv:=none) (j:=(s.into-1)) (sz:=1) (y:=.i (gI us (s.into-1))) kr om (ZH (Zfj om)) rfl) (Z0 4 (.n 70 (.b ((gI us (s.into-1))==0)) .r) (ie ?_))))
   exact wk [0,0,0] (fq (fc (x:=.b ((gI us (s.into-1))==0)) (lb (by simp only [hb2,hb3,hb4,hb5];rfl)) fl))
  have hp10:¬(s.into≠0):=Zv Zw hb2
  refine Z0 25 (.n 70 (.b false) (.d (.w .z))) (ie ?_)
  exact wk [0,0,0] (fq (fc (x:=.b false) (lb (by simp only [hb2];rfl)) fl))
 refine ac ((s.into != 0)&&((s.op != 6)||((decide (s.into<1))||((decide (s.into>(us.length:Int)))||((gI us (s.into-1))==0))))) (p:=(s.into≠0)/\((s.op≠6)∨((s.into<1)∨((s.into>(us.length:Int))∨((gI us (s.into-1))=0))))) (ZZ Zw (Zz Zw (Zz dq (Zz dq Ze)))) (fun hc3=>?_) (fun hc3=>?_)
 ·refine ar (ir 2 [(6,.i (-1)),(7,.b false)] (ie ?_))
  have hS:Zp n us s=-1:=Zzn (Kt.1 hc3)
  exact Z5 (r2 [] [.i (-1),.b false] ⟨(-1),rfl,rfl,(by intro _ h;rw [hS] at h;omega)⟩ (Zg.tup (.cons (lr _) (.cons (lb (by rw [hS];rfl)) .nil))))
 refine ak (aq (ab 2 (ar (iR 2 [(1,Z1 us),(3,.p b1 0),(5,.p b2 0),(8,Zb ts v),(73,.i s.op)] [0] [b2] (ic [] (Z4w s.op) ?_)))))
 rintro _ _ ⟨rfl,rfl⟩
 refine Z0 1 (.n 71 (.b (Y2 s.op)) .r) (ie (ac (Y2 s.op) Iff.rfl (fun hc4=>?_) (fun hc4=>?_)))
 ·refine ar (Z0 1 (.n 75 (Zb ts v) .r) (iw (ZD ts) (YV 9 [(3,.p b1 0),(5,.p b2 0),(8,Zb ts v),(83,.b (((ts.length:Int)==1)&&((gI ts 0) != 0)))] [.obj b2 (ZE s),.obj b1 [Z3 n.decls,Zh n],.tail v 1] ?_ (fun hj1=>?_))))
  ·refine YV 14 [(3,.p b1 0),(5,.p b2 0),(8,Zb ts v),(88,.b ((((ts.length:Int)==1)&&((gI ts 0) != 0))&&(s.num==0)))] [.obj b2 (ZE s),.obj b1 [Z3 n.decls,Zh n],.tail v 1] ?_ (fun hj2=>?_)
   ·refine YV 20 [(3,.p b1 0),(5,.p b2 0),(8,Zb ts v),(94,.b (((((ts.length:Int)==1)&&((gI ts 0) != 0))&&(s.num==0))&&((s.kids.length:Int)==0)))] [.obj b2 (ZE s),.obj b1 [Z3 n.decls,Zh n],.tail v 1] ?_ (fun hj3=>?_)
    ·refine ir 1 [(3,.p b1 0),(5,.p b2 0),(8,Zb ts v),(11,.b (((((ts.length:Int)==1)&&((gI ts 0) != 0))&&(s.num==0))&&((s.kids.length:Int)==0)))] (ie (aq (ar (Xl [(3,.p b1 0),(8,Zb ts v),(11,.b (((((ts.length:Int)==1)&&((gI ts 0) != 0))&&(s.num==0))&&((s.kids.length:Int)==0))),(105,.b ((((((ts.length:Int)==1)&&((gI ts 0) != 0))&&(s.num==0))&&((s.kids.length:Int)==0))&&((s.op==16)||(s.op==17))))] [.obj b2 (ZE s),.obj b1 [Z3 n.decls,Zh n],.tail v 1] ?_ ?_))))
     ·refine ir 2 [(3,.p b1 0),(5,.p b2 0),(8,Zb ts v),(11,.b (((((ts.length:Int)==1)&&((gI ts 0) != 0))&&(s.num==0))&&((s.kids.length:Int)==0))),(96,.b (((((ts.length:Int)==1)&&((gI ts 0) != 0))&&(s.num==0))&&((s.kids.length:Int)==0)))] (ib (b:=(((((ts.length:Int)==1)&&((gI ts 0) != 0))&&(s.num==0))&&((s.kids.length:Int)==0))) 96 (fun hb6=>?_) (fun hb6=>?_))
      ·have hp11:((((ts.length:Int)=1)/\((gI ts 0)≠0))/\(s.num=0))/\((s.kids.length:Int)=0):=((ZZ (ZZ (ZZ Ze Zw) Ze) Ze)).1 hb6
       refine Za 4 (.n 100 (.b (s.op==16)) (.w (.k .z))) [0] [b2] (ib (b:=(s.op==16)) 100 (fun hb7=>?_) (fun hb7=>?_))
       ·have hp12:s.op=16:=(Ze).1 hb7
        refine Z0 5 (.n 105 (.b true) (.k (.d .r))) (ie ?_)
        exact wk [0,0,0] (fw (fr (fc (x:=.b true) (lb (by simp only [hb6,hb7];rfl)) fl)))
       have hp13:¬(s.op=16):=Zv Ze hb7
       refine Za 5 (.n 105 (.b (s.op==17)) (.k (.d .r))) [0] [b2] (ie ?_)
       exact wk [0,0,0] (fw (fr (fc (x:=.b (s.op==17)) (lb (by simp only [hb6,hb7];rfl)) fl)))
      have hp14:¬(((((ts.length:Int)=1)/\((gI ts 0)≠0))/\(s.num=0))/\((s.kids.length:Int)=0)):=Zv (ZZ (ZZ (ZZ Ze Zw) Ze) Ze) hb6
      refine Z0 9 (.n 105 (.b false) (.d (.k (.d (.k (.k .z)))))) (ie ?_)
      exact wk [0,0,0] (fw (fr (fc (x:=.b false) (lb (by simp only [hb6];rfl)) fl)))
     refine ac ((((((ts.length:Int)==1)&&((gI ts 0) != 0))&&(s.num==0))&&((s.kids.length:Int)==0))&&((s.op==16)||(s.op==17))) (p:=(((((ts.length:Int)=1)/\((gI ts 0)≠0))/\(s.num=0))/\((s.kids.length:Int)=0))/\((s.op=16)∨(s.op=17))) (ZZ (ZZ (ZZ (ZZ Ze Zw) Ze) Ze) (Zz Ze Ze)) (fun hc5=>?_) (fun hc5=>?_)
     ·refine aD 12 (dT (fuel:=9) 12 [0,1,2] [(108,Z3 n.decls),(109,Zb ts v)] [1] [b1] (dx 3 (Zj (es:=Z6 ts) (hv:=some v) (j:=0) (sz:=1) (y:=.i (gI ts 0)) kr om (ZH (Z4n om)) rfl) (Zi (fuel:=7) 8 [4] (.n 111 (.i (gI ts 0)) .r) (dK (fun F h=>F=[(13,.b (Yv n.decls (gI ts 0)))]/\h=[.obj b2 (ZE s),.obj b1 [Z3 n.decls,Zh n],.tail v 1]) ?_ ?_))))
      ·refine Z21 5 9 ?_ ?_
       ·refine dc 5 [] [] [] (Z4v n.decls (gI ts 0)) ?_
        rintro _ _ ⟨rfl,rfl⟩
        refine dt (fuel:=3) 6 [6,7,8] [(113,Yw (Xe n.decls (gI ts 0))),(114,.b (Yv n.decls (gI ts 0)))] (Zm 9 (dA 9 [] [] [.i 0,.i 0,nl] ?_))
        intro b3
        refine Zm 10 (dS 10 0 [] [] b3 0 (Ys (Xe n.decls (gI ts 0))) [.i 0,.i 0,nl] (Ys (Xe n.decls (gI ts 0))) (dt (fuel:=0) 1 [11] [(13,.b (Yv n.decls (gI ts 0)))] (de ?_)))
        exact ⟨_,_,⟨rfl,rfl⟩,(wk [1,1,1] fl)⟩
       refine dA 9 [1] [b1] [.i 0,.i 0,nl] ?_
       intro b4
       refine Zm 5 (dc 5 [] [] [] (Z4v n.decls (gI ts 0)) ?_)
       rintro _ _ ⟨rfl,rfl⟩
       refine dt (fuel:=2) 5 [6,7,8] [(12,.p b4 0),(113,Yw (Xe n.decls (gI ts 0))),(114,.b (Yv n.decls (gI ts 0)))] (Zm 10 (dS 10 0 [] [] b4 0 (Ys (Xe n.decls (gI ts 0))) [.i 0,.i 0,nl] (Ys (Xe n.decls (gI ts 0))) (dt (fuel:=0) 1 [11] [(13,.b (Yv n.decls (gI ts 0)))] (de ?_))))
       exact ⟨_,_,⟨rfl,rfl⟩,(wk [1,1,1] fl)⟩
      rintro F h ⟨rfl,rfl⟩
      refine az (ir 3 [(11,.b (!Yv n.decls (gI ts 0)))] (ie (ar (ir 3 [(6,.i (-1)),(7,.b (!Yv n.decls (gI ts 0)))] (ie ?_)))))
      have hS0:=Jm (n:=n) hnn (KM c0_2 om) (fun q=>hc3 (Kt.2 q))
      exact Z5 (r2 [] [.i (-1),.b (!Yv n.decls (gI ts 0))] ⟨(-1),rfl,rfl,(fun q=>absurd hc4 q)⟩ (Zg.tup (.cons (lr _) (.cons (lb (Zz2 hS0 hc4 hc5)) .nil))))
     refine ak (ar (ir 3 [(6,.i (-1)),(7,.b (((((ts.length:Int)==1)&&((gI ts 0) != 0))&&(s.num==0))&&((s.kids.length:Int)==0)))] (ie ?_)))
     have hS0:=Jm (n:=n) hnn (KM c0_2 om) (fun q=>hc3 (Kt.2 q))
     exact Z5 (r2 [] [.i (-1),.b (((((ts.length:Int)==1)&&((gI ts 0) != 0))&&(s.num==0))&&((s.kids.length:Int)==0))] ⟨(-1),rfl,rfl,(fun q=>absurd hc4 q)⟩ (Zg.tup (.cons (lr _) (.cons (lb (Zz3 hS0 hc4 hc5)) .nil))))
    refine ir 1 [(3,.p b1 0),(5,.p b2 0),(8,Zb ts v),(89,.b ((((ts.length:Int)==1)&&((gI ts 0) != 0))&&(s.num==0)))] (ib (b:=((((ts.length:Int)==1)&&((gI ts 0) != 0))&&(s.num==0))) 89 (fun hb8=>?_) (fun hb8=>?_))
    ·have hp15:(((ts.length:Int)=1)/\((gI ts 0)≠0))/\(s.num=0):=((ZZ (ZZ Ze Zw) Ze)).1 hb8
     refine Za 2 (.n 91 (ZT s.kids) (.w .z)) [0] [b2] (iw (VJ s.kids) (Z0 2 (.n 94 (.b ((s.kids.length:Int)==0)) .r) ?_))
     exact ZL (wk [0,0,0] (fw (fr (fc (x:=.b ((s.kids.length:Int)==0)) (lb (by simp only [hb8];rfl)) fl)))) hj3
    have hp16:¬((((ts.length:Int)=1)/\((gI ts 0)≠0))/\(s.num=0)):=Zv (ZZ (ZZ Ze Zw) Ze) hb8
    refine Z0 5 (.n 94 (.b false) (.d (.k (.k (.k .z))))) ?_
    exact ZL (wk [0,0,0] (fw (fr (fc (x:=.b false) (lb (by simp only [hb8];rfl)) fl)))) hj3
   refine ir 1 [(3,.p b1 0),(5,.p b2 0),(8,Zb ts v),(84,.b (((ts.length:Int)==1)&&((gI ts 0) != 0)))] (ib (b:=(((ts.length:Int)==1)&&((gI ts 0) != 0))) 84 (fun hb9=>?_) (fun hb9=>?_))
   ·have hp17:((ts.length:Int)=1)/\((gI ts 0)≠0):=((ZZ Ze Zw)).1 hb9
    refine Za 4 (.n 88 (.b (s.num==0)) (.d (.k (.k (.k .z))))) [0] [b2] ?_
    exact ZL (wk [0,0,0] (fw (fr (fc (x:=.b (s.num==0)) (lb (by simp only [hb9];rfl)) fl)))) hj2
   have hp18:¬(((ts.length:Int)=1)/\((gI ts 0)≠0)):=Zv (ZZ Ze Zw) hb9
   refine Z0 4 (.n 88 (.b false) (.d (.k (.k (.k .z))))) ?_
   exact ZL (wk [0,0,0] (fw (fr (fc (x:=.b false) (lb (by simp only [hb9];rfl)) fl)))) hj2
  refine ir 2 [(3,.p b1 0),(5,.p b2 0),(8,Zb ts v),(78,.b ((ts.length:Int)==1))] (ib (b:=((ts.length:Int)==1)) 78 (fun hb10=>?_) (fun hb10=>?_))
  ·have hp19:(ts.length:Int)=1:=(Ze).1 hb10
   refine Z0 1 (.n 79 (Zb ts v) (.w .z)) (Zf (Zj (es:=Z6 ts) (hv:=some v) (j:=0) (sz:=1) (y:=.i (gI ts 0)) kr om (ZH (Z4n om)) rfl) (Z0 3 (.n 83 (.b ((gI ts 0) != 0)) .r) ?_))
   exact ZL (wk [0,0,0] (fw (fr (fc (x:=.b ((gI ts 0) != 0)) (lb (by simp only [hb10];rfl)) fl)))) hj1
  have hp20:¬((ts.length:Int)=1):=Zv Ze hb10
  refine Z0 5 (.n 83 (.b false) (.d (.k (.k (.k .z))))) ?_
  exact ZL (wk [0,0,0] (fw (fr (fc (x:=.b false) (lb (by simp only [hb10];rfl)) fl)))) hj1
 refine ar (Za 4 (.n 118 (.b (s.op==7)) .r) [0] [b2] (ie (ac (s.op==7) Ze (fun hc6=>?_) (fun hc6=>?_))))
 ·refine aq (ar (Z0 1 (.n 122 (Zb ts v) .r) (iw (ZD ts) (YV 9 [(1,Z1 us),(3,.p b1 0),(5,.p b2 0),(130,.b (((ts.length:Int) != 1)||((gI ts 0) != 0)))] [.obj b2 (ZE s),.obj b1 [Z3 n.decls,Zh n],.tail v 1] ?_ (fun hj4=>?_)))))
  ·refine YV 14 [(1,Z1 us),(3,.p b1 0),(5,.p b2 0),(135,.b ((((ts.length:Int) != 1)||((gI ts 0) != 0))||(s.num != 0)))] [.obj b2 (ZE s),.obj b1 [Z3 n.decls,Zh n],.tail v 1] ?_ (fun hj5=>?_)
   ·refine Xl [(1,Z1 us),(3,.p b1 0),(5,.p b2 0),(141,.b (((((ts.length:Int) != 1)||((gI ts 0) != 0))||(s.num != 0))||((s.kids.length:Int) != 2)))] [.obj b2 (ZE s),.obj b1 [Z3 n.decls,Zh n],.tail v 1] ?_ ?_
    ·refine ir 1 [(1,Z1 us),(3,.p b1 0),(5,.p b2 0),(136,.b ((((ts.length:Int) != 1)||((gI ts 0) != 0))||(s.num != 0)))] (ib (b:=((((ts.length:Int) != 1)||((gI ts 0) != 0))||(s.num != 0))) 136 (fun hb11=>?_) (fun hb11=>?_))
     ·have hp21:(((ts.length:Int)≠1)∨((gI ts 0)≠0))∨(s.num≠0):=((Zz (Zz Zw Zw) Zw)).1 hb11
      refine Z0 5 (.n 141 (.b true) (.d (.k (.k (.k .z))))) (ie ?_)
      exact wk [0,0,0] (fw (fr (fc (x:=.b true) (lb (by simp only [hb11];rfl)) fl)))
     have hp22:¬((((ts.length:Int)≠1)∨((gI ts 0)≠0))∨(s.num≠0)):=Zv (Zz (Zz Zw Zw) Zw) hb11
     refine Za 2 (.n 138 (ZT s.kids) (.w .z)) [0] [b2] (iw (VJ s.kids) (Z0 2 (.n 141 (.b ((s.kids.length:Int) != 2)) .r) (ie ?_)))
     exact wk [0,0,0] (fw (fr (fc (x:=.b ((s.kids.length:Int) != 2)) (lb (by simp only [hb11];rfl)) fl)))
    refine ac (((((ts.length:Int) != 1)||((gI ts 0) != 0))||(s.num != 0))||((s.kids.length:Int) != 2)) (p:=((((ts.length:Int)≠1)∨((gI ts 0)≠0))∨(s.num≠0))∨((s.kids.length:Int)≠2)) (Zz (Zz (Zz Zw Zw) Zw) Zw) (fun hc7=>?_) (fun hc7=>?_)
    ·refine ar (ir 2 [(6,.i (-1)),(7,.b false)] (ie ?_))
     have hS0:=Jm (n:=n) hnn (KM c0_2 om) (fun q=>hc3 (Kt.2 q))
     have hS:=Zyy hS0 hc4 hc6 hc7
     exact Z5 (r2 [] [.i (-1),.b false] ⟨(-1),rfl,rfl,(by intro _ h;rw [hS] at h;omega)⟩ (Zg.tup (.cons (lr _) (.cons (lb (by rw [hS];rfl)) .nil))))
    refine ak (aD 10 (dT (fuel:=6) 10 [0,1,2,3] [(142,.agg [Z3 n.decls,Zh n]),(143,Z1 us),(145,ZT s.kids)] [1,0] [b1,b2] (Zm 4 (dMN 4 [0,1] [b2,b1] 2 2 ?_))))
    intro v4
    refine Zi (fuel:=5) 5 [] (.n 146 (YL (List.replicate 2 [])) (.p .r)) (Zm 5 (dc 5 [] [] [] (Zg1 n us s.kids (List.replicate 2 []) (hnn:=hnn) (hm3:=(by intro m hm;first|(rw [Z6d hm];simp;done)|(obtain ⟨c,_,rfl⟩:=YJ.1 hm;exact VV hdk c))) (hmn:=(by intro m hm f hf;first|(rw [Z6d hm] at hf;simp at hf;done)|(obtain ⟨c,_,rfl⟩:=YJ.1 hm;exact hty.fields c f hf))) (ih:=(fun b us2 h1 h2 h3 h4=>ih b us2 om h2 h3 h4))) ?_))
    rintro _ _ ⟨rfl,rfl⟩
    refine dt (fuel:=0) 4 [6,7,8,9] [(6,.i (Xm n us s.kids (List.replicate 2 []) true 0)),(7,.b (decide (0<=Xm n us s.kids (List.replicate 2 []) true 0)))] (de ?_)
    have hS0:=Jm (n:=n) hnn (KM c0_2 om) (fun q=>hc3 (Kt.2 q))
    have hS:=Zyz hS0 hc4 hc6 hc7
    exact Z5 (r2 [] [.i (Xm n us s.kids (List.replicate 2 []) true 0),.b (decide (0<=Xm n us s.kids (List.replicate 2 []) true 0))] ⟨Xm n us s.kids (List.replicate 2 []) true 0,rfl,rfl,(fun _ _=>hS.symm)⟩ (Zg.tup (.cons (lr _) (.cons (lb (by rw [hS])) .nil))))
   refine ir 1 [(1,Z1 us),(3,.p b1 0),(5,.p b2 0),(131,.b (((ts.length:Int) != 1)||((gI ts 0) != 0)))] (ib (b:=(((ts.length:Int) != 1)||((gI ts 0) != 0))) 131 (fun hb12=>?_) (fun hb12=>?_))
   ·have hp23:((ts.length:Int)≠1)∨((gI ts 0)≠0):=((Zz Zw Zw)).1 hb12
    refine Z0 4 (.n 135 (.b true) (.d (.k (.k (.k .z))))) ?_
    exact ZL (wk [0,0,0] (fw (fr (fc (x:=.b true) (lb (by simp only [hb12];rfl)) fl)))) hj5
   have hp24:¬(((ts.length:Int)≠1)∨((gI ts 0)≠0)):=Zv (Zz Zw Zw) hb12
   refine Za 4 (.n 135 (.b (s.num != 0)) (.d (.k (.k (.k .z))))) [0] [b2] ?_
   exact ZL (wk [0,0,0] (fw (fr (fc (x:=.b (s.num != 0)) (lb (by simp only [hb12];rfl)) fl)))) hj5
  refine ir 2 [(1,Z1 us),(3,.p b1 0),(5,.p b2 0),(8,Zb ts v),(125,.b ((ts.length:Int) != 1))] (ib (b:=((ts.length:Int) != 1)) 125 (fun hb13=>?_) (fun hb13=>?_))
  ·have hp25:(ts.length:Int)≠1:=(Zw).1 hb13
   refine Z0 5 (.n 130 (.b true) (.d (.k (.k (.k .z))))) ?_
   exact ZL (wk [0,0,0] (fw (fr (fc (x:=.b true) (lb (by simp only [hb13];rfl)) fl)))) hj4
  have hp26:¬((ts.length:Int)≠1):=Zv Zw hb13
  refine Z0 1 (.n 126 (Zb ts v) (.w .z)) (Zf (Zj (es:=Z6 ts) (hv:=some v) (j:=0) (sz:=1) (y:=.i (gI ts 0)) kr om (ZH (Z4n om)) rfl) (Z0 3 (.n 130 (.b ((gI ts 0) != 0)) .r) ?_))
  exact ZL (wk [0,0,0] (fw (fr (fc (x:=.b ((gI ts 0) != 0)) (lb (by simp only [hb13];rfl)) fl)))) hj4
 refine ar (Za 4 (.n 150 (.b (s.op==8)) .r) [0] [b2] (ie (ac (s.op==8) Ze (fun hc8=>?_) (fun hc8=>?_))))
 ·refine ar (Za 3 (.n 154 (.agg [Z3 n.decls,Zh n]) (.n 156 (.i s.num) .r)) [1,0] [b1,b2] (ic [] (Z8t _ s.num) ?_))
  rintro _ _ ⟨rfl,rfl⟩
  refine Z0 1 (.n 14 (YL ((Zt n.decls s.num).map (Zc n.decls))) .r) (ie (aq (aD 24 (Zi (fuel:=23) 24 [0] (.n 158 (Zb ts v) .r) (dw 1 (ZD ts) (Ke [(1,Z1 us),(3,.p b1 0),(5,.p b2 0),(14,YL ((Zt n.decls s.num).map (Zc n.decls))),(181,.b (((ts.length:Int) != 1)||(((gI ts 0) != s.num)||((((((Zt n.decls s.num).map (Zc n.decls)).length:Nat):Int)==0)||((s.kids.length:Int) != ((((Zt n.decls s.num).map (Zc n.decls)).length:Nat):Int))))))] [.obj b2 (ZE s),.obj b1 [Z3 n.decls,Zh n],.tail v 1] ?_ ?_))))))
  ·refine dt (fuel:=20) 22 [2,3] [(1,Z1 us),(3,.p b1 0),(5,.p b2 0),(8,Zb ts v),(14,YL ((Zt n.decls s.num).map (Zc n.decls))),(161,.b ((ts.length:Int) != 1))] (db (b:=((ts.length:Int) != 1)) 161 (fun hb14=>?_) (fun hb14=>?_))
   ·have hp27:(ts.length:Int)≠1:=(Zw).1 hb14
    refine Zi (fuel:=0) 20 [4,5,6,7,8,9,10,11,12,13,14,15,16,17,18,19,20,21,22,23] (.n 181 (.b true) (.d (.k (.k (.k (.d (.k .z))))))) (de ?_)
    exact wk [0,0,0] (fq (fc (x:=.b true) (lb (by simp only [hb14];rfl)) fl))
   have hp28:¬((ts.length:Int)≠1):=Zv Zw hb14
   refine Zi (fuel:=19) 20 [4] (.n 162 (Zb ts v) (.w (.d (.k .z)))) (dx 5 (Zj (es:=Z6 ts) (hv:=some v) (j:=0) (sz:=1) (y:=.i (gI ts 0)) kr om (ZH (Z4n om)) rfl) (ZI (fuel:=12) 18 [6,7,8,9,10,11] (.n 169 (.b ((gI ts 0) != s.num)) .r) [0] [b2] (db (b:=((gI ts 0) != s.num)) 169 (fun hb15=>?_) (fun hb15=>?_))))
   ·have hp29:(gI ts 0)≠s.num:=(Zw).1 hb15
    refine Zi (fuel:=0) 12 [12,13,14,15,16,17,18,19,20,21,22,23] (.n 181 (.b true) (.k (.d .r))) (de ?_)
    exact wk [0,0,0] (fq (fc (x:=.b true) (lb (by simp only [hb14,hb15];rfl)) fl))
   have hp30:¬((gI ts 0)≠s.num):=Zv Zw hb15
   refine Zi (fuel:=11) 12 [12] (.n 170 (YL ((Zt n.decls s.num).map (Zc n.decls))) (.k (.d .r))) (dn 13 (.i ((((Zt n.decls s.num).map (Zc n.decls)).length:Nat):Int)) (.i (((XO ((Zt n.decls s.num).map (Zc n.decls))).length:Nat):Int)) (li (by rw [Z27])) (Zi (fuel:=7) 10 [14,15,16] (.n 174 (.b (((((Zt n.decls s.num).map (Zc n.decls)).length:Nat):Int)==0)) .r) (db (b:=(((((Zt n.decls s.num).map (Zc n.decls)).length:Nat):Int)==0)) 174 (fun hb16=>?_) (fun hb16=>?_))))
   ·have hp31:((((Zt n.decls s.num).map (Zc n.decls)).length:Nat):Int)=0:=(Ze).1 hb16
    refine Zi (fuel:=0) 7 [17,18,19,20,21,22,23] (.n 181 (.b true) (.k (.d .r))) (de ?_)
    exact wk [0,0,0] (fq (fc (x:=.b true) (lb (by simp only [hb14,hb15,hb16];rfl)) fl))
   have hp32:¬(((((Zt n.decls s.num).map (Zc n.decls)).length:Nat):Int)=0):=Zv Ze hb16
   refine ZI (fuel:=5) 7 [17,18] (.n 176 (ZT s.kids) (.k (.d .r))) [0] [b2] (dw 19 (VJ s.kids) (Zi (fuel:=3) 4 [20] (.n 178 (YL ((Zt n.decls s.num).map (Zc n.decls))) .r) (dn 21 (.i ((((Zt n.decls s.num).map (Zc n.decls)).length:Nat):Int)) (.i (((XO ((Zt n.decls s.num).map (Zc n.decls))).length:Nat):Int)) (li (by rw [Z27])) (Zi (fuel:=0) 2 [22,23] (.n 181 (.b ((s.kids.length:Int) != ((((Zt n.decls s.num).map (Zc n.decls)).length:Nat):Int))) .r) (de ?_)))))
   exact wk [0,0,0] (fq (fc (x:=.b ((s.kids.length:Int) != ((((Zt n.decls s.num).map (Zc n.decls)).length:Nat):Int))) (lb (by simp only [hb14,hb15,hb16];rfl)) fl))
  refine ac (((ts.length:Int) != 1)||(((gI ts 0) != s.num)||((((((Zt n.decls s.num).map (Zc n.decls)).length:Nat):Int)==0)||((s.kids.length:Int) != ((((Zt n.decls s.num).map (Zc n.decls)).length:Nat):Int))))) (p:=((ts.length:Int)≠1)∨(((gI ts 0)≠s.num)∨((((((Zt n.decls s.num).map (Zc n.decls)).length:Nat):Int)=0)∨((s.kids.length:Int)≠((((Zt n.decls s.num).map (Zc n.decls)).length:Nat):Int))))) (Zz Zw (Zz Zw (Zz Ze Zw))) (fun hc9=>?_) (fun hc9=>?_)
  ·refine ar (ir 2 [(6,.i (-1)),(7,.b false)] (ie ?_))
   have hS0:=Jm (n:=n) hnn (KM c0_2 om) (fun q=>hc3 (Kt.2 q))
   have hS:=Zz0 hS0 hc4 hc6 hc8 hc9
   exact Z5 (r2 [] [.i (-1),.b false] ⟨(-1),rfl,rfl,(by intro _ h;rw [hS] at h;omega)⟩ (Zg.tup (.cons (lr _) (.cons (lb (by rw [hS];rfl)) .nil))))
  refine ak (ar (iR 5 [(182,.agg [Z3 n.decls,Zh n]),(183,Z1 us),(185,ZT s.kids),(186,YL ((Zt n.decls s.num).map (Zc n.decls)))] [1,0] [b1,b2] (ic [] (Zg1 n us s.kids ((Zt n.decls s.num).map (Zc n.decls)) (hnn:=hnn) (hm3:=(by intro m hm;first|(rw [Z6d hm];simp;done)|(obtain ⟨c,_,rfl⟩:=YJ.1 hm;exact VV hdk c))) (hmn:=(by intro m hm f hf;first|(rw [Z6d hm] at hf;simp at hf;done)|(obtain ⟨c,_,rfl⟩:=YJ.1 hm;exact hty.fields c f hf))) (ih:=(fun b us2 h1 h2 h3 h4=>ih b us2 om h2 h3 h4))) ?_)))
  rintro _ _ ⟨rfl,rfl⟩
  refine ir 4 [(6,.i (Xm n us s.kids ((Zt n.decls s.num).map (Zc n.decls)) true 0)),(7,.b (decide (0<=Xm n us s.kids ((Zt n.decls s.num).map (Zc n.decls)) true 0)))] (ie ?_)
  have hS0:=Jm (n:=n) hnn (KM c0_2 om) (fun q=>hc3 (Kt.2 q))
  have hS:=Zz1 hS0 hc4 hc6 hc8 hc9
  exact Z5 (r2 [] [.i (Xm n us s.kids ((Zt n.decls s.num).map (Zc n.decls)) true 0),.b (decide (0<=Xm n us s.kids ((Zt n.decls s.num).map (Zc n.decls)) true 0))] ⟨Xm n us s.kids ((Zt n.decls s.num).map (Zc n.decls)) true 0,rfl,rfl,(fun _ _=>hS.symm)⟩ (Zg.tup (.cons (lr _) (.cons (lb (by rw [hS])) .nil))))
 refine ar (Za 2 (.n 192 (ZT s.kids) .r) [0] [b2] (iw (VJ s.kids) (YV 33 [(3,.p b1 0),(5,.p b2 0),(8,Zb ts v),(223,.b ((decide ((s.kids.length:Int)>0))||((s.op==10)&&((decide (s.num>=0))&&((decide (s.num<(((n.routines.map Yo).length:Nat):Int)))&&(decide (((((W6 n s.num).lnt).length:Nat):Int)>0)))))))] [.obj b2 (ZE s),.obj b1 [Z3 n.decls,Zh n],.tail v 1] ?_ (fun hj6=>?_))))
 ·refine ir 1 [(3,.p b1 0),(5,.p b2 0),(8,Zb ts v),(190,.b ((decide ((s.kids.length:Int)>0))||((s.op==10)&&((decide (s.num>=0))&&((decide (s.num<(((n.routines.map Yo).length:Nat):Int)))&&(decide (((((W6 n s.num).lnt).length:Nat):Int)>0)))))))] (ie (ac ((decide ((s.kids.length:Int)>0))||((s.op==10)&&((decide (s.num>=0))&&((decide (s.num<(((n.routines.map Yo).length:Nat):Int)))&&(decide (((((W6 n s.num).lnt).length:Nat):Int)>0)))))) (p:=((s.kids.length:Int)>0)∨((s.op=10)/\((s.num>=0)/\((s.num<(((n.routines.map Yo).length:Nat):Int))/\(((((W6 n s.num).lnt).length:Nat):Int)>0))))) (Zz dq (ZZ Ze (ZZ dq (ZZ dq dq)))) (fun hc10=>?_) (fun hc10=>?_)))
  ·refine ar (ir 2 [(6,.i (-1)),(7,.b false)] (ie ?_))
   have hS0:=Jm (n:=n) hnn (KM c0_2 om) (fun q=>hc3 (Kt.2 q))
   have hS:=stB hS0 hc4 hc6 hc8 hc10
   exact Z5 (r2 [] [.i (-1),.b false] ⟨(-1),rfl,rfl,(by intro _ h;rw [hS] at h;omega)⟩ (Zg.tup (.cons (lr _) (.cons (lb (by rw [hS];rfl)) .nil))))
  refine ak (ar (iR 6 [(224,.agg [Z3 n.decls,Zh n]),(226,.i s.op),(228,.i s.num),(229,Z1 ts)] [1,0,0] [b1,b2,b2] (ic [] (Zs8 _ s.op s.num ts) ?_)))
  rintro _ _ ⟨t1,rfl,rfl,hp33⟩
  refine ir 4 [(6,.i t1),(7,.b ((Yt n s.op s.num ts).isSome))] (ie ?_)
  have hS0:=Jm (n:=n) hnn (KM c0_2 om) (fun q=>hc3 (Kt.2 q))
  have hS:=stS hS0 hc4 hc6 hc8 hc10
  exact Z5 (r2 [] [.i t1,.b ((Yt n s.op s.num ts).isSome)] ⟨t1,rfl,rfl,(Zz5 hS hp33)⟩ (Zg.tup (.cons (lr _) (.cons (lb (Zz4 hty hS)) .nil))))
 refine ir 2 [(3,.p b1 0),(5,.p b2 0),(8,Zb ts v),(195,.b (decide ((s.kids.length:Int)>0)))] (ib (b:=(decide ((s.kids.length:Int)>0))) 195 (fun hb17=>?_) (fun hb17=>?_))
 ·have hp34:(s.kids.length:Int)>0:=(dq).1 hb17
  refine Z0 28 (.n 223 (.b true) (.d (.k (.k (.k .z))))) ?_
  exact ZL (wk [0,0,0] (fw (fr (fc (x:=.b true) (lb (by simp only [hb17];rfl)) fl)))) hj6
 have hp35:¬((s.kids.length:Int)>0):=Zv dq hb17
 refine Za 4 (.n 199 (.b (s.op==10)) (.w .z)) [0] [b2] (ib (b:=(s.op==10)) 199 (fun hb18=>?_) (fun hb18=>?_))
 ·have hp36:s.op=10:=(Ze).1 hb18
  refine Za 5 (.n 204 (.b (decide (s.num>=0))) (.d (.d .r))) [0] [b2] (ib (b:=(decide (s.num>=0))) 204 (fun hb19=>?_) (fun hb19=>?_))
  ·have hp37:s.num>=0:=(dq).1 hb19
   refine Za 4 (.n 206 (.i s.num) (.n 208 (Zh n) (.k (.d .r)))) [0,1] [b2,b1] (io (.i (((n.routines.map Yo).length:Nat):Int)) (.i (((WL (n.routines.map Yo)).length:Nat):Int)) (li (by rw [Z28])) (Z0 3 (.n 212 (.b (decide (s.num<(((n.routines.map Yo).length:Nat):Int)))) .r) (ib (b:=(decide (s.num<(((n.routines.map Yo).length:Nat):Int)))) 212 (fun hb20=>?_) (fun hb20=>?_))))
   ·have hp38:s.num<(((n.routines.map Yo).length:Nat):Int):=(dq).1 hb20
    refine Za 4 (.n 214 (Zh n) (.n 216 (.i s.num) (.k (.d .r)))) [1,0] [b1,b2] (Zf (Zj (es:=WL (n.routines.map Yo)) (hv:=none) (j:=s.num) (sz:=3) (y:=QE (W6 n s.num)) kr om (JL (Zja om)) rfl) (Z0 2 (.n 219 (Z1 ((W6 n s.num).lnt)) .r) (io (.i ((((W6 n s.num).lnt).length:Nat):Int)) (.i (((Z6 ((W6 n s.num).lnt)).length:Nat):Int)) (li (by rw [ZD])) (Z0 3 (.n 223 (.b (decide (((((W6 n s.num).lnt).length:Nat):Int)>0))) .r) ?_))))
    exact ZL (wk [0,0,0] (fw (fr (fc (x:=.b (decide (((((W6 n s.num).lnt).length:Nat):Int)>0))) (lb (by simp only [hb17,hb18,hb19,hb20];rfl)) fl)))) hj6
   have hp39:¬(s.num<(((n.routines.map Yo).length:Nat):Int)):=Zv dq hb20
   refine Z0 11 (.n 223 (.b false) (.k (.d .r))) ?_
   exact ZL (wk [0,0,0] (fw (fr (fc (x:=.b false) (lb (by simp only [hb17,hb18,hb19,hb20];rfl)) fl)))) hj6
  have hp40:¬(s.num>=0):=Zv dq hb19
  refine Z0 19 (.n 223 (.b false) (.k (.d .r))) ?_
  exact ZL (wk [0,0,0] (fw (fr (fc (x:=.b false) (lb (by simp only [hb17,hb18,hb19];rfl)) fl)))) hj6
 have hp41:¬(s.op=10):=Zv Ze hb18
 refine Z0 24 (.n 223 (.b false) (.k (.d .r))) ?_
 exact ZL (wk [0,0,0] (fw (fr (fc (x:=.b false) (lb (by simp only [hb17,hb18];rfl)) fl)))) hj6
theorem Zru (n:Normal) (us:List Int) (b:Block) (hn:NOk n) (hnn:∀t∈us,0<=t) (hb:us.length+4*b.sz<=1000000000) (hr:b.rng) (ih:∀(s:Step) (us:List Int),(s.sz<b.sz)->(us.length+4*s.sz<=1000000000)->(s.rng)->(∀t∈us,0<=t)->Zd Tryz.prog 119 [.agg [Z3 n.decls,Zh n],Z1 us,ZN s] [] (fun r h=>∃(t:Int),r=.tup [.i t,.b (decide (0<=Zp n us s))]/\h=[]/\(¬Y2 s.op=true->0<=Zp n us s->t=Zp n us s))):Zd Tryz.prog 83 [.agg [Z3 n.decls,Zh n],Z1 us,Zx b] [] (fun r h=>r=.i (ZF n us b)/\h=[]):=by
 have hbz:=Z02 b
 have hbe:=Z3z n us b
 rw [b.rng_eq] at hr
 refine enter Tryz.func83 kr (n:=54) kr kr (ar (iA [Z3 n.decls,Zh n] ?_))
 intro b1
 refine iA (YY b) ?_
 intro b2
 refine ir 1 [(1,Z1 us),(3,.p b1 0),(5,.p b2 0)] (ie (ar (Z0 1 (.n 12 (Z1 us) .r) (ic [] (Kd us) ?_))))
 rintro _ _ ⟨v1,rfl,rfl⟩
 refine Z0 1 (.n 7 (Zb us v1) .r) (ie (aq (ar (Za 2 (.n 15 (ZX b.steps) .r) [1] [b2] (iw (UK b.steps) (Z0 1 (.n 17 (.i 0) .r) (ie (ab 0 (al (fun m F h=>∃(k:Nat) (vs:List Int) (v:Value),(k<=b.steps.length)/\(vs.length<=us.length+k)/\(∀t∈vs,0<=t)/\(X7 n (b.steps.drop k) vs=X7 n b.steps us)/\F=[(3,.p b1 0),(5,.p b2 0),(7,Zb vs v),(15,ZX b.steps),(16,.i b.steps.length),(17,.i k)]/\h=[.obj b2 (YY b),.obj b1 [Z3 n.decls,Zh n],.tail v 1]/\m=b.steps.length-k) _ _ _ ⟨0,us,v1,ob,ob,ob,ob,rfl,rfl,rfl⟩ (wk [1,1,0] (fq (fr (fc (x:=.i 0) li fl)))) ?_)))))))))
 rintro m F h ⟨k,vs,v,c0_0,c0_1,c0_2,c0_3,rfl,rfl,rfl⟩
 refine ar (Z0 1 (.n 18 (.b (decide ((k:Int)<(b.steps.length:Int)))) .r) (ie (aq (ac (decide ((k:Int)<(b.steps.length:Int))) dq (fun hc1=>?_) (fun hc1=>?_)))))
 ·refine ak (aq (ab 1 (ar ?_)))
  obtain ⟨x1,hx1⟩:=Zl (xs:=b.steps) (j:=k) om
  have hss:=Z5y hx1
  have hsr:=Zb0 hr hx1
  refine Zf (Zj (es:=Wg b.steps) (hv:=none) (j:=(k:Int)) (sz:=5) (y:=ZN x1) kr om (T6 hx1) rfl) (Z0 1 (.n 20 (ZN x1) .r) (iA [.i 0,.i 0,.i 0,nl,nl] ?_))
  intro b3
  refine iS 0 b3 0 (ZE x1) [.i 0,.i 0,.i 0,nl,nl] (ZE x1) (ie (ar (Za 3 (.n 22 (.agg [Z3 n.decls,Zh n]) (.n 23 (Z1 vs) (.n 24 (ZN x1) .r))) [2,0] [b1,b3] (ic [] (ih x1 vs ob ob ob ob) ?_))))
  rintro _ _ ⟨t1,rfl,rfl,hp1⟩
  refine Z0 5 (.n 10 (.i t1) (.n 11 (.b (decide (0<=Zp n vs x1))) .r)) (ie (aq (ar (Z0 2 (.n 29 (.b (!decide (0<=Zp n vs x1))) .r) (ie (ac (!decide (0<=Zp n vs x1)) (p:=¬(decide (0<=Zp n vs x1)=true)) (ZP Iff.rfl) (fun hc2=>?_) (fun hc2=>?_)))))))
  ·refine ar (ir 1 [(6,.i (-1))] (ie ?_))
   exact Z5 (r2 [] [.i (-1)] ⟨rfl,rfl⟩ (li (by rw [hbe,<-c0_3,Zzr hx1 (fun q=>hc2 (decide_eq_true q)) rfl])))
  refine ak (ar (Za 2 (.n 31 (.i x1.op) .r) [0] [b3] (ic [] (Z4w x1.op) ?_)))
  rintro _ _ ⟨rfl,rfl⟩
  refine Z0 1 (.n 33 (.b (!Y2 x1.op)) .r) (ie (JE (fun F h=>∃(w:Value),F=[(3,.p b1 0),(5,.p b2 0),(7,Zb (if Y2 x1.op=true then vs else vs++[t1]) w),(15,ZX b.steps),(16,.i b.steps.length),(17,.i k)]/\h=[.obj b2 (YY b),.obj b1 [Z3 n.decls,Zh n],.tail w 1]) (fun _ _=>rfl) ?_ ?_))
  ·refine ac (!Y2 x1.op) (p:=¬(Y2 x1.op=true)) (ZP Iff.rfl) (fun hc3=>?_) (fun hc3=>?_)
   ·refine az (ir 2 [(3,.p b1 0),(5,.p b2 0),(15,ZX b.steps),(16,.i b.steps.length),(17,.i k),(34,Zb vs v),(35,.i t1)] (iL (Z6 [t1]) 1 1 ?_))
    intro v2
    refine Z0 0 (.n 36 (Z1 [t1]) (.p .r)) (ip 4 (Z6 (vs++[t1])) (Z6 vs) (Z6 [t1]) v none 1 (YS _) (YS _) (VL _) (by simp<;>omega) (by simp [VK,Z6]) ?_)
    intro v3
    refine Z0 1 (.n 7 (Zb (vs++[t1]) v3) .r) (ie ?_)
    exact ⟨_,_,⟨v3,rfl,rfl⟩,(wk [3,3,0] (fw (fc (x:=Zb (vs++[t1]) v3) (Zg.slh _ (Y1 Z6 (by first|rfl|(rw [Z8 hc3])|(rw [Z4 hc3])|(simp [hc3];done)|(rw [YW];simp [hc3];done)|omega))) fl)))⟩
   refine ak ?_
   exact ⟨_,_,⟨v,rfl,rfl⟩,(wk [1,1,1] (fw (fc (x:=Zb vs v) (Zg.slh _ (Y1 Z6 (by first|rfl|(rw [Z8 hc3])|(rw [Z4 hc3])|(simp [hc3];done)|(rw [YW];simp [hc3];done)|omega))) fl)))⟩
  rintro F h ⟨w,rfl,rfl⟩
  refine az (ia (((k+1:Nat):Int)) (((k:Int))+(1)) (ir 1 [(3,.p b1 0),(5,.p b2 0),(7,Zb (if Y2 x1.op=true then vs else vs++[t1]) w),(15,ZX b.steps),(16,.i b.steps.length),(17,.i (k+1:Nat))] (ie ?_)))
  have h0:0<=Zp n vs x1:=of_decide_eq_true (XE.1 hc2)
  exact ⟨_,_,_,ob,⟨k+1,(if Y2 x1.op=true then vs else vs++[t1]),w,ob,(by split<;>(try simp)<;>omega),(Zuw c0_2 (fun q=>by rw [hp1 q h0];exact h0)),(Zzq hx1 h0 hp1 c0_3),rfl,rfl,rfl⟩,(wk [0,0,0] (fq (fr (fc (x:=.i (k+1:Nat)) li fl))))⟩
 refine ax 0 (aq (ar (Xl [(5,.p b2 0),(7,Zb vs v),(48,.b ((decide (b.result<0))||(decide (b.result>=(vs.length:Int)))))] [.obj b2 (YY b),.obj b1 [Z3 n.decls,Zh n],.tail v 1] ?_ ?_)))
 ·refine iR 4 [(5,.p b2 0),(7,Zb vs v),(42,.b (decide (b.result<0)))] [0] [b2] (ib (b:=(decide (b.result<0))) 42 (fun hb1=>?_) (fun hb1=>?_))
  ·have hp2:b.result<0:=(dq).1 hb1
   refine Z0 6 (.n 48 (.b true) (.d (.k (.k .z)))) (ie ?_)
   exact wk [0,0,0] (fw (fc (x:=.b true) (lb (by simp only [hb1];rfl)) fl))
  have hp3:¬(b.result<0):=Zv dq hb1
  refine Za 3 (.n 44 (.i b.result) (.n 45 (Zb vs v) (.k (.k (.k .z))))) [0] [b2] (iw (ZD vs) (Z0 2 (.n 48 (.b (decide (b.result>=(vs.length:Int)))) .r) (ie ?_)))
  exact wk [0,0,0] (fw (fc (x:=.b (decide (b.result>=(vs.length:Int)))) (lb (by simp only [hb1];rfl)) fl))
 refine ac ((decide (b.result<0))||(decide (b.result>=(vs.length:Int)))) (p:=(b.result<0)∨(b.result>=(vs.length:Int))) (Zz dq dq) (fun hc4=>?_) (fun hc4=>?_)
 ·refine ar (ir 1 [(6,.i (-1))] (ie ?_))
  exact Z5 (r2 [] [.i (-1)] ⟨rfl,rfl⟩ (li (by rw [hbe,<-c0_3,Ye om];show _=(Yq vs b.result).getD (-1);rw [Tm om];rfl)))
 refine ak (ar (iR 3 [(49,Zb vs v),(51,.i b.result)] [0] [b2] ?_))
 obtain ⟨x2,hx2⟩:=Zl (xs:=vs) (j:=b.result.toNat) om
 refine Zf (Zj (es:=Z6 vs) (hv:=some v) (j:=b.result) (sz:=1) (y:=.i x2) kr om (ZH hx2) rfl) (ir 2 [(6,.i x2)] (ie ?_))
 exact Z5 (r2 [] [.i x2] ⟨rfl,rfl⟩ (li (by rw [hbe,<-c0_3,Ye om];show _=(Yq vs b.result).getD (-1);rw [Ut om hx2];rfl)))
theorem Zrt (n:Normal) (hn:NOk n) (hty:NTy n) (m:Nat):∀(b:Block) (us:List Int),(b.sz<=m)->(us.length+4*b.sz<=1000000000)->(b.rng)->(∀t∈us,0<=t)->Zd Tryz.prog 83 [.agg [Z3 n.decls,Zh n],Z1 us,Zx b] [] (fun r h=>r=.i (ZF n us b)/\h=[]):=by
 induction m with
 | zero=>intro b us h;have:=b.sz_pos;omega
 | succ m ih=>intro b us h1 h2 h3 h4;exact Zru n us b hn h4 h2 h3 fun s us2 k1 k2 k3 k4=>Zg2 n us2 s hn hty k4 k2 k3 fun b2 us3 q1 q2 q3 q4=>ih b2 us3 om q2 q3 q4
theorem Zfv (n:Normal) (us:List Int) (b:Block) (hn:NOk n) (hty:NTy n) (hnn:∀t∈us,0<=t) (hb:us.length+4*b.sz<=1000000000) (hr:b.rng):Zd Tryz.prog 83 [.agg [Z3 n.decls,Zh n],Z1 us,Zx b] [] (fun r h=>r=.i (ZF n us b)/\h=[]):=
 Zrt n hn hty b.sz b us (Yp _) hb hr hnn
theorem Zrp (n:Normal) (hz:NSz n:=by exact ob) (hr:∀r∈n.routines,r.body.rng):Zd Tryz.prog 45 [ZJ n] [] (fun r h=>r=.b (Vm n)/\h=[]):=by
 have hzl:=hz.len
 refine enter Tryz.func45 kr (n:=37) kr kr (ar (iA (ZU n) ?_))
 intro b1
 refine ir 1 [(1,.p b1 0)] (ie (ar (Za 1 (.n 8 (ZJ n) .r) [0] [b1] (ic [] (Zfz n) ?_))))
 rintro _ _ (⟨rfl,rfl,hp1⟩|⟨rfl,rfl,hp2⟩)
 ·refine Z0 3 (.n 10 (.agg [Z3 n.decls,Zh n]) (.n 11 (.b (XF n)) .r)) (iA [nl,nl] ?_)
  intro b2
  refine iS 0 b2 0 [Z3 n.decls,Zh n] [nl,nl] [Z3 n.decls,Zh n] (Z0 1 (.n 4 (.b (XF n)) .r) (ie (aq (ar (Z0 2 (.n 13 (.b (!XF n)) .r) (ie (ac (!XF n) (p:=¬(XF n=true)) (ZP Iff.rfl) (fun hc1=>?_) (fun hc1=>?_))))))))
  ·refine ar (ir 1 [(2,.b false)] (ie ?_))
   exact Z5 (r2 [] [.b false] ⟨rfl,rfl⟩ (lb (by rw [Vm,KE.2 hc1];rfl)))
  have hsg:XF n=true:=by simpa using hc1
  have hok:=Z9i hz hsg
  have hty:=Zhj hsg
  refine ak (aq (ar (Za 2 (.n 15 (Yh n.routines) .r) [1] [b1] (iw (VY n.routines) (Z0 1 (.n 17 (.i 0) .r) (ie (ab 0 (al (fun m F h=>∃(k:Nat),(k<=n.routines.length)/\(T9 n (n.routines.drop k)=T9 n n.routines)/\F=[(3,.p b2 0),(15,Yh n.routines),(16,.i n.routines.length),(17,.i k)]/\h=[.obj b2 [Z3 n.decls,Zh n]]/\m=n.routines.length-k) _ _ _ ⟨0,ob,ob,rfl,rfl,rfl⟩ (wk [0] (fw (fr (fc (x:=.i 0) li fl)))) ?_))))))))
  rintro m F h ⟨k,c0_0,c0_1,rfl,rfl,rfl⟩
  refine ar (Z0 1 (.n 18 (.b (decide ((k:Int)<(n.routines.length:Int)))) .r) (ie (aq (ac (decide ((k:Int)<(n.routines.length:Int))) dq (fun hc2=>?_) (fun hc2=>?_)))))
  ·refine ak (aq (ab 1 (ar ?_)))
   obtain ⟨x1,hx1⟩:=Zl (xs:=n.routines) (j:=k) om
   have hrm:=ZV hx1
   have hbs:=hz.body _ hrm
   have hps:=hok.params_at hx1
   refine Zf (Zj (es:=WD n.routines) (hv:=none) (j:=(k:Int)) (sz:=5) (y:=Xc x1) kr om (VX hx1) rfl) (Z0 1 (.n 20 (Xc x1) .r) (iA [nl,nl,.i 0,nl,.i 0] ?_))
   intro b3
   refine iS 0 b3 0 (WI x1) [nl,nl,.i 0,nl,.i 0] (WI x1) (ie (aD 15 (ZI (fuel:=13) 15 [0,1] (.n 22 (Zx x1.body) .r) [0] [b3] (Zm 2 (dc 2 [] [] [] (Zro x1.body) ?_)))))
   rintro _ _ ⟨rfl,rfl⟩
   refine Ke [(3,.p b2 0),(15,Yh n.routines),(16,.i n.routines.length),(17,.i k),(35,.b ((decide ((Vl x1.body)<0))||((ZF n x1.params x1.body) != x1.result)))] [.obj b3 (WI x1),.obj b2 [Z3 n.decls,Zh n]] ?_ ?_
   ·refine dt (fuel:=10) 12 [3,4] [(3,.p b2 0),(6,.p b3 0),(15,Yh n.routines),(16,.i n.routines.length),(17,.i k),(25,.b (decide ((Vl x1.body)<0)))] (db (b:=(decide ((Vl x1.body)<0))) 25 (fun hb1=>?_) (fun hb1=>?_))
    ·have hp3:(Vl x1.body)<0:=(dq).1 hb1
     refine Zi (fuel:=0) 10 [5,6,7,8,9,10,11,12,13,14] (.n 35 (.b true) (.d (.k (.d (.k (.k (.k .z))))))) (de ?_)
     exact wk [0,0] (fq (fc (x:=.b true) (lb (by simp only [hb1];rfl)) fl))
    have hp4:¬((Vl x1.body)<0):=Zv dq hb1
    refine ZI (fuel:=3) 10 [5,6,7,8,9,11,12] (.n 26 (.agg [Z3 n.decls,Zh n]) (.n 28 (Z1 x1.params) (.n 30 (Zx x1.body) (.n 33 (.i x1.result) (.k (.k (.d (.k (.k (.k .z)))))))))) [1,0,0,0] [b2,b3,b3,b3] (Zm 10 (dc 10 [] [0] [b3] (Zfv n x1.params x1.body ob hty (hty.params _ hrm) ob (hr _ hrm)) ?_))
    rintro _ _ ⟨rfl,rfl⟩
    refine Zi (fuel:=0) 2 [13,14] (.n 35 (.b ((ZF n x1.params x1.body) != x1.result)) .r) (de ?_)
    exact wk [0,0] (fq (fc (x:=.b ((ZF n x1.params x1.body) != x1.result)) (lb (by simp only [hb1];rfl)) fl))
   refine ac ((decide ((Vl x1.body)<0))||((ZF n x1.params x1.body) != x1.result)) (p:=((Vl x1.body)<0)∨((ZF n x1.params x1.body)≠x1.result)) (Zz dq Zw) (fun hc3=>?_) (fun hc3=>?_)
   ·refine ar (ir 1 [(2,.b false)] (ie ?_))
    rw [Zu hx1] at c0_1
    exact Z5 (r2 [] [.b false] ⟨rfl,rfl⟩ (lb (by clear hx1;first|rfl|omega|grind [T9,Vm])))
   refine ak (az (ia (((k+1:Nat):Int)) (((k:Int))+(1)) (ir 1 [(3,.p b2 0),(15,Yh n.routines),(16,.i n.routines.length),(17,.i (k+1:Nat))] (ie ?_))))
   have hdr:=Zu hx1
   exact ⟨_,_,_,ob,⟨k+1,ob,(by rw [hdr] at c0_1;clear hdr hx1;grind [T9]),rfl,rfl,rfl⟩,(wk [1] (fw (fr (fc (x:=.i (k+1:Nat)) li fl))))⟩
  refine ax 0 (ar (ir 1 [(2,.b true)] (ie ?_)))
  try rw [Ye (xs:=n.routines) (k:=k) om] at c0_1
  exact Z5 (r2 [] [.b true] ⟨rfl,rfl⟩ (lb (by first|rfl|omega|grind [T9,Vm])))
 refine Z0 3 (.n 10 (.agg [Z3 [],Wi []]) (.n 11 (.b false) .r)) (iA [nl,nl] ?_)
 intro b4
 refine iS 0 b4 0 [Z3 [],Wi []] [nl,nl] [Z3 [],Wi []] (Z0 1 (.n 4 (.b false) .r) (ie (aq (ar (Z0 2 (.n 13 (.b true) .r) (ie (X8 (ar (ir 1 [(2,.b false)] (ie ?_))))))))))
 exact Z5 (r2 [] [.b false] ⟨rfl,rfl⟩ (lb (by rw [Vm,‹XF n=false›];rfl)))
theorem Z2i (a:Arm) (hl:a.fds.length<=1000000:=by exact ob) (hf:0<=a.fst/\a.fst<=1000000000:=by exact ob):Zd Tryz.prog 53 [.agg [.i a.mat,.i a.fst,Z1 a.fds,.b a.chg]] [] (fun r h=>r=Z1 (Y7 a.fds a.fst)/\h=[]):=by
 refine enter Tryz.func53 kr (n:=25) kr kr (ar (iA [.i a.mat,.i a.fst,Z1 a.fds,.b a.chg] ?_))
 intro b1
 refine ir 1 [(1,.p b1 0)] (ie (ar (Z0 1 (.n 3 (nl) .r) (ie (aq (ar (Za 2 (.n 7 (Z1 a.fds) .r) [0] [b1] (iw (ZD a.fds) (Z0 1 (.n 9 (.i 0) .r) (ie (ab 0 (U7 1 (al (fun m F h=>∃(k:Nat) (acc:List Int) (v:Value),(k<=a.fds.length)/\(acc.length<=k)/\(acc++Y7 (a.fds.drop k) (a.fst+k)=Y7 a.fds a.fst)/\F=[(1,.p b1 0),(3,Zb acc v),(7,Z1 a.fds),(8,.i a.fds.length),(9,.i k)]/\h=[.obj b1 [.i a.mat,.i a.fst,Z1 a.fds,.b a.chg],.tail v 1]/\m=a.fds.length-k) _ _ _ ⟨0,[],(.slice none 0 0),ob,ob,ob,rfl,rfl,rfl⟩ (wk [1,0] (fr (fc (x:=nl) (Zg.slh _ (by first|rfl|(subst_vars;rfl))) (fw (fc (x:=.i 0) li fl))))) ?_)))))))))))))
 rintro m F h ⟨k,acc,v,c0_0,c0_1,c0_2,rfl,rfl,rfl⟩
 refine ar (Z0 1 (.n 10 (.b (decide ((k:Int)<(a.fds.length:Int)))) .r) (ie (aq (ac (decide ((k:Int)<(a.fds.length:Int))) dq (fun hc1=>?_) (fun hc1=>?_)))))
 ·refine ak (aq (ab 1 (ar (Z0 1 (.n 11 (.i k) .r) ?_))))
  obtain ⟨x1,hx1⟩:=Zl (xs:=a.fds) (j:=k) om
  refine Zf (Zj (es:=Z6 a.fds) (hv:=none) (j:=(k:Int)) (sz:=1) (y:=.i x1) kr om (ZH hx1) rfl) (Z0 3 (.n 4 (.i k) (.n 5 (.i x1) .r)) (ie (ar (Z0 2 (.n 15 (.b (x1 != 0)) .r) (ie (JE (fun F h=>∃(w:Value),F=[(1,.p b1 0),(3,Zb (if x1≠0 then acc++[a.fst+k] else acc) w),(7,Z1 a.fds),(8,.i a.fds.length),(9,.i k)]/\h=[.obj b1 [.i a.mat,.i a.fst,Z1 a.fds,.b a.chg],.tail w 1]) (fun _ _=>rfl) ?_ ?_))))))
  ·refine ac (x1 != 0) Zw (fun hc2=>?_) (fun hc2=>?_)
   ·refine az (iR 4 [(1,.p b1 0),(7,Z1 a.fds),(8,.i a.fds.length),(9,.i k),(16,Zb acc v),(18,.i a.fst),(19,.i k)] [0] [b1] (ia ((a.fst+(k:Int))) ((a.fst)+((k:Int))) (iL (Z6 [(a.fst+(k:Int))]) 1 1 ?_)))
    intro v1
    refine Z0 0 (.n 21 (Z1 [(a.fst+(k:Int))]) (.p .r)) (ip 2 (Z6 (acc++[(a.fst+(k:Int))])) (Z6 acc) (Z6 [(a.fst+(k:Int))]) v none 1 (YS _) (YS _) (VL _) (by simp<;>omega) (by simp [VK,Z6]) ?_)
    intro v2
    refine Z0 1 (.n 3 (Zb (acc++[(a.fst+(k:Int))]) v2) .r) (ie ?_)
    exact ⟨_,_,⟨v2,rfl,rfl⟩,(wk [2,0] (fr (fc (x:=Zb (acc++[(a.fst+(k:Int))]) v2) (Zg.slh _ (Y1 Z6 (by first|rfl|(rw [Z8 hc2])|(rw [Z4 hc2])|(simp [hc2];done)|(rw [YW];simp [hc2];done)|omega))) fl)))⟩
   refine ak ?_
   exact ⟨_,_,⟨v,rfl,rfl⟩,(wk [0,0] (fr (fc (x:=Zb acc v) (Zg.slh _ (Y1 Z6 (by first|rfl|(rw [Z8 hc2])|(rw [Z4 hc2])|(simp [hc2];done)|(rw [YW];simp [hc2];done)|omega))) fl)))⟩
  rintro F h ⟨w,rfl,rfl⟩
  refine az (ia (((k+1:Nat):Int)) (((k:Int))+(1)) (ir 1 [(1,.p b1 0),(3,Zb (if x1≠0 then acc++[a.fst+k] else acc) w),(7,Z1 a.fds),(8,.i a.fds.length),(9,.i (k+1:Nat))] (ie ?_)))
  exact ⟨_,_,_,ob,⟨k+1,(if x1≠0 then acc++[a.fst+k] else acc),w,ob,(by split<;>(try simp)<;>omega),(Zfq hx1 c0_2),rfl,rfl,rfl⟩,(wk [0,0] (fq (fc (x:=.i (k+1:Nat)) li fl)))⟩
 refine ax 0 (ar (ir 2 [(2,Zb acc v)] (ie ?_)))
 exact Z5 (r2 [] [Zb acc v] ⟨rfl,rfl⟩ (Zg.sl _ (Y1 Z6 (Zfp om c0_2))))
theorem Z0e (b:Nat) (ga:Hd) (gb:Hd) (gc:Hd) (n:Normal) (L:XG) (ln:List Int) (am:List Arm) (t:Int) (o:Int) (hlb:L.vars.length<=1000000000:=by exact ob) (hlk:LLen L:=by exact ob):Zd Tryz.prog 120 [.p b 0,.i t,.i o] [.obj b [Z3 n.decls,Zh n,Z1 ln,Zq am,.h ga,.h gb,.h gc],rV ga L.vars,rV gb L.own,rV gc L.tok] (fun r h=>∃(wa:Hd) (wb:Hd) (wc:Hd),h=[.obj b [Z3 n.decls,Zh n,Z1 ln,Zq am,.h wa,.h wb,.h wc],rV wa ((L.grow t o (-1)).vars),rV wb ((L.grow t o (-1)).own),rV wc ((L.grow t o (-1)).tok)]):=by
 have hlk0:=hlk
 obtain ⟨e1,e2,e3,e4,e5⟩:=hlk0
 refine enter Tryz.func120 kr (n:=35) kr kr (ar (iR 6 [(0,.p b 0),(2,.i o),(6,.p b 0),(10,.h ga),(11,.i t)] [0] [b] (iL (Z6 [t]) 1 1 ?_)))
 intro v1
 refine Z0 0 (.n 12 (Z1 [t]) (.p .r)) (Q0 2 ga L.vars [t] none ?_)
 intro v2
 refine Z0 2 (.n 15 (.p b 4) .r) (iS 2 b 4 [.h v2] [Z3 n.decls,Zh n,Z1 ln,Zq am,.h ga,.h gb,.h gc] [Z3 n.decls,Zh n,Z1 ln,Zq am,.h v2,.h gb,.h gc] (ie (ar (Za 6 (.n 16 (.p b 0) (.n 20 (.h gb) (.n 21 (.i o) .r))) [0] [b] (iL (Z6 [o]) 1 1 ?_)))))
 intro v3
 refine Z0 0 (.n 22 (Z1 [o]) (.p .r)) (Q0 4 gb L.own [o] none ?_)
 intro v4
 refine Z0 2 (.n 25 (.p b 5) .r) (iS 2 b 5 [.h v4] [Z3 n.decls,Zh n,Z1 ln,Zq am,.h v2,.h gb,.h gc] [Z3 n.decls,Zh n,Z1 ln,Zq am,.h v2,.h v4,.h gc] (ie (az (iR 5 [(26,.p b 0),(30,.h gc)] [0] [b] (iL (Z6 [-1]) 1 1 ?_)))))
 intro v5
 refine Z0 0 (.n 31 (Z1 [-1]) (.p .r)) (Q0 6 gc L.tok [-1] none ?_)
 intro v6
 refine Z0 2 (.n 34 (.p b 6) .r) (iS 2 b 6 [.h v6] [Z3 n.decls,Zh n,Z1 ln,Zq am,.h v2,.h v4,.h gc] [Z3 n.decls,Zh n,Z1 ln,Zq am,.h v2,.h v4,.h v6] (ie ?_))
 exact r2 [0,4,2,0] [] ⟨v2,v4,v6,rfl⟩ (lr _) (eq:=(rc (rv (xs:=(L.vars++[t])) ob (rv (xs:=(L.own++[o])) ob (rv (xs:=(L.tok++[-1])) ob rz)))))
theorem Z3x (b:Nat) (ga:Hd) (gb:Hd) (gc:Hd) (n:Normal) (L:XG) (ln:List Int) (am:List Arm) (i:Int) (hlk:LLen L:=by exact ob) (hi:0<=i/\i<L.vars.length:=by exact ob) (hq:∀x∈L.own,-1000000000<=x/\x<=1000000000):Zd Tryz.prog 123 [.p b 0,.i i] [.obj b [Z3 n.decls,Zh n,Z1 ln,Zq am,.h ga,.h gb,.h gc],rV ga L.vars,rV gb L.own,rV gc L.tok] (fun r h=>r=.b (decide (1<=gI L.own i))/\h=[.obj b [Z3 n.decls,Zh n,Z1 ln,Zq am,.h ga,.h gb,.h gc],rV ga ((Yi L i).vars),rV gb ((Yi L i).own),rV gc ((Yi L i).tok)]):=by
 have hlk0:=hlk
 obtain ⟨e1,e2,e3,e4,e5⟩:=hlk0
 refine enter Tryz.func123 kr (n:=22) kr kr (ar (ir 1 [(0,.p b 0),(1,.i i)] (ie (ar (Za 5 (.n 8 (.h gb) (.n 9 (.i i) .r)) [0] [b] (Zf (Xb 2 gb L.own i i.toNat (hq:=rfl)) ?_))))))
 obtain ⟨x1,hx1⟩:=Zl (xs:=L.own) (j:=i.toNat) om
 have hxq:=hq _ (ZV hx1)
 have hgi:=XR hx1
 have hsl:(L.own.set i.toNat (x1-1)).length=L.own.length:=VD
 refine YR (WA 2 gb L.own i.toNat x1 hx1) (ia ((x1-1)) ((x1)-(1)) (Zf (Xb 2 gb L.own i i.toNat (hq:=rfl)) (iVS 2 gb L.own i.toNat (x1-1) (ie (ar (iR 5 [(17,.h gb),(18,.i i)] [1] [b] (Zf (Xb 0 gb (L.own.set i.toNat (x1-1)) i i.toNat (hq:=rfl)) ?_)))))))
 obtain ⟨x2,hx2⟩:=Zl (xs:=(L.own.set i.toNat (x1-1))) (j:=i.toNat) om
 have hxe:x2=x1-1:=by rw [List.getElem?_set_self om] at hx2;exact (U6 hx2).symm
 refine YR (WA 0 gb (L.own.set i.toNat (x1-1)) i.toNat x2 hx2) (ir 2 [(4,.b (decide (x2>=0)))] (ie ?_))
 exact Z5 (r2 [1,1,0,0] [.b (decide (x2>=0))] ⟨rfl,rfl⟩ (lb (by rw [hxe,hgi,YW];simp)) (eq:=(rc (rv (xs:=L.vars) ob (rv (xs:=(L.own.set i.toNat (x1-1))) (by rw [Yi,hgi]) (rv (xs:=L.tok) ob rz))))))
theorem Zcz (b:Nat) (ga:Hd) (gb:Hd) (gc:Hd) (n:Normal) (L:XG) (ln:List Int) (am:List Arm) (hlb:L.vars.length<=1000000000:=by exact ob) (hlk:LLen L:=by exact ob):Zd Tryz.prog 169 [.p b 0] [.obj b [Z3 n.decls,Zh n,Z1 ln,Zq am,.h ga,.h gb,.h gc],rV ga L.vars,rV gb L.own,rV gc L.tok] (fun r h=>∃(c:Nat) (wa:Hd) (wb:Hd) (wc:Hd),r=.p c 0/\h=[.obj c [Z3 n.decls,Zh n,Z1 ln,Zq am,.h wa,.h wb,.h wc],rV wa L.vars,rV wb L.own,rV wc L.tok,.obj b [Z3 n.decls,Zh n,Z1 ln,Zq am,.h ga,.h gb,.h gc],rV ga L.vars,rV gb L.own,rV gc L.tok]):=by
 have hlk0:=hlk
 obtain ⟨e1,e2,e3,e4,e5⟩:=hlk0
 refine enter Tryz.func169 kr (n:=25) kr kr (ar (ir 1 [(0,.p b 0)] (ie (ar (Za 3 (.n 6 (.agg [Z3 n.decls,Zh n,Z1 ln,Zq am,.h ga,.h gb,.h gc]) .r) [0] [b] (iA [nl,nl,nl,nl,nl,nl,nl] ?_))))))
 intro b1
 refine iS 0 b1 0 [Z3 n.decls,Zh n,Z1 ln,Zq am,.h ga,.h gb,.h gc] [nl,nl,nl,nl,nl,nl,nl] [Z3 n.decls,Zh n,Z1 ln,Zq am,.h ga,.h gb,.h gc] (ie (aD 21 (ZI (fuel:=9) 21 [0,1,2,3,5,6,7,8,10,11,12,13] (.n 10 (.h ga) (.n 15 (.h gb) (.n 20 (.h gc) .r))) [1,1,1] [b,b,b] (Zm 4 (Vs 4 [2] [1,1] [b,b] [rV ga L.vars] (Z1y L.vars) Qm (gL (v:=ga) 0 gN) (WS Vx) ?_)))))
 rintro _ _ ⟨v1,rfl,rfl⟩
 refine Zm 9 (Vs 9 [4] [1] [b] [rV gb L.own] (Z1y L.own) Qm (gL (v:=gb) 0 gN) (WS Vx) ?_)
 rintro _ _ ⟨v2,rfl,rfl⟩
 refine Zm 14 (Vs 14 [6] [] [] [rV gc L.tok] (Z1y L.tok) Qm (gL (v:=gc) 0 gN) (WS Vx) ?_)
 rintro _ _ ⟨v3,rfl,rfl⟩
 refine Zi (fuel:=5) 6 [15] (.n 22 (.p b1 4) .r) (Zm 16 (dS 16 6 [] [] b1 4 [.h v1] [Z3 n.decls,Zh n,Z1 ln,Zq am,.h ga,.h gb,.h gc] [Z3 n.decls,Zh n,Z1 ln,Zq am,.h v1,.h gb,.h gc] (Zi (fuel:=3) 4 [17] (.n 23 (.p b1 5) .r) (Zm 18 (dS 18 0 [] [] b1 5 [.h v2] [Z3 n.decls,Zh n,Z1 ln,Zq am,.h v1,.h gb,.h gc] [Z3 n.decls,Zh n,Z1 ln,Zq am,.h v1,.h v2,.h gc] (Zi (fuel:=1) 2 [19] (.n 24 (.p b1 6) .r) (Zm 20 (dS 20 0 [] [] b1 6 [.h v3] [Z3 n.decls,Zh n,Z1 ln,Zq am,.h v1,.h v2,.h gc] [Z3 n.decls,Zh n,Z1 ln,Zq am,.h v1,.h v2,.h v3] (de (ar (ir 1 [(2,.p b1 0)] (ie ?_))))))))))))
 exact Z5 (r1 [0,4,2,0,3,2,1,0] ⟨b1,v1,v2,v3,rfl,rfl⟩)
theorem Zcy (b:Nat) (ga:Hd) (gb:Hd) (gc:Hd) (n:Normal) (L:XG) (ln:List Int) (am:List Arm) (i:Int) (hlk:LLen L) (har:ArmR n.decls L am) (hln:ln.length<=4294967296) (hal:am.length<=1000000000) (hlb:L.vars.length<=1000000000) (hd:∀j:Int,0<=j->j<L.vars.length->gI L.par j<j) (hi:0<=i/\i<L.vars.length) (ih:∀(i2:Int),(0<=i2/\i2<i)->Zd Tryz.prog 168 [.p b 0,.i i2] [.obj b [Z3 n.decls,Zh n,Z1 ln,Zq am,.h ga,.h gb,.h gc],rV ga L.vars,rV gb L.own,rV gc L.tok] (fun r h=>r=.b (YG L ln i2)/\h=[.obj b [Z3 n.decls,Zh n,Z1 ln,Zq am,.h ga,.h gb,.h gc],rV ga L.vars,rV gb L.own,rV gc L.tok])):Zd Tryz.prog 168 [.p b 0,.i i] [.obj b [Z3 n.decls,Zh n,Z1 ln,Zq am,.h ga,.h gb,.h gc],rV ga L.vars,rV gb L.own,rV gc L.tok] (fun r h=>r=.b (YG L ln i)/\h=[.obj b [Z3 n.decls,Zh n,Z1 ln,Zq am,.h ga,.h gb,.h gc],rV ga L.vars,rV gb L.own,rV gc L.tok]):=by
 have hlk0:=hlk
 obtain ⟨e1,e2,e3,e4,e5⟩:=hlk0
 refine enter Tryz.func168 kr (n:=51) kr kr (ar (ir 1 [(0,.p b 0),(1,.i i)] (ie (aq (ar (Za 5 (.n 10 (.h gb) (.n 11 (.i i) .r)) [0] [b] (Zf (Xb 2 gb L.own i i.toNat (hq:=rfl)) ?_)))))))
 obtain ⟨x1,hx1⟩:=Zl (xs:=L.own) (j:=i.toNat) om
 have hgi:=XR hx1
 refine YR (WA 2 gb L.own i.toNat x1 hx1) (Xl [(0,.p b 0),(1,.i i),(22,.b ((decide (x1>0))||(decide (i∈ln))))] [.obj b [Z3 n.decls,Zh n,Z1 ln,Zq am,.h ga,.h gb,.h gc],rV ga L.vars,rV gb L.own,rV gc L.tok] ?_ ?_)
 ·refine ir 2 [(0,.p b 0),(1,.i i),(15,.b (decide (x1>0)))] (ib (b:=(decide (x1>0))) 15 (fun hb1=>?_) (fun hb1=>?_))
  ·have hp1:x1>0:=(dq).1 hb1
   refine Z0 7 (.n 22 (.b true) (.d (.k (.k .z)))) (ie ?_)
   exact wk [0,0,0,0] (fw (fc (x:=.b true) (lb (by simp only [hb1];rfl)) fl))
  have hp2:¬(x1>0):=Zv dq hb1
  refine Za 5 (.n 19 (Z1 ln) (.n 20 (.i i) (.k (.k (.k .z))))) [0] [b] (ic [] (Zas ln i) ?_)
  rintro _ _ ⟨rfl,rfl⟩
  refine Z0 1 (.n 22 (.b (decide (i∈ln))) .r) (ie ?_)
  exact wk [0,0,0,0] (fw (fc (x:=.b (decide (i∈ln))) (lb (by simp only [hb1];rfl)) fl))
 refine ac ((decide (x1>0))||(decide (i∈ln))) (p:=(x1>0)∨(i∈ln)) (Zz dq dq) (fun hc1=>?_) (fun hc1=>?_)
 ·refine ar (ir 1 [(4,.b true)] (ie ?_))
  exact Z5 (r2 [0,0,0,0] [.b true] ⟨rfl,rfl⟩ (lb (Zm2 (by rw [hgi];exact hc1)).symm))
 refine ak (aq (ar (iR 4 [(0,.p b 0),(1,.i i),(26,Zq am)] [0] [b] (iw (Zot am) (Z0 1 (.n 28 (.i 0) .r) (ie (ab 0 (al (fun m F h=>∃(k:Nat),(k<=am.length)/\(∀a∈am.take k,¬(a.fst<=i/\i<a.fst+a.fds.length))/\F=[(0,.p b 0),(1,.i i),(26,Zq am),(27,.i am.length),(28,.i k)]/\h=[.obj b [Z3 n.decls,Zh n,Z1 ln,Zq am,.h ga,.h gb,.h gc],rV ga L.vars,rV gb L.own,rV gc L.tok]/\m=am.length-k) _ _ _ ⟨0,ob,ob,rfl,rfl,rfl⟩ (wk [0,0,0,0] (fq (fc (x:=.i 0) li fl))) ?_))))))))
 rintro m F h ⟨k,c0_0,c0_1,rfl,rfl,rfl⟩
 refine ar (Z0 1 (.n 29 (.b (decide ((k:Int)<(am.length:Int)))) .r) (ie (aq (ac (decide ((k:Int)<(am.length:Int))) dq (fun hc2=>?_) (fun hc2=>?_)))))
 ·refine ak (aq (ab 1 (ar ?_)))
  obtain ⟨x2,hx2⟩:=Zl (xs:=am) (j:=k) om
  have ham:=ZV hx2
  have hrg:=har.rng _ ham
  refine Zf (Zj (es:=Xo am) (hv:=none) (j:=(k:Int)) (sz:=4) (y:=.agg [.i x2.mat,.i x2.fst,Z1 x2.fds,.b x2.chg]) kr om (Zos hx2) rfl) (Z0 1 (.n 31 (.agg [.i x2.mat,.i x2.fst,Z1 x2.fds,.b x2.chg]) .r) (iA [.i 0,.i 0,nl,.b false] ?_))
  intro b1
  refine iS 0 b1 0 [.i x2.mat,.i x2.fst,Z1 x2.fds,.b x2.chg] [.i 0,.i 0,nl,.b false] [.i x2.mat,.i x2.fst,Z1 x2.fds,.b x2.chg] (ie (ar (Xl [(0,.p b 0),(1,.i i),(6,.p b1 0),(26,Zq am),(27,.i am.length),(28,.i k),(45,.b ((decide (i>=x2.fst))&&(decide (i<(x2.fst+(x2.fds.length:Int))))))] [.obj b1 [.i x2.mat,.i x2.fst,Z1 x2.fds,.b x2.chg],.obj b [Z3 n.decls,Zh n,Z1 ln,Zq am,.h ga,.h gb,.h gc],rV ga L.vars,rV gb L.own,rV gc L.tok] ?_ ?_)))
  ·refine iR 5 [(0,.p b 0),(1,.i i),(6,.p b1 0),(26,Zq am),(27,.i am.length),(28,.i k),(36,.b (decide (i>=x2.fst)))] [0] [b1] (ib (b:=(decide (i>=x2.fst))) 36 (fun hb2=>?_) (fun hb2=>?_))
   ·have hp3:i>=x2.fst:=(dq).1 hb2
    refine Za 5 (.n 37 (.i i) (.n 39 (.i x2.fst) (.n 41 (Z1 x2.fds) (.w (.k (.k (.k .z))))))) [0,0] [b1,b1] (iw (ZD x2.fds) (ia ((x2.fst+(x2.fds.length:Int))) ((x2.fst)+((x2.fds.length:Int))) (Z0 2 (.n 45 (.b (decide (i<(x2.fst+(x2.fds.length:Int))))) .r) (ie ?_))))
    exact wk [0,0,0,0,0] (fq (fw (fc (x:=.b (decide (i<(x2.fst+(x2.fds.length:Int))))) (lb (by simp only [hb2];rfl)) fl)))
   have hp4:¬(i>=x2.fst):=Zv dq hb2
   refine Z0 9 (.n 45 (.b false) (.d (.w (.k (.k .z))))) (ie ?_)
   exact wk [0,0,0,0,0] (fq (fw (fc (x:=.b false) (lb (by simp only [hb2];rfl)) fl)))
  refine ac ((decide (i>=x2.fst))&&(decide (i<(x2.fst+(x2.fds.length:Int))))) (p:=(i>=x2.fst)/\(i<(x2.fst+(x2.fds.length:Int)))) (ZZ dq dq) (fun hc3=>?_) (fun hc3=>?_)
  ·refine ar (iR 3 [(46,.p b 0),(48,.i x2.mat)] [0] [b1] (ic [1,1,1,1] (ih x2.mat ob) ?_))
   rintro _ _ ⟨rfl,rfl⟩
   refine ir 1 [(4,.b (YG L ln x2.mat))] (ie ?_)
   have hpa:=har.par _ ham i hc3.1 hc3.2
   exact Z5 (r2 [0,0,0,0] [.b (YG L ln x2.mat)] ⟨rfl,rfl⟩ (lb (Zm1 hi hd (by rw [hgi];exact hc1) hpa hrg.1).symm))
  refine ak (az (ia (((k+1:Nat):Int)) (((k:Int))+(1)) (ir 1 [(0,.p b 0),(1,.i i),(26,Zq am),(27,.i am.length),(28,.i (k+1:Nat))] (ie ?_))))
  have hdr:=Zu hx2
  exact ⟨_,_,_,ob,⟨k+1,ob,(by rw [V3 hx2];exact fun a ha=>(ZG.1 ha).elim (c0_1 a) (fun ha=>by rw [ZW.1 ha];exact fun q=>hc3 ⟨q.1,q.2⟩)),rfl,rfl,rfl⟩,(wk [1,1,1,1] (fq (fc (x:=.i (k+1:Nat)) li fl)))⟩
 refine ax 0 (ar (ir 1 [(4,.b false)] (ie ?_)))
 have hpn:gI L.par i<0:=Int.not_le.1 fun h=>by
  obtain ⟨a,ha,q⟩:=har.non i hi.1 hi.2 h
  exact c0_1 a (by rw [W7 om];exact ha) q
 exact Z5 (r2 [0,0,0,0] [.b false] ⟨rfl,rfl⟩ (lb (Zm0 (by rw [hgi];exact hc1) hpn).symm))
theorem Z75 (b:Nat) (ga gb gc:Hd) (n:Normal) (L:XG) (ln:List Int) (am:List Arm) (i:Int) (hlk:LLen L) (har:ArmR n.decls L am) (hln:ln.length<=4294967296) (hal:am.length<=1000000000) (hlb:L.vars.length<=1000000000)
  (hd:∀j:Int,0<=j->j<L.vars.length->gI L.par j<j) (hi:0<=i/\i<L.vars.length):Zd Tryz.prog 168 [.p b 0,.i i] [.obj b [Z3 n.decls,Zh n,Z1 ln,Zq am,.h ga,.h gb,.h gc],rV ga L.vars,rV gb L.own,rV gc L.tok] (fun r h=>r=.b (YG L ln i)/\h=[.obj b [Z3 n.decls,Zh n,Z1 ln,Zq am,.h ga,.h gb,.h gc],rV ga L.vars,rV gb L.own,rV gc L.tok]):=by
 have key:∀m:Nat,∀j:Int,0<=j->j.toNat<=m->j<L.vars.length->Zd Tryz.prog 168 [.p b 0,.i j] [.obj b [Z3 n.decls,Zh n,Z1 ln,Zq am,.h ga,.h gb,.h gc],rV ga L.vars,rV gb L.own,rV gc L.tok] (fun r h=>r=.b (YG L ln j)/\h=[.obj b [Z3 n.decls,Zh n,Z1 ln,Zq am,.h ga,.h gb,.h gc],rV ga L.vars,rV gb L.own,rV gc L.tok]):=by
  intro m
  induction m with
  | zero=>intro j h1 h2 h3;exact Zcy b ga gb gc n L ln am j hlk har hln hal hlb hd ⟨h1,h3⟩ fun i2 q=>by omega
  | succ m ih=>intro j h1 h2 h3;exact Zcy b ga gb gc n L ln am j hlk har hln hal hlb hd ⟨h1,h3⟩ fun i2 q=>ih i2 q.1 om om
 exact key i.toNat i hi.1 (Yp _) hi.2
end Go.Abs
section
namespace Go.Proofs
open Go.RowKit Go.Shelf
attribute [local go_sem] Oper.semAt_some
structure ArmV where
 m:Int
 f:Int
 sa:Option Addr
 sl:Nat
 sc:Nat
 c:Bool
 deriving Inhabited
def ArmV.enc (a:ArmV):Value:=.agg #[.int .i64 a.m,.int .i64 a.f,.slice a.sa a.sl a.sc,.bool a.c]
def XN (zs:List ArmV) (i:Nat):ArmV:=zs[i]?.getD default
def dn (zs:List ArmV) (k:Nat):List (Nat × ArmV):=(List.range k).map fun j=>(zs.length-1-j,XN zs (zs.length-1-j))
theorem Z7m (zs:List ArmV) (k:Nat):dn zs (k+1)=dn zs k++[(zs.length-1-k,XN zs (zs.length-1-k))]:=by simp [dn,List.range_succ]
theorem Zoo (zs:List ArmV) (k:Nat):(dn zs k).length=k:=by simp [dn]
def Jw (n₀:Nat) (W:World) (v:Value) (zs:List ArmV):Prop:=
 (∃a c,v=.slice a 0 c∧zs=[])∨∃b off cap,v=.slice (some ⟨b,off,none⟩) zs.length cap∧b<n₀∧∀j,j<zs.length →
  W.cell? ⟨b,off+j*4,none⟩=some (.int .i64 (XN zs j).m)∧W.cell? ⟨b,off+j*4+1,none⟩=some (.int .i64 (XN zs j).f) ∧
  W.cell? ⟨b,off+j*4+2,none⟩=some (.slice (XN zs j).sa (XN zs j).sl (XN zs j).sc)∧W.cell? ⟨b,off+j*4+3,none⟩=some (.bool (XN zs j).c)
theorem Jw.below {n₀:Nat} {A B:World} {v:Value} {zs:List ArmV} (h:Below n₀ A B) (H:Jw n₀ A v zs):Jw n₀ B v zs:=by
 rcases H with H|⟨b,off,cap,e,hb,hc⟩
 ·exact .inl H
 ·refine .inr ⟨b,off,cap,e,hb,fun j hj=>?_⟩
  obtain ⟨h0,h1,h2,h3⟩:=hc j hj
  exact ⟨(h.cell (p:=⟨b,_,none⟩) hb).trans h0,(h.cell (p:=⟨b,_,none⟩) hb).trans h1,(h.cell (p:=⟨b,_,none⟩) hb).trans h2,(h.cell (p:=⟨b,_,none⟩) hb).trans h3⟩
set_option maxRecDepth 100000 in
set_option maxHeartbeats 2000000 in
theorem Zmj (F:Fence) (n:Nat) (h8:F.fn 127) (hro:F.round=none) (hn:1≤n) (l Bs n₀ b off cap:Nat) (zs:List ArmV) (hreach:zs.length≤1000000000) (hb:b<n₀) (J Jx:List (Nat × ArmV)→World→Prop)
  (hY:∀pre x W,J pre W→pre.length<zs.length→YieldAt F (n-1) Tryz.prog l #[.int .i64 ((x.1:Nat):Int),x.2.enc] W fun e W'=>
   (e=.returned (.bool true)∧J (pre++[x]) W'∧Below n₀ W W')∨(e=.returned (.bool false)∧Jx (pre++[x]) W'))
  (W:World) (hBn:Bs<n₀) (hBs:W.cell? ⟨Bs,0,none⟩=some (.slice (some ⟨b,off,none⟩) zs.length cap)) (hc:∀j,j<zs.length →
  W.cell? ⟨b,off+j*4,none⟩=some (.int .i64 (XN zs j).m)∧W.cell? ⟨b,off+j*4+1,none⟩=some (.int .i64 (XN zs j).f) ∧
  W.cell? ⟨b,off+j*4+2,none⟩=some (.slice (XN zs j).sa (XN zs j).sl (XN zs j).sc)∧W.cell? ⟨b,off+j*4+3,none⟩=some (.bool (XN zs j).c)) (h0:J [] W) :
  CallsIn F n Tryz.prog 127 #[.func (.yield l) #[] #[],.pointer (some ⟨Bs,0,none⟩)] W fun e W'=>(∃v,e=.returned v) ∧
   ((∃ys,ys=dn zs zs.length∧J ys W')∨(∃pre,(∃k,k≤zs.length∧pre=dn zs k)∧Jx pre W')):=by
 refine callsIn_of_wp Tryz.func127 rfl h8 ?_ hro
 simp only [Tryz.ntmps127,List.size_toArray,List.length_cons,List.length_nil,Nat.reduceAdd,Nat.reduceSub,Array.replicate_succ,Array.replicate_zero,List.push_toArray,List.append_toArray,List.nil_append,List.cons_append]
 gi_wp2
 gi_loopw [3] (fun i wr=>∃k:Nat,k≤zs.length∧i=.int .i64 ((zs.length:Int)-1-k)∧J (dn zs k) wr∧Below n₀ W wr)
  (fun i _=>(intOf i+1).toNat)
 case atStart=>exact ⟨0,Nat.zero_le _,by simp,h0,Below.refl _ _⟩
 case round=>
  obtain ⟨k,hk,rfl,hJs,hnx⟩:=hrel
  have hBx:wr.cell? ⟨Bs,0,none⟩=some (.slice (some ⟨b,off,none⟩) zs.length cap):=(hnx.cell (p:=⟨Bs,0,none⟩) hBn).trans hBs
  by_cases hlt:k<zs.length
  ·obtain ⟨q,hq⟩:∃q:Nat,(zs.length:Int)-1-k=(q:Int):=⟨zs.length-1-k,by omega⟩
   have hqk:zs.length-1-k=q:=by omega
   obtain ⟨g0,g1,g2,g3⟩:=hc q (by omega)
   have c0:=(hnx.cell (p:=⟨b,off+q*4,none⟩) hb).trans g0
   have c1:=(hnx.cell (p:=⟨b,off+q*4+1,none⟩) hb).trans g1
   have c2:=(hnx.cell (p:=⟨b,off+q*4+2,none⟩) hb).trans g2
   have c3:=(hnx.cell (p:=⟨b,off+q*4+3,none⟩) hb).trans g3
   obtain ⟨fn,tmps,assign,body,hy,hR⟩:=hY _ (q,XN zs q) wr hJs (by rw [Zoo];exact hlt)
   dsimp only [ArmV.enc] at hy
   rw [hq]
   have hql:(q:Int)<zs.length:=by omega
   gi_wp2
   refine hR.mono ?_
   rintro e W3 (⟨rfl,hJ3,hk3⟩|⟨rfl,hJx3⟩)
   ·gi_wp2
    go_roundw
    case rel=>exact ⟨k+1,by omega,by congr 1;omega,by rw [Z7m,hqk];exact hJ3,hnx.trans hk3⟩
    case measure=>simp [intOf]
   ·gi_wp2
    refine bodyPost_ret (results_none rfl _ _ _) rfl ?_
    exact ⟨⟨_,rfl⟩,.inr ⟨_,⟨k+1,by omega,by rw [Z7m,hqk]⟩,hJx3⟩⟩
  ·obtain rfl:k=zs.length:=by omega
   have hneg:¬(0≤(zs.length:Int)-1-zs.length):=by omega
   gi_wp2
   go_end0
   first|exact ⟨⟨_,rfl⟩,.inl ⟨_,rfl,hJs⟩⟩|exact ⟨⟨_,rfl⟩,.inl hJs⟩
set_option maxRecDepth 100000 in
set_option maxHeartbeats 1000000 in
theorem Zmk (F:Fence) (n:Nat) (h8:F.fn 127) (hro:F.round=none) (l Bs:Nat) (a:Option Addr) (c:Nat) (J:List (Nat × ArmV)→World→Prop) (W:World) (hBs:W.cell? ⟨Bs,0,none⟩=some (.slice a 0 c)) (h0:J [] W) :
  CallsIn F n Tryz.prog 127 #[.func (.yield l) #[] #[],.pointer (some ⟨Bs,0,none⟩)] W fun e W'=>(∃v,e=.returned v)∧J [] W':=by
 refine callsIn_of_wp Tryz.func127 rfl h8 ?_ hro
 simp only [Tryz.ntmps127,List.size_toArray,List.length_cons,List.length_nil,Nat.reduceAdd,Nat.reduceSub,Array.replicate_succ,Array.replicate_zero,List.push_toArray,List.append_toArray,List.nil_append,List.cons_append]
 gi_wp2
 gi_loopw [3] (fun i wr=>i=.int .i64 (-1)∧J [] wr) (fun _ _=>0)
 case atStart=>exact ⟨rfl,h0⟩
 case round=>
  obtain ⟨rfl,hJs⟩:=hrel
  gi_wp2
  go_end0
  exact ⟨⟨_,rfl⟩,hJs⟩
set_option maxHeartbeats 1000000 in
theorem Zml (F:Fence) (n:Nat) (h6:F.fn 93) (hro:F.round=none) (v:Value) (hv1:∃a l c,v=.slice a l c) (w:World) :
  CallsIn F n Tryz.prog 93 #[v] w fun e w'=>e=.returned (.func (.func 127) #[] #[.pointer (some ⟨w.heap.size,0,none⟩)])∧w'=w.alloc (.cells #[v] 106):=by
 obtain ⟨a,ll,c,rfl⟩:=hv1
 refine callsIn_of_wp Tryz.func93 rfl h6 ?_ hro
 simp only [Tryz.ntmps93,List.size_toArray,List.length_cons,List.length_nil,Nat.reduceAdd,Nat.reduceSub,Array.replicate_succ,Array.replicate_zero,List.push_toArray,List.append_toArray,List.nil_append,List.cons_append]
 gi_wp2
 go_ret
 exact ⟨rfl,rfl⟩
theorem Zmm (F:Fence) (n:Nat) (h8:F.fn 127) (hro:F.round=none) (hn:1≤n) (Bs n₀:Nat) (v:Value) (zs:List ArmV) (hreach:zs.length≤1000000000) (w:World) (hBs:Bs<n₀) (hn₀:n₀≤w.heap.size)
  (hc:w.cell? ⟨Bs,0,none⟩=some v) (hI:Jw n₀ w v zs) :
  SeqStopsK F n Tryz.prog 127 #[.pointer (some ⟨Bs,0,none⟩)] (fun x:Nat × ArmV=>#[Value.int .i64 ((x.1:Nat):Int),x.2.enc]) (Below n₀) (fun ys=>ys=dn zs zs.length) (fun pre=>∃k,k≤zs.length∧pre=dn zs k) zs.length w:=by
 intro l J Jx W hW _ _ hY h0
 have hc':=(hW.cell (p:=⟨Bs,0,none⟩) (Nat.lt_of_lt_of_le hBs hn₀)).trans hc
 rcases hI.below (hW.mono hn₀) with ⟨a,c,rfl,rfl⟩|⟨b,off,cap,rfl,hb,hcs⟩
 ·exact (Zmk F n h8 hro l Bs a c J W hc' h0).mono fun e W' ⟨he,hj⟩=>⟨he,.inl ⟨_,rfl,hj⟩⟩
 ·exact Zmj F n h8 hro hn l Bs n₀ b off cap zs hreach hb J Jx hY W hBs hc' hcs h0
def WJ (W:World) (B:Nat) (a:ArmV):Prop:=W.heap[B]? = some (.cells #[.int .i64 a.m,.int .i64 a.f,.slice a.sa a.sl a.sc,.bool a.c] 112 (0,0))
theorem Z78 {β:Type} (B:Nat) (f:β→ArmV):Own (fun s W=>WJ W B (f s)):=fun s X Y row hs hg hrow=>
 (grownBy_keeps_cells hg hrow hs rfl).trans hs
theorem WJ.lt {W:World} {B:Nat} {a:ArmV} (h:WJ W B a):B<W.heap.size:=(Array.getElem?_eq_some_iff.1 h).1
theorem WJ.alloc {W:World} {B:Nat} {a:ArmV} (h:WJ W B a) (o:Obj):WJ (W.alloc o) B a:=(Below.heap_alloc W o B h.lt).trans h
theorem WJ.other {W:World} {B B':Nat} {a:ArmV} (h:WJ W B a) (hne:B≠B') (j:Nat) (u:Value):WJ (W.setCell ⟨B',j,none⟩ u) B a:=(heap_setCell_other W ⟨B',j,none⟩ B u hne).trans h
theorem WJ.cells {W:World} {B:Nat} {a:ArmV} (h:WJ W B a):W.cell? ⟨B,0,none⟩=some (.int .i64 a.m)∧W.cell? ⟨B,1,none⟩=some (.int .i64 a.f)∧W.cell? ⟨B,2,none⟩=some (.slice a.sa a.sl a.sc)∧W.cell? ⟨B,3,none⟩=some (.bool a.c):=by
 have h':W.heap[B]? = _:=h
 refine ⟨?_,?_,?_,?_⟩<;>simp [World.cell?,h']
theorem WJ.frozen {W:World} {B:Nat} {a:ArmV} (h:WJ W B a) (j:Nat):W.frozen? ⟨B,j,none⟩=false:=by simp [World.frozen?,show W.heap[B]? = _ from h]
def w4 (W:World) (B:Nat) (a:ArmV):World:=(((W.setCell ⟨B,0,none⟩ (.int .i64 a.m)).setCell ⟨B,1,none⟩ (.int .i64 a.f)).setCell ⟨B,2,none⟩ (.slice a.sa a.sl a.sc)).setCell ⟨B,3,none⟩ (.bool a.c)
theorem WJ.put {W:World} {B:Nat} {a:ArmV} (b:ArmV) (h:WJ W B a):WJ (w4 W B b) B b:=
 heap_setCell_same _ B 3 _ 112 _ (heap_setCell_same _ B 2 _ 112 _ (heap_setCell_same _ B 1 _ 112 _ (heap_setCell_same _ B 0 _ 112 _ h)))
theorem Zkv (W:World) (B:Nat) (a:ArmV) (k:Nat) (h:k≠B):(w4 W B a).heap[k]? = W.heap[k]?:=
 (heap_setCell_other _ ⟨B,3,none⟩ k _ h).trans ((heap_setCell_other _ ⟨B,2,none⟩ k _ h).trans ((heap_setCell_other _ ⟨B,1,none⟩ k _ h).trans (heap_setCell_other _ ⟨B,0,none⟩ k _ h)))
theorem Zku (W:World) (B:Nat) (a:ArmV):KeepsOthers W (w4 W B a):=(((KeepsOthers.setCell _ _ _).trans (KeepsOthers.setCell _ _ _)).trans (KeepsOthers.setCell _ _ _)).trans (KeepsOthers.setCell _ _ _)
theorem Zkt {n₀:Nat} {w W:World} {B:Nat} (a:ArmV) (h:Below n₀ w W) (hB:n₀≤B):Below n₀ w (w4 W B a):=
 (((h.setCell (p:=⟨B,0,none⟩) hB _).setCell (p:=⟨B,1,none⟩) hB _).setCell (p:=⟨B,2,none⟩) hB _).setCell (p:=⟨B,3,none⟩) hB _
set_option maxRecDepth 100000 in
set_option maxHeartbeats 4000000 in
theorem Zv5 (F:Fence) (n:Nat) (h61:F.fn 52) (h122:F.fn 93) (h165:F.fn 127) (hro:F.round=none) (hn:6≤n) (v:Int) (av:Value) (zs:List ArmV) (hreach:zs.length≤1000000000) (w:World) (hav:∃a l c,av=.slice a l c) (hA:Jw w.heap.size w av zs) :
  CallsIn F n Tryz.prog 52 #[av,.int .i64 v] w fun e W'=>((∃k,k<zs.length∧(XN zs (zs.length-1-k)).m=v∧(∀j,j<k→(XN zs (zs.length-1-j)).m≠v)∧e=.returned (.tuple #[(XN zs (zs.length-1-k)).enc,.bool true])) ∨
   ((∀j,j<zs.length→(XN zs (zs.length-1-j)).m≠v)∧e=.returned (.tuple #[.agg #[.int .i64 0,.int .i64 0,.slice none 0 0,.bool false],.bool false])))∧Below w.heap.size w W':=by
 have h1:1≤n:=by omega
 refine callsIn_of_wp_marks Tryz.func52 rfl h61 ?_ hro
 simp only [Tryz.ntmps52,List.size_toArray,List.length_cons,List.length_nil,Nat.reduceAdd,Nat.reduceSub,Array.replicate_succ,Array.replicate_zero,List.push_toArray,List.append_toArray,List.nil_append,List.cons_append]
 obtain ⟨aa,al,ac,rfl⟩:=hav
 gi_wp2_with (gi_at_call 93;refine (Zml F (n-1) h122 hro _ ⟨_,_,_,rfl⟩ _).mono ?_;rintro e w' ⟨rfl,rfl⟩)
 obtain ⟨W0,hW0⟩:∃W0,(((w.alloc (.cells #[.int .i64 v] 3)).alloc (.cells #[.int .i64 0,.int .i64 0,.slice none 0 0,.bool false] 112)).alloc (.cells #[.bool false] 4)).alloc (.cells #[.slice aa al ac] 106)=W0:=⟨_,rfl⟩
 have hB0:Below w.heap.size w W0:=by rw [←hW0];exact ((((Below.refl _ w).alloc (Nat.le_refl _) _).alloc (by simp) _).alloc (by simp;omega) _).alloc (by simp;omega) _
 have hsz:W0.heap.size=w.heap.size+4:=by rw [←hW0];simp
 have bV:Boxed W0 w.heap.size 3 (.int .i64 v):=by rw [←hW0];exact (((Boxed.new w 3 (.int .i64 v)).alloc _).alloc _).alloc _
 have bR:WJ W0 (w.heap.size+1) default:=by
  rw [←hW0]
  have h:WJ ((w.alloc (.cells #[.int .i64 v] 3)).alloc (.cells #[.int .i64 0,.int .i64 0,.slice none 0 0,.bool false] 112)) (w.alloc (.cells #[.int .i64 v] 3)).heap.size default:=World.alloc_heap_new _ _
  rw [World.size_alloc] at h
  exact (h.alloc _).alloc _
 have bO:Boxed W0 (w.heap.size+1+1) 4 (.bool false):=by
  rw [←hW0]
  have h:=Boxed.new ((w.alloc (.cells #[.int .i64 v] 3)).alloc (.cells #[.int .i64 0,.int .i64 0,.slice none 0 0,.bool false] 112)) 4 (.bool false)
  simp only [World.size_alloc] at h
  exact h.alloc _
 have bA:Boxed W0 (w.heap.size+1+1+1) 106 (.slice aa al ac):=by
  rw [←hW0]
  have h:=Boxed.new (((w.alloc (.cells #[.int .i64 v] 3)).alloc (.cells #[.int .i64 0,.int .i64 0,.slice none 0 0,.bool false] 112)).alloc (.cells #[.bool false] 4)) 106 (.slice aa al ac)
  simp only [World.size_alloc] at h
  exact h
 have hA0:Jw (w.heap.size+4) W0 (.slice aa al ac) zs:=by
  rcases hA.below hB0 with h|⟨b,off,cap,e,hb,hc⟩
  ·exact .inl h
  ·exact .inr ⟨b,off,cap,e,by omega,hc⟩
 rw [hW0]
 clear hW0
 refine wpIn_rangeFunc_ownH hro h1 (gf:=127) (lb:=#[.pointer (some ⟨w.heap.size+1+1+1,0,none⟩)]) rfl h165 (enters_of Tryz.func127 (by kernel_rfl) rfl)
  (Zmm F (n-1) h165 hro (by omega) (w.heap.size+1+1+1) (w.heap.size+4) _ zs hreach W0 (by omega) (by omega) bA.cell hA0) belowK_t (belowK_b (by omega)) (Below.refl _ _) (fun _=>rfl)
  (fun pre W=>(((((∀x∈pre,x.2.m≠v)∧Boxed W w.heap.size 3 (.int .i64 v))∧WJ W (w.heap.size+1) default)∧Boxed W (w.heap.size+1+1) 4 (.bool false))∧Boxed W (w.heap.size+1+1+1) 106 (.slice aa al ac))∧Below w.heap.size w W)
  (fun c pre W=>((∃pre0 x,(c=.ret∧pre=pre0++[x]∧x.2.m=v∧∀y∈pre0,y.2.m≠v)∧WJ W (w.heap.size+1) x.2)∧Boxed W (w.heap.size+1+1) 4 (.bool true))∧Below w.heap.size w W)
  (OwnFrom.and (OwnFrom.and (OwnFrom.and (OwnFrom.and (OwnFrom.and (ownFrom_pure _ _) (Own.from (boxed_own _ _ _) _)) (Own.from (Z78 _ _) _)) (Own.from (boxed_own _ _ _) _)) (Own.from (boxed_own _ _ _) _)) (ownFrom_below (Nat.le_refl _) (by omega)))
  (fun c=>OwnFrom.and (OwnFrom.and (fun s X Y row hs hg hr=>by
   obtain ⟨pre0,x,h,hb⟩:=hs
   exact ⟨pre0,x,h,Z78 (w.heap.size+1) (fun (_:Unit)=>x.2) () X Y row hb hg (fun r e=>(hr r e).2)⟩) (Own.from (boxed_own _ _ _) _)) (ownFrom_below (Nat.le_refl _) (by omega)))
  ⟨⟨⟨⟨⟨by simp,bV⟩,bR⟩,bO⟩,bA⟩,hB0⟩
  (fun x a' W=>∃Bx,w.heap.size+1+1<Bx∧WJ W Bx x.2∧a'={ tmps:=#[.slice aa al ac,.int .i64 v,undef,.pointer (some ⟨w.heap.size,0,none⟩),.pointer (some ⟨w.heap.size+1,0,none⟩),.pointer (some ⟨w.heap.size+1+1,0,none⟩),undef,.pointer (some ⟨Bx,0,none⟩),.slice aa al ac,.func (.func 127) #[] #[.pointer (some ⟨w.heap.size+1+1+1,0,none⟩)],.int .i64 ((x.1:Nat):Int),x.2.enc,undef,undef,undef,undef,undef,undef],defers:=[] })
  (fun x a' _ X Y row hs hg hr=>by obtain ⟨Bx,e1,e2,e3⟩:=hs;exact ⟨Bx,e1,Z78 Bx (fun (_:Unit)=>x.2) () X Y row e2 hg (fun r e=>(hr r e).2),e3⟩)
  ?assign ?body ?done ?stop
 case assign=>
  rintro l pre ⟨xi,x⟩ W K ⟨⟨⟨⟨⟨hp,bV1⟩,bR1⟩,bO1⟩,bA1⟩,hB1⟩ hK
  obtain ⟨xm,xf,xsa,xsl,xsc,xc⟩:=x
  dsimp only [ArmV.enc] at hK ⊢
  gi_wp2
  have hbA:=bA1.lt
  exact hK _ _ ((KeepsOthers.alloc _ _).from _) ((Below.refl _ W).alloc (by omega) _) ⟨⟨⟨⟨⟨hp,bV1.alloc _⟩,bR1.alloc _⟩,bO1.alloc _⟩,bA1.alloc _⟩,hB1.alloc hB1.size _⟩ ⟨W.heap.size,by omega,World.alloc_heap_new W _,rfl⟩
 case body=>
  rintro l pre ⟨xi,x⟩ a' W hl ⟨r,hr⟩ ⟨⟨⟨⟨⟨hp,bV1⟩,bR1⟩,bO1⟩,bA1⟩,hB1⟩ ⟨Bx,hBx,bX,rfl⟩ hlt
  obtain ⟨xm,xf,xsa,xsl,xsc,xc⟩:=x
  have cV:=bV1.cell
  obtain ⟨x0,x1,x2,x3⟩:=bX.cells
  dsimp only at x0 x1 x2 x3
  obtain ⟨r0,r1,r2,r3⟩:=bR1.cells
  have f0:=bR1.frozen 0
  have f1:=bR1.frozen 1
  have f2:=bR1.frozen 2
  have f3:=bR1.frozen 3
  have cO:=bO1.cell
  have fO:=bO1.frozen
  gi_wp2
  ·rename_i hxy
   have hxv:xm=v:=by first|exact hxy|exact eq_of_beq hxy|(simp at hxy;exact hxy)
   have b4:=bR1.put ⟨xm,xf,xsa,xsl,xsc,xc⟩
   have b5:Boxed (w4 W (w.heap.size+1) ⟨xm,xf,xsa,xsl,xsc,xc⟩) (w.heap.size+1+1) 4 (.bool false):=(Zkv W _ _ _ (by omega)).trans bO1
   have b6:WJ ((w4 W (w.heap.size+1) ⟨xm,xf,xsa,xsl,xsc,xc⟩).setCell ⟨w.heap.size+1+1,0,none⟩ (.bool true)) (w.heap.size+1) ⟨xm,xf,xsa,xsl,xsc,xc⟩:=b4.other (by omega) 0 _
   exact ⟨((Zku W (w.heap.size+1) ⟨xm,xf,xsa,xsl,xsc,xc⟩).trans (KeepsOthers.setCell _ _ _)).from _,⟨⟨pre,xi,⟨xm,xf,xsa,xsl,xsc,xc⟩,⟨rfl,rfl,hxv,fun a b h=>hp (a,b) h⟩,b6⟩,b5.set _⟩,(Zkt ⟨xm,xf,xsa,xsl,xsc,xc⟩ hB1 (by omega)).setCell (p:=⟨w.heap.size+1+1,0,none⟩) (by simp;omega) _⟩
  ·rename_i hxy
   exact ⟨KeepsFrom.refl _ _,Below.refl _ _,⟨⟨⟨⟨fun a b h=>(List.mem_append.1 h).elim (hp (a,b)) (fun e=>by simp at e;obtain ⟨rfl,rfl⟩:=e;simpa using hxy),bV1⟩,bR1⟩,bO1⟩,bA1⟩,hB1⟩
 case done=>
  rintro D ys W hD rfl ⟨⟨⟨⟨⟨hp,bV1⟩,bR1⟩,bO1⟩,bA1⟩,hB1⟩ hK
  obtain ⟨r0,r1,r2,r3⟩:=bR1.cells
  have f0:=bR1.frozen 0
  have f1:=bR1.frozen 1
  have f2:=bR1.frozen 2
  have f3:=bR1.frozen 3
  have cO:=bO1.cell
  have fO:=bO1.frozen
  gi_wp2
  have hK':=((Zku W (w.heap.size+1) (⟨0,0,none,0,0,false⟩:ArmV)).trans (KeepsOthers.setCell _ ⟨w.heap.size+1+1,0,none⟩ (.bool false))).same D _ hK rfl
  refine ⟨by simp,.inl ⟨_,_,rfl,run_takeDeferred hK',?_⟩⟩
  have b4:=bR1.put (⟨0,0,none,0,0,false⟩:ArmV)
  have b5:Boxed (w4 W (w.heap.size+1) (⟨0,0,none,0,0,false⟩:ArmV)) (w.heap.size+1+1) 4 (.bool false):=(Zkv W _ _ _ (by omega)).trans bO1
  have b6:WJ ((w4 W (w.heap.size+1) (⟨0,0,none,0,0,false⟩:ArmV)).setCell ⟨w.heap.size+1+1,0,none⟩ (.bool false)) (w.heap.size+1) (⟨0,0,none,0,0,false⟩:ArmV):=b4.other (by omega) 0 _
  have b7:=b5.set (.bool false)
  have n4:w.heap.size+1≠D:=by omega
  have n5:w.heap.size+1+1≠D:=by omega
  have b8:WJ (((w4 W (w.heap.size+1) (⟨0,0,none,0,0,false⟩:ArmV)).setCell ⟨w.heap.size+1+1,0,none⟩ (.bool false)).putObj D (.deferred none)) (w.heap.size+1) (⟨0,0,none,0,0,false⟩:ArmV):=(World.putObj_heap_other n4).trans b6
  have b9:Boxed (((w4 W (w.heap.size+1) (⟨0,0,none,0,0,false⟩:ArmV)).setCell ⟨w.heap.size+1+1,0,none⟩ (.bool false)).putObj D (.deferred none)) (w.heap.size+1+1) 4 (.bool false):=(World.putObj_heap_other n5).trans b7
  obtain ⟨y0,y1,y2,y3⟩:=b8.cells
  have y4:=b9.cell
  dsimp only [w4] at y0 y1 y2 y3 y4
  refine ⟨.tuple #[.agg #[.int .i64 0,.int .i64 0,.slice none 0 0,.bool false],.bool false],?_,⟨.inr ⟨fun j hj=>hp (zs.length-1-j,XN zs (zs.length-1-j)) (List.mem_map.2 ⟨j,List.mem_range.2 hj,rfl⟩),rfl⟩,
   ((Zkt (⟨0,0,none,0,0,false⟩:ArmV) hB1 (by omega)).setCell (p:=⟨w.heap.size+1+1,0,none⟩) (by simp;omega) _).trans (belowK_b (w:=w) (Nat.le_refl _) _ D _ _ (by omega) hK' rfl rfl)⟩⟩
  simp [results,Tryz.f52,go_sem,y0,y1,y2,y3,y4]
 case stop=>
  rintro D c pre W hD hpre ⟨⟨⟨pre0,x,⟨rfl,he,hx,hy⟩,bR1⟩,bO1⟩,hB1⟩ hK
  gi_wp2
  refine ⟨by simp,.inl ⟨_,_,rfl,run_takeDeferred hK,?_⟩⟩
  have n4:w.heap.size+1≠D:=by omega
  have n5:w.heap.size+1+1≠D:=by omega
  have b8:WJ (W.putObj D (.deferred none)) (w.heap.size+1) x.2:=(World.putObj_heap_other n4).trans bR1
  have b9:Boxed (W.putObj D (.deferred none)) (w.heap.size+1+1) 4 (.bool true):=(World.putObj_heap_other n5).trans bO1
  obtain ⟨y0,y1,y2,y3⟩:=b8.cells
  have y4:=b9.cell
  obtain ⟨k,hk,rfl⟩:=hpre
  obtain ⟨k',rfl⟩:∃k',k=k'+1:=by
   cases k with
   | zero=>simp [dn] at he
   | succ k'=>exact ⟨k',rfl⟩
  rw [Z7m] at he
  obtain ⟨e1,e2⟩:=List.append_inj' he rfl
  have e3:x=(zs.length-1-k',XN zs (zs.length-1-k')):=(List.cons.inj e2).1.symm
  subst e3
  refine ⟨.tuple #[(XN zs (zs.length-1-k')).enc,.bool true],?_,⟨.inl ⟨k',by omega,hx,fun j hj=>hy (zs.length-1-j,XN zs (zs.length-1-j)) (e1▸List.mem_map.2 ⟨j,List.mem_range.2 hj,rfl⟩),rfl⟩,
   hB1.trans (belowK_b (w:=w) (Nat.le_refl _) W D _ _ (by omega) hK rfl rfl)⟩⟩
  simp [results,Tryz.f52,go_sem,y0,y1,y2,y3,y4,ArmV.enc]
end Go.Proofs
end
namespace Go.Abs
open Go.Proofs
theorem Zhp {v:Int}:∀{am:List Arm} {i:Nat} {a:Arm},am[i]? = some a->a.mat=v->(∀j b,i<j->am[j]? = some b->b.mat≠v)->Wo am v=some a
 | [],_,_,h,_,_=>by simp at h
 | x::r,0,a,h,hm,hl=>by
  simp at h
  subst h
  have:Wo r v=none:=Z2u fun b hb=>by
   obtain ⟨j,hj⟩:=Z3f hb
   exact hl (j+1) b om (by simpa using hj)
  rw [Wo,this]
  simp [hm]
 | x::r,i+1,a,h,hm,hl=>by
  have:Wo r v=some a:=Zhp (by simpa using h) hm fun j b hj hb=>hl (j+1) b om (by simpa using hb)
  rw [Wo,this]
def Zbh (w:World) (G:Zs) (b o:Nat) (a:Arm) (z:ArmV):Prop:=
 w.cell? ⟨b,o,none⟩=some (.int .i64 z.m)/\w.cell? ⟨b,o+1,none⟩=some (.int .i64 z.f)/\w.cell? ⟨b,o+2,none⟩=some (.slice z.sa z.sl z.sc)/\w.cell? ⟨b,o+3,none⟩=some (.bool z.c) /\
  z.m=a.mat/\z.f=a.fst/\z.c=a.chg/\RV w G (Z1 a.fds) (.slice z.sa z.sl z.sc)/\G b o
theorem Zxt {w:World} {G:Zs} {es:List AV} {hv:Option Value} {u:Value} (h:RV w G (.sl es hv) u):∃a l c,u=.slice a l c:=by
 cases h with
 | nil _=>exact ⟨_,_,_,rfl⟩
 | sl _ _ _=>exact ⟨_,_,_,rfl⟩
theorem Zmd {w:World} {G:Zs} {b o:Nat} {a:Arm} (h:RMem w G b o (Zgn a)):∃z,Zbh w G b o a z:=by
 cases h with
 | cons c0 g0 r0 t=>cases t with
  | cons c1 _ r1 t=>cases t with
   | cons c2 _ r2 t=>cases t with
    | cons c3 _ r3 t=>
     have e0:=r0.val_inv;subst e0
     have e1:=r1.val_inv;subst e1
     have e3:=r3.val_inv;subst e3
     have hs:∃sa sl sc,∃u,u=Value.slice sa sl sc/\w.cell? ⟨b,o+2,none⟩=some u/\RV w G (Z1 a.fds) u:=by
      obtain ⟨sa,sl,sc,e⟩:=Zxt r2
      exact ⟨sa,sl,sc,_,e,c2,r2⟩
     obtain ⟨sa,sl,sc,u,rfl,c2',r2'⟩:=hs
     exact ⟨⟨a.mat,a.fst,sa,sl,sc,a.chg⟩,c0,c1,c2',c3,rfl,rfl,rfl,r2',g0⟩
theorem Zcv {w:World} {G:Zs} {b k:Nat}:∀{o:Nat} {am:List Arm},REls w G k b o (Xo am)->∃zs:List ArmV,zs.length=am.length/\∀(j:Nat) a,am[j]? = some a->Zbh w G b (o+j*4) a (XN zs j)
 | _,[],_=>⟨[],rfl,fun j a h=>by simp at h⟩
 | o,x::r,.cons hl h t=>by
  have hk:4=k:=hl
  subst hk
  obtain ⟨z,hz⟩:=Zmd h
  obtain ⟨zs,hlen,hzs⟩:=Zcv t
  refine ⟨z::zs,by simp [hlen],fun j a hj=>?_⟩
  cases j with
  | zero=>simp at hj;subst hj;simpa [XN] using hz
  | succ j=>
   have:=hzs j a (by simpa using hj)
   rw [show o+(j+1)*4=o+4+j*4 by omega]
   simpa [XN] using this
theorem Zcu (am:List Arm) (v:Int) (hal:am.length<=1000000000):Zd Tryz.prog 52 [Zq am,.i v] [] (fun r h=>(∃(a:Arm),r=.tup [.agg [.i a.mat,.i a.fst,Z1 a.fds,.b a.chg],.b true]/\h=[]/\Wo am v=some a)∨(r=.tup [.agg [.i 0,.i 0,Zb [] (.slice none 0 0),.b false],.b false]/\h=[]/\Wo am v=none)):=by
 intro w G vs ha hh
 obtain ⟨u,rfl,hu⟩:∃u,vs=[u,.int .i64 v]/\RV w G (Zq am) u:=by
  cases ha with
  | cons h1 t=>cases t with
   | cons h2 t=>cases t;have:=h2.val_inv;subst this;exact ⟨_,rfl,h1⟩
 obtain ⟨zs,hlen,hat,hav,hrel⟩:∃zs:List ArmV,zs.length=am.length/\Jw w.heap.size w u zs/\(∃a l c,u=.slice a l c)/\∀(j:Nat) a,am[j]? = some a->(XN zs j).m=a.mat/\(XN zs j).f=a.fst/\(XN zs j).c=a.chg/\RV w G (Z1 a.fds) (.slice (XN zs j).sa (XN zs j).sl (XN zs j).sc):=by
  have hu':RV w G (.sl (Xo am) none) u:=hu
  generalize hes:Xo am=es at hu'
  cases hu' with
  | nil _=>
   cases am with
   | nil=>exact ⟨[],rfl,.inl ⟨_,_,rfl,rfl⟩,⟨_,_,_,rfl⟩,fun j a h=>by simp at h⟩
   | cons _ _=>simp [Xo] at hes
  | @sl _ _ b o k cap _ hc hm=>
   subst hes
   obtain ⟨zs,hlen,hzs⟩:=Zcv hm
   have hel:(Xo am).length=zs.length:=by simp [Xo,hlen]
   refine ⟨zs,hlen,?_,⟨_,_,_,rfl⟩,fun j a hj=>by obtain ⟨_,_,_,_,q1,q2,q3,q4,_⟩:=hzs j a hj;exact ⟨q1,q2,q3,q4⟩⟩
   cases am with
   | nil=>exact .inl ⟨_,_,rfl,List.eq_nil_of_length_eq_zero hlen⟩
   | cons x r=>
    refine .inr ⟨b,o,cap,by rw [hel],hh.lt b _ (hzs 0 x rfl).2.2.2.2.2.2.2.2,fun j hj=>?_⟩
    have hj2:j<(x::r).length:=by omega
    obtain ⟨q0,q1,q2,q3,_⟩:=hzs j _ (UX hj2)
    exact ⟨q0,q1,q2,q3⟩
 refine (callsIn_wide.1 (Zv5 Fence.wide 6 trivial trivial trivial rfl om v u zs om w hav hat)).mono ?_
 rintro e W' ⟨hres,hB⟩
 have hA:Agree G w W' G:=⟨fun b o hg=>hB.cell (p:=⟨b,o,none⟩) (hh.lt b o hg),fun _ _ h=>h⟩
 have hH:HOk W' G []:=⟨(fun r hr=>by cases hr),List.Pairwise.nil,(fun r hr=>by cases hr),fun b o hg=>Z1r (hh.lt b o hg) hB.size⟩
 have hX:Ext w G [] W' G []:=⟨hB.os,hB.tape,hB.output,hB.size,fun _ _ h=>h,fun b hb=>.inl (hB.block b hb),fun _ _ _ h=>.inl h,fun _ _ _ h=>h⟩
 have hmn:∀j,j<zs.length->∃a,am[zs.length-1-j]? = some a:=fun j hj=>⟨_,UX om⟩
 rcases hres with ⟨k,hk,hm,hlt,rfl⟩|⟨hno,rfl⟩
 ·obtain ⟨a,hga⟩:=hmn k hk
  obtain ⟨q1,q2,q3,q4⟩:=hrel _ a hga
  have hof:Wo am v=some a:=Zhp hga (q1▸hm) fun j b hj hb=>by
   have hjl:=(Yg.1 hb).1
   have:=hlt (zs.length-1-j) om
   rw [show zs.length-1-(zs.length-1-j)=j by omega,(hrel j b hb).1] at this
   exact this
  refine ⟨_,.tup [.agg [.i a.mat,.i a.fst,Z1 a.fds,.b a.chg],.b true],[],G,rfl,.inl ⟨a,rfl,rfl,hof⟩,?_,hH,hX⟩
  refine .tup (.cons (.agg (cs:=[_,_,_,_]) (.cons ?_ (.cons ?_ (.cons (q4.mono hA) (.cons ?_ .nil))))) (.cons .val .nil))
  ·rw [q1];exact .val
  ·rw [q2];exact .val
  ·rw [q3];exact .val
 ·have hof:Wo am v=none:=Z2u fun a ha=>by
   obtain ⟨j,hj⟩:=Z3f ha
   have hjl:=(Yg.1 hj).1
   have:=hno (zs.length-1-j) om
   rw [show zs.length-1-(zs.length-1-j)=j by omega,(hrel j a hj).1] at this
   exact this
  refine ⟨_,.tup [.agg [.i 0,.i 0,Zb [] (.slice none 0 0),.b false],.b false],[],G,rfl,.inr ⟨rfl,rfl,hof⟩,?_,hH,hX⟩
  exact .tup (.cons (.agg (cs:=[_,_,_,_]) (.cons .val (.cons .val (.cons (.nil (fun x hx=>(U6 hx).symm)) (.cons .val .nil))))) (.cons .val .nil))
theorem Z76 (b:Nat) (ga:Hd) (gb:Hd) (gc:Hd) (n:Normal) (L:XG) (ln:List Int) (am:List Arm) (x:Block) (mm:Nat) (hlk:LLen L:=by exact ob) (hlb:L.vars.length<=1000000000:=by exact ob) (hm:mm<=L.vars.length:=by exact ob) (hr:0<=x.result/\x.result<L.vars.length:=by exact ob) (hq:∀y∈L.own,-999999999<=y/\y<=1000000000):Zd Tryz.prog 86 [.p b 0,Zx x,.i mm] [.obj b [Z3 n.decls,Zh n,Z1 ln,Zq am,.h ga,.h gb,.h gc],rV ga L.vars,rV gb L.own,rV gc L.tok] (fun r h=>(r=.b true/\h=[.obj b [Z3 n.decls,Zh n,Z1 ln,Zq am,.h ga,.h gb,.h gc],rV ga ((YI L x.result).vars),rV gb ((YI L x.result).own),rV gc ((YI L x.result).tok)]/\WE mm x.result L=some ((YI L x.result).take mm))∨(r=.b false/\h=[]/\WE mm x.result L=none)):=by
 have hlk0:=hlk
 obtain ⟨e1,e2,e3,e4,e5⟩:=hlk0
 have d1:(Yi L x.result).own.length=L.own.length:=VD
 have d2:(Yi L x.result).tok.length=L.tok.length:=rfl
 have d3:(Yi L x.result).vars.length=L.vars.length:=rfl
 refine enter Tryz.func86 kr (n:=52) kr kr (ar (iA (YY x) ?_))
 intro b1
 refine ir 1 [(0,.p b 0),(2,.i mm),(4,.p b1 0)] (ie (aq (aD 16 (ZI (fuel:=10) 16 [0,1,2,3,4,5] (.n 11 (.h ga) (.n 13 (.i x.result) .r)) [1,0] [b,b1] (dx 6 (Xb 2 ga L.vars x.result x.result.toNat (hq:=rfl)) ?_)))))
 obtain ⟨x1,hx1⟩:=Zl (xs:=L.vars) (j:=x.result.toNat) om
 have hgv:=XR hx1
 refine Qp 7 (WA 2 ga L.vars x.result.toNat x1 hx1) (Zi (fuel:=6) 8 [8,9] (.n 17 (.b (x1 != 0)) .r) (db (b:=(x1 != 0)) 17 (fun hb1=>?_) (fun hb1=>?_)))
 ·have hp1:x1≠0:=(Zw).1 hb1
  refine ZI (fuel:=3) 6 [10,11,12] (.n 18 (.p b 0) (.n 20 (.i x.result) (.k (.d .r)))) [0] [b1] (Zm 13 (dc 13 [1,1,1,1] [] [] (Z3x b ga gb gc n L ln am x.result (hq:=(fun y hy=>by have:=hq y hy;omega))) ?_))
  rintro _ _ ⟨rfl,rfl⟩
  refine Zi (fuel:=0) 2 [14,15] (.n 23 (.b (!decide (1<=gI L.own x.result))) .r) (de (ac (!decide (1<=gI L.own x.result)) (p:=¬(decide (1<=gI L.own x.result)=true)) (ZP Iff.rfl) (fun hc1=>?_) (fun hc1=>?_)))
  ·refine ar (ir 1 [(6,.b false)] (ie ?_))
   exact Z5 (r1 [] (.inr ⟨rfl,rfl,(Zpf (by rw [hgv];exact hp1) (fun q=>hc1 (decide_eq_true q)))⟩))
  refine ak (aq (ar (Z0 2 (.n 7 (.i mm) .r) (ie (ab 0 (al (fun m F h=>∃(k:Nat),(mm<=k/\k<=L.vars.length)/\(XD ((Yi L x.result).own.drop k) ((Yi L x.result).tok.drop k)=XD ((Yi L x.result).own.drop mm) ((Yi L x.result).tok.drop mm))/\F=[(0,.p b 0),(7,.i k)]/\h=[.obj b [Z3 n.decls,Zh n,Z1 ln,Zq am,.h ga,.h gb,.h gc],rV ga ((Yi L x.result).vars),rV gb ((Yi L x.result).own),rV gc ((Yi L x.result).tok)]/\m=L.vars.length-k) _ _ _ ⟨mm,om,ob,rfl,rfl,rfl⟩ (wk [0,0,0,0] fl) ?_))))))
  rintro m F h ⟨k,c0_0,c0_1,rfl,rfl,rfl⟩
  refine aq (ar (Za 5 (.n 25 (.i k) (.n 29 (.h ga) .r)) [0] [b] (Zf (Z04 1 ga ((Yi L x.result).vars)) (Z0 1 (.n 31 (.b (decide ((k:Int)<((((Yi L x.result).vars).length:Nat):Int)))) .r) (ie (ac (decide ((k:Int)<((((Yi L x.result).vars).length:Nat):Int))) dq (fun hc2=>?_) (fun hc2=>?_)))))))
  ·refine ak (aq (ab 1 (ar (Za 5 (.n 37 (.h gb) (.n 38 (.i k) .r)) [0] [b] (Zf (Xb 2 gb ((Yi L x.result).own) (k:Int) k) ?_)))))
   obtain ⟨x2,hx2⟩:=Zl (xs:=(Yi L x.result).own) (j:=k) om
   refine YR (WA 2 gb ((Yi L x.result).own) k x2 hx2) (Z0 2 (.n 42 (.b (x2 != 0)) .r) (ib (b:=(x2 != 0)) 42 (fun hb2=>?_) (fun hb2=>?_)))
   ·have hp2:x2≠0:=(Zw).1 hb2
    refine Z0 9 (.n 51 (.b true) (.k (.d .r))) (ie (X8 (ar (ir 1 [(6,.b false)] (ie ?_)))))
    have hE:YI L x.result=Yi L x.result:=Z8 (by rw [hgv];exact hp1)
    obtain ⟨y,hy⟩:=Zl (xs:=(Yi L x.result).tok) (j:=k) om
    exact Z5 (r1 [] (.inr ⟨rfl,rfl,(Z4h (by rw [hE];exact Z68 hx2 hy (.inl hp2) c0_1))⟩))
   have hp3:¬(x2≠0):=Zv Zw hb2
   refine Za 5 (.n 46 (.h gc) (.n 47 (.i k) (.k (.d .r)))) [0] [b] (Zf (Xb 3 gc ((Yi L x.result).tok) (k:Int) k) ?_)
   obtain ⟨x3,hx3⟩:=Zl (xs:=(Yi L x.result).tok) (j:=k) om
   refine YR (WA 3 gc ((Yi L x.result).tok) k x3 hx3) (Z0 2 (.n 51 (.b (decide (x3>=0))) .r) (ie (ac (decide (x3>=0)) dq (fun hc3=>?_) (fun hc3=>?_))))
   ·refine ar (ir 1 [(6,.b false)] (ie ?_))
    have hE:YI L x.result=Yi L x.result:=Z8 (by rw [hgv];exact hp1)
    exact Z5 (r1 [] (.inr ⟨rfl,rfl,(Z4h (by rw [hE];exact Z68 hx2 hx3 (.inr hc3) c0_1))⟩))
   refine ak (az (Z0 1 (.n 32 (.i k) .r) (ia (((k+1:Nat):Int)) (((k:Int))+(1)) (ir 1 [(0,.p b 0),(7,.i (k+1:Nat))] (ie ?_)))))
   exact ⟨_,_,_,ob,⟨k+1,ob,(by first|exact Z69 hx2 hx3 om c0_1|exact Z69 hx4 hx5 om c0_1),rfl,rfl,rfl⟩,(wk [0,0,0,0] (fr (fc (x:=.i (k+1:Nat)) li fl)))⟩
  refine ax 0 (ar (ir 1 [(6,.b true)] (ie ?_)))
  have hE:YI L x.result=Yi L x.result:=Z8 (by rw [hgv];exact hp1)
  exact Z5 (r1 [0,0,0,0] (.inl ⟨rfl,rfl,(Ze8 (fun _=>of_decide_eq_true (XE.1 hc1)) (by rw [hE];exact Zl4 om c0_1))⟩) (eq:=(rc (rv (xs:=(Yi L x.result).vars) (by rw [hE]) (rv (xs:=(Yi L x.result).own) (by rw [hE]) (rv (xs:=(Yi L x.result).tok) (by rw [hE]) rz))))))
 have hp4:¬(x1≠0):=Zv Zw hb1
 refine Zi (fuel:=0) 6 [10,11,12,13,14,15] (.n 23 (.b false) (.k (.d .r))) (de (YA (ak (aq (ar (Z0 2 (.n 7 (.i mm) .r) (ie (ab 0 (al (fun m F h=>∃(k:Nat),(mm<=k/\k<=L.vars.length)/\(XD (L.own.drop k) (L.tok.drop k)=XD (L.own.drop mm) (L.tok.drop mm))/\F=[(0,.p b 0),(7,.i k)]/\h=[.obj b [Z3 n.decls,Zh n,Z1 ln,Zq am,.h ga,.h gb,.h gc],rV ga L.vars,rV gb L.own,rV gc L.tok]/\m=L.vars.length-k) _ _ _ ⟨mm,om,ob,rfl,rfl,rfl⟩ (wk [1,1,1,1] fl) ?_)))))))))
 rintro m F h ⟨k,c0_0,c0_1,rfl,rfl,rfl⟩
 refine aq (ar (Za 5 (.n 25 (.i k) (.n 29 (.h ga) .r)) [0] [b] (Zf (Z04 1 ga L.vars) (Z0 1 (.n 31 (.b (decide ((k:Int)<(L.vars.length:Int)))) .r) (ie (ac (decide ((k:Int)<(L.vars.length:Int))) dq (fun hc4=>?_) (fun hc4=>?_)))))))
 ·refine ak (aq (ab 1 (ar (Za 5 (.n 37 (.h gb) (.n 38 (.i k) .r)) [0] [b] (Zf (Xb 2 gb L.own (k:Int) k) ?_)))))
  obtain ⟨x4,hx4⟩:=Zl (xs:=L.own) (j:=k) om
  refine YR (WA 2 gb L.own k x4 hx4) (Z0 2 (.n 42 (.b (x4 != 0)) .r) (ib (b:=(x4 != 0)) 42 (fun hb3=>?_) (fun hb3=>?_)))
  ·have hp5:x4≠0:=(Zw).1 hb3
   refine Z0 9 (.n 51 (.b true) (.k (.d .r))) (ie (X8 (ar (ir 1 [(6,.b false)] (ie ?_)))))
   have hE:YI L x.result=L:=Z4 (by rw [hgv];exact hp4)
   obtain ⟨y,hy⟩:=Zl (xs:=L.tok) (j:=k) om
   exact Z5 (r1 [] (.inr ⟨rfl,rfl,(Z4h (by rw [hE];exact Z68 hx4 hy (.inl hp5) c0_1))⟩))
  have hp6:¬(x4≠0):=Zv Zw hb3
  refine Za 5 (.n 46 (.h gc) (.n 47 (.i k) (.k (.d .r)))) [0] [b] (Zf (Xb 3 gc L.tok (k:Int) k) ?_)
  obtain ⟨x5,hx5⟩:=Zl (xs:=L.tok) (j:=k) om
  refine YR (WA 3 gc L.tok k x5 hx5) (Z0 2 (.n 51 (.b (decide (x5>=0))) .r) (ie (ac (decide (x5>=0)) dq (fun hc5=>?_) (fun hc5=>?_))))
  ·refine ar (ir 1 [(6,.b false)] (ie ?_))
   have hE:YI L x.result=L:=Z4 (by rw [hgv];exact hp4)
   exact Z5 (r1 [] (.inr ⟨rfl,rfl,(Z4h (by rw [hE];exact Z68 hx4 hx5 (.inr hc5) c0_1))⟩))
  refine ak (az (Z0 1 (.n 32 (.i k) .r) (ia (((k+1:Nat):Int)) (((k:Int))+(1)) (ir 1 [(0,.p b 0),(7,.i (k+1:Nat))] (ie ?_)))))
  exact ⟨_,_,_,ob,⟨k+1,ob,(by first|exact Z69 hx2 hx3 om c0_1|exact Z69 hx4 hx5 om c0_1),rfl,rfl,rfl⟩,(wk [0,0,0,0] (fr (fc (x:=.i (k+1:Nat)) li fl)))⟩
 refine ax 0 (ar (ir 1 [(6,.b true)] (ie ?_)))
 have hE:YI L x.result=L:=Z4 (by rw [hgv];exact hp4)
 exact Z5 (r1 [0,0,0,0] (.inl ⟨rfl,rfl,(Ze8 (fun q=>absurd (by rw [<-hgv];exact q) hp4) (by rw [hE];exact Zl4 om c0_1))⟩) (eq:=(rc (rv (xs:=L.vars) (by rw [hE]) (rv (xs:=L.own) (by rw [hE]) (rv (xs:=L.tok) (by rw [hE]) rz))))))
theorem Zmv (b:Nat) (ga:Hd) (gb:Hd) (gc:Hd) (n:Normal) (L:XG) (ln:List Int) (am:List Arm) (i:Int) (hlk:LLen L) (hi:0<=i/\i<L.vars.length) (hq:∀x∈L.own,-1000000000<=x/\x<=1000000000):Zd Tryz.prog 123 [.p b 0,.i i] [.obj b [Z3 n.decls,Zh n,Z1 ln,Zq am,.h ga,.h gb,.h gc],rV ga L.vars,rV gb L.own,rV gc L.tok] (fun r h=>(r=.b true/\h=[.obj b [Z3 n.decls,Zh n,Z1 ln,Zq am,.h ga,.h gb,.h gc],rV ga ((Yi L i).vars),rV gb ((Yi L i).own),rV gc ((Yi L i).tok)]/\1<=gI L.own i)∨(r=.b false/\h=[.obj b [Z3 n.decls,Zh n,Z1 ln,Zq am,.h ga,.h gb,.h gc],rV ga ((Yi L i).vars),rV gb ((Yi L i).own),rV gc ((Yi L i).tok)]/\¬1<=gI L.own i)):=by
 refine (Z3x b ga gb gc n L ln am i hlk hi hq).mono fun r h q=>?_
 obtain ⟨rfl,rfl⟩:=q
 by_cases hc:1<=gI L.own i
 ·exact .inl ⟨by rw [decide_eq_true hc],rfl,hc⟩
 ·exact .inr ⟨by rw [decide_eq_false hc],rfl,hc⟩
theorem Zmp (b:Nat) (ga:Hd) (gb:Hd) (gc:Hd) (n:Normal) (L:XG) (ln:List Int) (am:List Arm) (op:Int) (v:Int) (q:Int) (hn:NOk n:=by exact ob) (hk:LOk n.decls L q:=by exact ob) (har:ArmR n.decls L am:=by exact ob) (hln:ln.length<=4294967296:=by exact ob) (hal:am.length<=1000000000:=by exact ob) (hlb:L.vars.length<=1000000000:=by exact ob) (hi:0<=v/\v<L.vars.length:=by exact ob) (hq:0<=q/\q<=999999980:=by exact ob):Zd Tryz.prog 150 [.p b 0,.i op,.i v] [.obj b [Z3 n.decls,Zh n,Z1 ln,Zq am,.h ga,.h gb,.h gc],rV ga L.vars,rV gb L.own,rV gc L.tok] (fun r h=>(∃(L':XG),r=.b true/\h=[.obj b [Z3 n.decls,Zh n,Z1 ln,Zq am,.h ga,.h gb,.h gc],rV ga L'.vars,rV gb L'.own,rV gc L'.tok]/\T4 n ln L op v=some L')∨(r=.b false/\h=[]/\T4 n ln L op v=none)):=by
 have hlk:=hk.len
 obtain ⟨e1,e2,e3,e4,e5⟩:=hk.len
 have hdk:=hn.decls
 obtain ⟨xo,hxo⟩:=Zl (xs:=L.own) (j:=v.toNat) om
 have hgo:=XR hxo
 obtain ⟨xt,hxt⟩:=Zl (xs:=L.tok) (j:=v.toNat) om
 have hgt:=XR hxt
 have hob:=hk.bd xo (ZV hxo)
 have hon:=hk.nn xo (ZV hxo)
 have d1:(Yi L v).own.length=L.own.length:=VD
 have d2:(Yi L v).tok.length=L.tok.length:=rfl
 have d3:(Yi L v).vars.length=L.vars.length:=rfl
 refine enter Tryz.func150 kr (n:=91) kr kr (ar (ir 1 [(0,.p b 0),(1,.i op),(2,.i v)] (ie (aq (ar (Z0 1 (.n 11 (.i op) .r) (ie (ab 0 (ar (Z0 2 (.n 12 (.b (op==14)) .r) (ie (ac (op==14) Ze (fun hc1=>?_) (fun hc1=>?_)))))))))))))
 ·refine aq (ar (Z0 2 (.n 14 (.p b 0) (.n 15 (.i v) .r)) (ic [0,0,0,0] (Z75 b ga gb gc _ L ln am v ob ob ob ob ob hk.down ob) ?_)))
  rintro _ _ ⟨rfl,rfl⟩
  refine Z0 1 (.n 17 (.b (!YG L ln v)) .r) (ie (ac (!YG L ln v) (p:=¬(YG L ln v=true)) (ZP Iff.rfl) (fun hc2=>?_) (fun hc2=>?_)))
  ·refine ar (ir 1 [(6,.b false)] (ie ?_))
   exact Z5 (r1 [] (.inr ⟨rfl,rfl,(Znl hc1 hc2)⟩))
  refine ak (ar (iR 5 [(21,.h gb),(22,.i v)] [0] [b] (Zf (Xb 2 gb L.own v v.toNat (hq:=rfl)) (YR (WA 2 gb L.own v.toNat xo hxo) (ia ((xo+1)) ((xo)+(1)) (Zf (Xb 2 gb L.own v v.toNat (hq:=rfl)) (iVS 2 gb L.own v.toNat (xo+1) (ie (ar (ir 1 [(6,.b true)] (ie ?_)))))))))))
  exact Z5 (r1 [1,1,0,0] (.inl ⟨(Led.mk L.vars (L.own.set v.toNat (xo+1)) L.par L.con L.fst L.tok),rfl,rfl,(Znm hc1 (XE.1 hc2) hgo)⟩) (eq:=(rc (rv (xs:=L.vars) ob (rv (xs:=(L.own.set v.toNat (xo+1))) ob (rv (xs:=L.tok) ob rz))))))
 refine ar (Z0 2 (.n 27 (.b (op==15)) .r) (ie (ac (op==15) Ze (fun hc3=>?_) (fun hc3=>?_))))
 ·refine ar (ir 2 [(29,.p b 0),(30,.i v)] (ic [0,0,0,0] (Zmv b ga gb gc n L ln am v ob ob (fun y hy=>by have h1:=hk.nn y hy;have h2:=hk.bd y hy;omega)) ?_))
  rintro _ _ (⟨rfl,rfl,hp1⟩|⟨rfl,rfl,hp2⟩)
  ·refine ir 1 [(6,.b true)] (ie ?_)
   exact Z5 (r1 [0,0,0,0] (.inl ⟨(Yi L v),rfl,rfl,(Zno hc3 hp1)⟩))
  refine ir 1 [(6,.b false)] (ie ?_)
  exact Z5 (r1 [] (.inr ⟨rfl,rfl,(Znn hc3 hp2)⟩))
 refine ak (ar (Za 5 (.n 36 (Zq am) (.n 37 (.i v) .r)) [0] [b] (ic [] (Zcu am v ob) ?_)))
 rintro _ _ (⟨a1,rfl,rfl,hp3⟩|⟨rfl,rfl,hp4⟩)
 ·have hof:=hp3
  have hmem:=(Z5f hof).1
  have hrg:=har.rng _ hmem
  have hO:=(Zdf (n:=n) (ln:=ln) hc1 hc3).trans (Zvn (op:=op) har hi hof hgt)
  have hfl:a1.fds.length<=3:=by
   have h:=har.off v hi.1 hi.2
   rw [hof] at h
   rw [h.2.2]
   exact VV hdk _
  have hhl:=Z0t a1.fds a1.fst
  refine Z0 3 (.n 39 (.agg [.i a1.mat,.i a1.fst,Z1 a1.fds,.b a1.chg]) (.n 40 (.b true) .r)) (iA [.i 0,.i 0,nl,.b false] ?_)
  intro b1
  refine iS 0 b1 0 [.i a1.mat,.i a1.fst,Z1 a1.fds,.b a1.chg] [.i 0,.i 0,nl,.b false] [.i a1.mat,.i a1.fst,Z1 a1.fds,.b a1.chg] (Z0 1 (.n 8 (.b true) .r) (ie (aq (ar (Z0 5 (.n 43 (.b false) (.n 44 (.p b 0) (.n 45 (.i v) .r))) (ic [1,1,1,1] (Z3x b ga gb gc n L ln am v (hlk:=hlk) (hq:=(fun y hy=>by have h1:=hk.nn y hy;have h2:=hk.bd y hy;omega))) ?_))))))
  rintro _ _ ⟨rfl,rfl⟩
  refine Xl [(0,.p b 0),(1,.i op),(2,.i v),(7,.p b1 0),(62,.b ((!decide (1<=gI L.own v))||((op==17)&&(decide (xt>=0)))))] [.obj b [Z3 n.decls,Zh n,Z1 ln,Zq am,.h ga,.h gb,.h gc],rV ga ((Yi L v).vars),rV gb ((Yi L v).own),rV gc ((Yi L v).tok),.obj b1 [.i a1.mat,.i a1.fst,Z1 a1.fds,.b a1.chg]] ?_ ?_
  ·refine ir 3 [(0,.p b 0),(1,.i op),(2,.i v),(7,.p b1 0),(49,.b (!decide (1<=gI L.own v)))] (ib (b:=(!decide (1<=gI L.own v))) 49 (fun hb1=>?_) (fun hb1=>?_))
   ·have hp5:¬(decide (1<=gI L.own v)=true):=((ZP Iff.rfl)).1 hb1
    refine Z0 13 (.n 62 (.b true) (.d (.w .z))) (ie ?_)
    exact wk [0,0,0,0,0] (fq (fc (x:=.b true) (lb (by simp only [hb1];rfl)) fl))
   have hp6:¬(¬(decide (1<=gI L.own v)=true)):=Zv (ZP Iff.rfl) hb1
   refine Z0 3 (.n 52 (.b (op==17)) (.w (.k .z))) (ib (b:=(op==17)) 52 (fun hb2=>?_) (fun hb2=>?_))
   ·have hp7:op=17:=(Ze).1 hb2
    refine Za 5 (.n 56 (.h gc) (.n 57 (.i v) (.k (.d .r)))) [0] [b] (Zf (Xb 3 gc ((Yi L v).tok) v v.toNat (hq:=rfl)) (YR (WA 3 gc ((Yi L v).tok) v.toNat xt hxt) (Z0 3 (.n 62 (.b (decide (xt>=0))) .r) (ie ?_))))
    exact wk [0,0,0,0,0] (fq (fc (x:=.b (decide (xt>=0))) (lb (by simp only [hb1,hb2];rfl)) fl))
   have hp8:¬(op=17):=Zv Ze hb2
   refine Z0 10 (.n 62 (.b false) (.k (.d .r))) (ie ?_)
   exact wk [0,0,0,0,0] (fq (fc (x:=.b false) (lb (by simp only [hb1,hb2];rfl)) fl))
  refine ac ((!decide (1<=gI L.own v))||((op==17)&&(decide (xt>=0)))) (p:=(¬(decide (1<=gI L.own v)=true))∨((op=17)/\(xt>=0))) (Zz (ZP Iff.rfl) (ZZ Ze dq)) (fun hc4=>?_) (fun hc4=>?_)
  ·refine ar (ir 1 [(6,.b false)] (ie ?_))
   exact Z5 (r1 [] (.inr ⟨rfl,rfl,(by rw [hO,Z8 (hc4.imp (fun h g=>h (decide_eq_true g)) id)])⟩))
  have hG:¬(¬1<=gI L.own v∨(op=17/\xt>=0)):=fun z=>hc4 (z.imp (fun h g=>h (of_decide_eq_true g)) id)
  have hbd:=Zoi hk (XE.1 fun z=>hG (.inl z)) hi
  refine ak (aq (ar (iR 1 [(0,.p b 0),(1,.i op),(2,.i v),(7,.p b1 0),(63,.agg [.i a1.mat,.i a1.fst,Z1 a1.fds,.b a1.chg])] [4] [b1] (ic [] (Z2i a1) ?_))))
  rintro _ _ ⟨rfl,rfl⟩
  refine io (.i (((Y7 a1.fds a1.fst).length:Nat):Int)) (.i (((Z6 (Y7 a1.fds a1.fst)).length:Nat):Int)) (li (by rw [ZD])) (Z0 1 (.n 66 (.i 0) .r) (ie (ab 1 (al (fun m F h=>∃(k:Nat) (o:List Int),(k<=(Y7 a1.fds a1.fst).length)/\(o.length=L.vars.length)/\(∀y∈o,0<=y/\y<=q+k)/\(Z0g o ((Y7 a1.fds a1.fst).drop k)=VF (Yi L v).own a1.fst a1.fds)/\F=[(0,.p b 0),(1,.i op),(2,.i v),(7,.p b1 0),(64,Z1 (Y7 a1.fds a1.fst)),(65,.i (((Y7 a1.fds a1.fst).length:Nat):Int)),(66,.i k)]/\h=[.obj b [Z3 n.decls,Zh n,Z1 ln,Zq am,.h ga,.h gb,.h gc],rV ga ((Yi L v).vars),rV gb o,rV gc ((Yi L v).tok),.obj b1 [.i a1.mat,.i a1.fst,Z1 a1.fds,.b a1.chg]]/\m=(Y7 a1.fds a1.fst).length-k) _ _ _ ⟨0,(Yi L v).own,ob,ob,(fun y hy=>by have:=hbd y hy;omega),(by rw [VR];exact Zn0),rfl,rfl,rfl⟩ (wk [0,0,0,0,0] (fq (fw (fc (x:=.i 0) li fl)))) ?_))))
  rintro m F h ⟨k,o,c0_0,c0_1,c0_2,c0_3,rfl,rfl,rfl⟩
  refine ar (Z0 1 (.n 67 (.b (decide ((k:Int)<(((Y7 a1.fds a1.fst).length:Nat):Int)))) .r) (ie (aq (ac (decide ((k:Int)<(((Y7 a1.fds a1.fst).length:Nat):Int))) dq (fun hc5=>?_) (fun hc5=>?_)))))
  ·refine ak (aq (ab 2 (ar ?_)))
   obtain ⟨x1,hx1⟩:=Zl (xs:=(Y7 a1.fds a1.fst)) (j:=k) om
   have hfm:=QP (ZV hx1)
   refine Zf (Zj (es:=Z6 (Y7 a1.fds a1.fst)) (hv:=none) (j:=(k:Int)) (sz:=1) (y:=.i x1) kr om (ZH hx1) rfl) (Z0 2 (.n 10 (.i x1) .r) (ie (az (Za 5 (.n 73 (.h gb) (.n 74 (.i x1) .r)) [0] [b] (Zf (Xb 2 gb o x1 x1.toNat (hq:=rfl)) ?_)))))
   obtain ⟨x2,hx2⟩:=Zl (xs:=o) (j:=x1.toNat) om
   have hy2:=c0_2 _ (ZV hx2)
   have hgx:=XR hx2
   refine YR (WA 2 gb o x1.toNat x2 hx2) (ia ((x2+1)) ((x2)+(1)) (Zf (Xb 2 gb o x1 x1.toNat (hq:=rfl)) (iVS 2 gb o x1.toNat (x2+1) (ie (az (ia (((k+1:Nat):Int)) (((k:Int))+(1)) (Z0 1 (.n 66 (.i (k+1:Nat)) (.p (.p (.p (.p (.p (.d (.d (.d (.p (.d (.w (.k (.k .z)))))))))))))) (ie ?_))))))))
   exact ⟨_,_,_,ob,⟨k+1,(o.set x1.toNat (x2+1)),ob,(by simp [c0_1]),(by intro y hy;rcases Ty hy with hy|rfl<;>first|(have:=c0_2 y hy;omega)|omega),(Zn1 hx1 hgx c0_3),rfl,rfl,rfl⟩,(wk [1,1,0,0,0] (fq (fw (fc (x:=.i (k+1:Nat)) li fl))))⟩
  refine ax 1 (aq (ar (Z0 2 (.n 81 (.b (op==17)) .r) (ie (ac (op==17) Ze (fun hc6=>?_) (fun hc6=>?_))))))
  ·refine aE 10 (dT (fuel:=3) 10 [0,1,2,3,4,5,6] [(85,.h gc),(86,.i v),(88,Z1 a1.fds)] [0,4] [b,b1] (dw 7 (ZD a1.fds) (dx 8 (Xb 3 gc ((Yi L v).tok) v v.toNat (hq:=rfl)) (Zm 9 (KP 9 3 [] [] gc ((Yi L v).tok) v.toNat (a1.fds.length:Int) (de (ar (ir 1 [(6,.b true)] (ie ?_)))))))))
   have hE:=Zd9 om c0_3
   exact Z5 (r1 [1,1,1,0] (.inl ⟨(Led.mk L.vars o L.par L.con L.fst (L.tok.set v.toNat a1.fds.length)),rfl,rfl,(by rw [hO,Z4 hG,Z8 hc6,hE];rfl)⟩) (eq:=(rc (rv (xs:=(Yi L v).vars) ob (rv (xs:=o) ob (rv (xs:=(((Yi L v).tok).set v.toNat (a1.fds.length:Int))) ob rz))))))
  refine ak (ar (ir 1 [(6,.b true)] (ie ?_)))
  have hE:=Zd9 om c0_3
  exact Z5 (r1 [0,0,0,0] (.inl ⟨(Led.mk L.vars o L.par L.con L.fst L.tok),rfl,rfl,(by rw [hO,Z4 hG,Z4 hc6,hE];rfl)⟩) (eq:=(rc (rv (xs:=(Yi L v).vars) ob (rv (xs:=o) ob (rv (xs:=(Yi L v).tok) ob rz))))))
 refine Z0 3 (.n 39 (.agg [.i 0,.i 0,Zb [] (.slice none 0 0),.b false]) (.n 40 (.b false) .r)) (iA [.i 0,.i 0,nl,.b false] ?_)
 intro b2
 refine iS 0 b2 0 [.i 0,.i 0,Zb [] (.slice none 0 0),.b false] [.i 0,.i 0,nl,.b false] [.i 0,.i 0,Zb [] (.slice none 0 0),.b false] (Z0 1 (.n 8 (.b false) .r) (ie (aq (ar (Z0 22 (.n 62 (.b true) .r) (ie (X8 (ar (ir 1 [(6,.b false)] (ie ?_))))))))))
 exact Z5 (r1 [] (.inr ⟨rfl,rfl,((Zdf (n:=n) (ln:=ln) hc1 hc3).trans (Zi2 har hi hp4))⟩))
end Go.Abs
section
namespace Go.Proofs
open Go.Shelf Go.RowKit Go.Lib
section
variable {P:Program}
theorem Y14 (w:World) {o:Oper} {a:Act} {K:Act→World→Prop} {Q:Exit→Act→World→Prop} (d s:Operand) (t t':TypeId)
  (ho:o.op=.call { callee:=.builtin .copy,args:=#[d,s],argTypes:=#[t,t'] }) (v u:Value) (hd:a.eval d=v) (hs:a.eval s=u) {v':Value} {w':World}
  (hr:(Builtin.copy_ #[t,t'] o.type #[v,u]).run P w=.ok v' w') (h:K (a.put o.dst v') w'):o.wp P a w K Q:=by
 unfold Oper.wp execOp
 simp only [ho,resolve,invoke,builtin,Sem.run_bind,Sem.run_pure,Result.andThen_ok,List.map_toArray,List.map_cons,List.map_nil,hd,hs,hr]
 exact h
theorem Zbf (w:World) {ops:Array Oper} {rest:List Oper} {o:Oper} {a:Act} {Q:Exit→Act→World→Prop} (hgd:o.guard=none) (d s:Operand) (t t':TypeId)
  (ho:o.op=.call { callee:=.builtin .copy,args:=#[d,s],argTypes:=#[t,t'] }) (v u:Value) (hd:a.eval d=v) (hs:a.eval s=u) {v':Value} {w':World}
  (hr:(Builtin.copy_ #[t,t'] o.type #[v,u]).run P w=.ok v' w') (h:wpList P ops Q rest (a.put o.dst v') w'):wpList P ops Q (o::rest) a w:=
 wpList_plain hgd fun _ hK=>Y14 w d s t t' ho v u hd hs hr (hK _ _ h)
theorem Zke {ops:Array Oper} {o:Oper} {a:Act} {w:World} {K:Act→World→Prop} {Q:Exit→Act→World→Prop} {E:Prop}
  (hg:o.guard=none) (d x:Operand) (dT sT:TypeId) (hop:o.op=Op.call { callee:=Callee.builtin Builtin.copy,args:=#[d,x],argTypes:=#[dT,sT] })
  (v u:Value) (hd:a.eval d=v) (hx:a.eval x=u) {v':Value} {w':World} (hr:(Builtin.copy_ #[dT,sT] o.type #[v,u]).run P w=.ok v' w') (hK:K (a.put o.dst v') w') :
  if Region.wanted o (yielded ops a.tmps)=true then Oper.wp P o a w K Q else E:=by
 have hw:Region.wanted o (yielded ops a.tmps)=true:=by simp [Region.wanted,hg]
 rw [if_pos hw]
 unfold Oper.wp
 simp [execOp,hop,resolve,invoke,builtin,hd,hx,hr,Result.andThen]
 exact hK
theorem Z50 (b:Nat) (vs:List Value) (o:Nat) (w:World) (h:∀j,j<vs.length→(w.cell? ⟨b,o+j,none⟩).isSome=true) (k:Nat) (hk:(w.cell? ⟨b,k,none⟩).isSome=true):((w.setCells b o vs).cell? ⟨b,k,none⟩).isSome=true:=by
 by_cases hin:o≤k∧k<o+vs.length
 ·have:=World.cell?_setCells_in b vs o w h (k-o) (by omega)
  rw [show o+(k-o)=k by omega] at this
  rw [this];rfl
 ·rw [World.cell?_setCells_out b vs o w ⟨b,k,none⟩ (fun _ _=>by show k<o∨o+vs.length≤k;omega)]
  exact hk
end
theorem i3:(Tryz.prog.info? 3).map (fun i=>(i.zero,i.size,i.bytes))=some (some (Value.int IntKind.i64 0),1,8):=by kernel_rfl
theorem z3 (w:World):(Go.sizeOf 3).run Tryz.prog w=.ok 1 w:=by
 obtain ⟨i0,hi0,h0,h1,h2⟩:=info_parts i3
 have e:=run_sizeOf (P:=Tryz.prog) w hi0
 rwa [show Tryz.prog.cellsOf 3=1 by kernel_rfl] at e
set_option maxHeartbeats 4000000 in
set_option maxRecDepth 100000 in
theorem Zsw (b off n c i vb voff m vc:Nat) (cs vs:List Value) (w:World) (hi:i<n) (hm:0<m) (hroom:n+m≤c) (hc63:n+m≤9223372036854775807) (hvb:vb≠b)
  (hcl:cs.length=n) (hvl:vs.length=m)
  (hcs:∀j v,cs[j]? = some v→w.cell? ⟨b,off+j,none⟩=some v) (hsp:∀j,j<n+m→(w.cell? ⟨b,off+j,none⟩).isSome=true) (hfz:∀j,j<n+m→w.frozen? ⟨b,off+j,none⟩=false)
  (hvs:∀j v,vs[j]? = some v→w.cell? ⟨vb,voff+j,none⟩=some v) (h1c:∀v∈cs,v.oneCell'=true) (h1v:∀v∈vs,v.oneCell'=true)
  (tA tB:TypeId) (kA kB:Nat) (hsa:w.shape? vb=some (tA,kA)) (hsb:w.shape? b=some (tB,kB)) (hkB:kB≠0) (hfa:w.frozen? ⟨vb,voff,none⟩=false) (hfe:w.frozen? ⟨vb,kA,none⟩=false) :
  Calls Tryz.prog 177 #[.slice (some ⟨b,off,none⟩) n c,.int .i64 i,.slice (some ⟨vb,voff,none⟩) m vc] w fun e w'=>
   e=.returned (.slice (some ⟨b,off,none⟩) (n+m) c)∧w'=(w.drew.setCells b (off+(i+m)) (cs.drop i)).setCells b (off+i) vs:=by
 have mixed:Tryz.prog.follows .mixedOrders=true:=by kernel_rfl
 have hz1:¬((m:Int)=0):=by omega
 have hz2:¬((i:Int)=(n:Int)):=by omega
 have hsz:(Tryz.prog.info? 3).map (·.size)=some 1:=by
  obtain ⟨i0,hi0,h0,h1,h2⟩:=info_parts i3
  rw [hi0];simp [h1]
 have hov:∀lb cb,(callFunc 181 #[.slice (some ⟨vb,voff,none⟩) m vc,.slice (some ⟨b,off+(i+m),none⟩) lb cb]).run Tryz.prog w=.ok (.value (.bool false)) w:=fun lb cb=>by
  rw [run_callFunc_extern Tryz.func181 (by kernel_rfl) (by kernel_rfl) (by kernel_rfl) (e:=Extern.SlicesOverlaps.overlaps #[46,46] #[4]) (by kernel_rfl),
   Lib.run_overlaps_apart w 46 4 3 Tryz.underlying46 1 z3 ⟨vb,voff,none⟩ ⟨b,off+(i+m),none⟩ m vc lb cb hvb tA tB kA kB hsa hsb hkB hfa hfe]
  rfl
 have hdl:(cs.drop i).length=n-i:=by rw [List.length_drop,hcl]
 have hw1:IntKind.i64.wrap ((i:Int)+(m:Int))=(i:Int)+(m:Int):=by rw [IntKind.wrap_i64];omega
 have hb1:(0:Int)≤(i:Int)+(m:Int):=by omega
 have hin:i≤n:=by omega
 have htn:((i:Int)+(m:Int)).toNat=i+m:=by omega
 have hb2:¬(c=i+m):=by omega
 have hb3:(i:Int)≤(n:Int)+(m:Int):=by omega
 have hb4:¬(c=i):=by omega
 have hcp1:∀ty dc sc,(Builtin.copy_ #[219,219] ty #[.slice (some ⟨b,off+(i+m),none⟩) (n+m-(i+m)) dc,.slice (some ⟨b,off+i,none⟩) (n+m-i) sc]).run Tryz.prog w.drew=.ok (goInt (cs.drop i).length) (w.drew.setCells b (off+(i+m)) (cs.drop i)):=fun ty dc sc=>
  run_copy_cells w.drew _ _ ty 3 b (off+(i+m)) (n+m-(i+m)) dc ⟨b,off+i,none⟩ (n+m-i) sc (cs.drop i) Tryz.underlying219 hsz (by rw [hdl];simp only [Nat.min_def];split<;>omega)
   (fun j v hj=>by rw [Addr.add_lit,Nat.add_assoc];exact hcs (i+j) v (by rwa [List.getElem?_drop] at hj))
   (fun j hj=>by rw [Nat.add_assoc];exact hsp _ (by omega)) (fun j hj=>by rw [Nat.add_assoc];exact hfz _ (by omega)) (fun v hv=>h1c v (List.mem_of_mem_drop hv))
 obtain ⟨W1,hW1⟩:∃W1,W1=w.drew.setCells b (off+(i+m)) (cs.drop i):=⟨_,rfl⟩
 have hsp1:∀k,k<n+m→(W1.cell? ⟨b,off+k,none⟩).isSome=true:=fun k hk=>by
  rw [hW1]
  exact Z50 b _ _ _ (fun j hj=>by rw [Nat.add_assoc];exact hsp _ (by omega)) _ (hsp k hk)
 have hcp2:∀(W:World),(∀x,W.cell? x=W1.cell? x)→(∀x,W.frozen? x=W1.frozen? x)→∀ty dc,(Builtin.copy_ #[219,46] ty #[.slice (some ⟨b,off+i,none⟩) (n+m-i) dc,.slice (some ⟨vb,voff,none⟩) m vc]).run Tryz.prog W=.ok (goInt vs.length) (W.setCells b (off+i) vs):=fun W hWc hWf ty dc=>
  run_copy_cells W _ _ ty 3 b (off+i) (n+m-i) dc ⟨vb,voff,none⟩ m vc vs Tryz.underlying219 hsz (by rw [hvl];simp only [Nat.min_def];split<;>omega)
   (fun j v hj=>by
    rw [Addr.add_lit,hWc,hW1,World.cell?_setCells_out b _ _ _ _ (fun h _=>absurd h hvb)]
    exact hvs j v hj)
   (fun j hj=>by rw [hWc,Nat.add_assoc];exact hsp1 _ (by omega)) (fun j hj=>by rw [hWf,hW1,World.frozen?_setCells,Nat.add_assoc];exact hfz _ (by omega)) h1v
 rw [←hW1] at hcp1
 go_enter Tryz.func177,Tryz.ntmps177
 go_wp2_with (simp only [hov])
 go_region_law_o (refine Zke rfl _ _ 219 219 rfl _ _ (by simp [Act.eval,Act.put]) (by simp [Act.eval,Act.put]) (hcp1 _ _ _) ?_)
 go_wp2_with (at_builtin;refine Zbf _ rfl _ _ 219 46 rfl _ _ rfl rfl (hcp2 _ (fun _=>rfl) (fun _=>rfl) _ _) ?_)
 go_ret
 first|exact ⟨rfl,rfl⟩|exact ⟨rfl,by rw [hW1]⟩
set_option maxHeartbeats 4000000 in
set_option maxRecDepth 100000 in
theorem Zss (b off n c vb voff m vc:Nat) (vs:List Value) (w:World) (hm:0<m) (hroom:n+m≤c) (hc63:n+m≤9223372036854775807)
  (hvl:vs.length=m) (hsp:∀j,j<m→(w.cell? ⟨b,off+n+j,none⟩).isSome=true) (hfz:∀j,j<m→w.frozen? ⟨b,off+n+j,none⟩=false)
  (hvs:∀j v,vs[j]? = some v→w.cell? ⟨vb,voff+j,none⟩=some v) (h1v:∀v∈vs,v.oneCell'=true) :
  Calls Tryz.prog 177 #[.slice (some ⟨b,off,none⟩) n c,.int .i64 n,.slice (some ⟨vb,voff,none⟩) m vc] w fun e w'=>
   e=.returned (.slice (some ⟨b,off,none⟩) (n+m) c)∧w'=w.setCells b (off+n) vs:=by
 have mixed:Tryz.prog.follows .mixedOrders=true:=by kernel_rfl
 have hz1:¬((m:Int)=0):=by omega
 have hsrc:Src Tryz.prog 1 46 (.slice (some ⟨vb,voff,none⟩) m vc) m vs w:=Src.ofSlice w Tryz.underlying46 ⟨vb,voff,none⟩ m vc vs (by omega) (fun j u hj=>by rw [Addr.add_lit];exact hvs j u hj) h1v
 go_enter Tryz.func177,Tryz.ntmps177
 go_wp2_with (at_builtin;refine wpList_append_room1 _ rfl _ _ 219 46 rfl 3 _ _ Tryz.underlying219 i3 b off n c rfl _ rfl m vs hsrc hroom (by rw [hvl];exact hsp) (by rw [hvl];exact hfz) ?_)
 go_ret
 exact ⟨rfl,rfl⟩
set_option maxHeartbeats 4000000 in
set_option maxRecDepth 100000 in
theorem Zg9 (base:Option Addr) (n c vb voff m vc:Nat) (cs vs:List Value) (w:World) (hm:0<m) (hnc:n≤c) (hroom:c<n+m) (hbig:(n+m)*8≤140737488355328)
  (hcl:cs.length=n) (hvl:vs.length=m) (hnil:base=none→n=0)
  (hcs:∀a,base=some a→∀j v,cs[j]? = some v→w.cell? (a.add j)=some v)
  (hvs:∀j v,vs[j]? = some v→w.cell? ⟨vb,voff+j,none⟩=some v) (h1v:∀v∈vs,v.oneCell'=true) :
  Calls Tryz.prog 177 #[.slice base n c,.int .i64 n,.slice (some ⟨vb,voff,none⟩) m vc] w fun e w'=>
   e=.returned (.slice (some ⟨w.heap.size,0,none⟩) (n+m) (grownCap w (n+m) c 3)) ∧
   w'=w.drew.alloc (.cells ((cs++vs).toArray++Builtin.zeroCells (Value.int .i64 0).cells (grownCap w (n+m) c 3-(n+m))) 3):=by
 obtain ⟨i0,hi0,hz0,hzs,hzb⟩:=info_parts i3
 have mixed:Tryz.prog.follows .mixedOrders=true:=by kernel_rfl
 have hz1:¬((m:Int)=0):=by omega
 have hsrc:Src Tryz.prog i0.size 46 (.slice (some ⟨vb,voff,none⟩) m vc) m vs w:=by
  rw [hzs]
  exact Src.ofSlice w Tryz.underlying46 ⟨vb,voff,none⟩ m vc vs (by omega) (fun j u hj=>by rw [Addr.add_lit];exact hvs j u hj) h1v
 have hold:(Builtin.firstCells i0.size n (.slice base n c)).run Tryz.prog w.drew=.ok cs.toArray w.drew:=by
  rw [hzs]
  cases base with
  | none=>
   have h0:=hnil rfl
   subst h0
   rw [List.length_eq_zero_iff.1 hcl]
   exact run_firstCells_none w.drew 1 0 0 c
  | some a=>exact run_firstCells_some w.drew 1 n a n c cs (by omega) (fun j v hj=>hcs a rfl j v hj)
 have hrun:∀ty,(Builtin.append_ #[219,46] ty #[.slice base n c,.slice (some ⟨vb,voff,none⟩) m vc]).run Tryz.prog w=_:=fun ty=>
  run_append_grow_src w 219 46 ty 3 i0 _ Tryz.underlying219 hi0 hz0 base n c cs hold _ m vs hsrc hroom (by omega) (by rw [hzb];exact growslice_fits hroom hbig)
 go_enter Tryz.func177,Tryz.ntmps177
 cases base with
 | none=>
  have h0:=hnil rfl
  subst h0
  go_wp2_with (at_builtin;refine Lib.wpList_append_run _ rfl _ _ _ _ rfl _ _ rfl rfl _ _ (hrun _) ?_)
  go_ret
  exact ⟨rfl,rfl⟩
 | some a=>
  obtain ⟨ab,ao,asp⟩:=a
  go_wp2_with (at_builtin;refine Lib.wpList_append_run _ rfl _ _ _ _ rfl _ _ rfl rfl _ _ (hrun _) ?_)
  all_goals (go_ret;exact ⟨rfl,rfl⟩)
set_option maxHeartbeats 4000000 in
set_option maxRecDepth 100000 in
theorem Zst (b off n c i vb voff m vc:Nat) (cs vs:List Value) (w:World) (hi:i<n) (hm:0<m) (hnc:n≤c) (hroom:c<n+m) (hbig:(n+m)*8≤140737488355328)
  (hcl:cs.length=n) (hvl:vs.length=m)
  (hcs:∀j v,cs[j]? = some v→w.cell? ⟨b,off+j,none⟩=some v)
  (hvs:∀j v,vs[j]? = some v→w.cell? ⟨vb,voff+j,none⟩=some v) (h1c:∀v∈cs,v.oneCell'=true) (h1v:∀v∈vs,v.oneCell'=true) :
  Calls Tryz.prog 177 #[.slice (some ⟨b,off,none⟩) n c,.int .i64 i,.slice (some ⟨vb,voff,none⟩) m vc] w fun e w'=>
   e=.returned (.slice (some ⟨w.heap.size,0,none⟩) (n+m) (grownCap w (n+m) c 3)) ∧
   w'=(((w.alloc (.cells ((cs.take i).toArray++Builtin.zeroCells (Value.int .i64 0).cells (n+m-i)++Builtin.zeroCells (Value.int .i64 0).cells (grownCap w (n+m) c 3-(n+m))) 3)).drew.setCells w.heap.size i vs).drew).setCells w.heap.size (i+m) (cs.drop i):=by
 obtain ⟨i0,hi0,hz0,hzs,hzb⟩:=info_parts i3
 have mixed:Tryz.prog.follows .mixedOrders=true:=by kernel_rfl
 have hz1:¬((m:Int)=0):=by omega
 have hz2:¬((i:Int)=(n:Int)):=by omega
 have hz3:(c:Int)<(n:Int)+(m:Int):=by omega
 have hsz:(Tryz.prog.info? 3).map (·.size)=some 1:=by rw [hi0];simp [hzs]
 have hbw:b<w.heap.size:=block_lt_of_cell (hcs 0 _ (List.getElem?_eq_getElem (by omega)))
 have hvw:vb<w.heap.size:=block_lt_of_cell (hvs 0 _ (List.getElem?_eq_getElem (by omega)))
 have hkk:(n:Int)+(m:Int)-(i:Int)=((n+m-i:Nat):Int):=by omega
 have hik:i+(n+m-i)=n+m:=by omega
 have hold:(Builtin.firstCells i0.size i (.slice (some ⟨b,off,none⟩) i c)).run Tryz.prog w.drew=.ok (cs.take i).toArray w.drew:=by
  rw [hzs]
  exact run_firstCells_some w.drew 1 i ⟨b,off,none⟩ i c (cs.take i) (by rw [List.length_take];omega) (fun j v hj=>by
   rw [Addr.add_lit]
   rw [List.getElem?_take] at hj
   split at hj
   ·exact hcs j v hj
   ·cases hj)
 have hrz:∀ty,(Builtin.append_ #[219,3] ty #[.slice (some ⟨b,off,none⟩) i c,.int .i64 ((n:Int)+(m:Int)-(i:Int))]).run Tryz.prog w =
   .ok (.slice (some ⟨w.heap.size,0,none⟩) (n+m) (grownCap w (n+m) c 3)) (w.drew.alloc (.cells ((cs.take i).toArray++Builtin.zeroCells (Value.int .i64 0).cells (n+m-i)++Builtin.zeroCells (Value.int .i64 0).cells (grownCap w (n+m) c 3-(n+m))) 3)):=fun ty=>by
  have h:=Lib.run_append_grow_zeros w 219 3 ty 3 i0 _ .i64 .i64 Tryz.underlying219 Tryz.underlying3 hi0 hz0 (some ⟨b,off,none⟩) i c (cs.take i) hold (n+m-i) (by omega) (by omega) (by omega) (by omega) (by rw [hzb];omega) (by rw [hzb,hik];exact growslice_fits hroom hbig)
  rw [hik] at h
  rw [hkk]
  exact h
 obtain ⟨G,hG⟩:∃G,G=grownCap w (n+m) c 3:=⟨_,rfl⟩
 obtain ⟨ROW,hROW⟩:∃ROW:Array Value,ROW=(cs.take i).toArray++Builtin.zeroCells (Value.int .i64 0).cells (n+m-i)++Builtin.zeroCells (Value.int .i64 0).cells (G-(n+m)):=⟨_,rfl⟩
 rw [←hG] at hrz ⊢
 rw [←hROW] at hrz ⊢
 have hRl:n+m≤ROW.size:=by
  rw [hROW]
  simp [Builtin.zeroCells,Value.cells]
  omega
 obtain ⟨W1,hW1⟩:∃W1,W1=w.drew.alloc (.cells ROW 3):=⟨_,rfl⟩
 rw [←hW1] at hrz
 have hN:∀j,j<n+m→(W1.cell? ⟨w.heap.size,j,none⟩).isSome=true:=fun j hj=>by
  rw [hW1,World.cell?_alloc_at (w:=w.drew) ROW _ w.heap.size j rfl,Array.getElem?_eq_getElem (by omega)];rfl
 have hNf:∀j,W1.frozen? ⟨w.heap.size,j,none⟩=false:=fun j=>by rw [hW1];exact World.frozen?_alloc_at (w:=w.drew) ROW _ w.heap.size j rfl
 have hOb:∀j v,w.cell? ⟨b,j,none⟩=some v→W1.cell? ⟨b,j,none⟩=some v:=fun j v h=>by rw [hW1,World.cell?_alloc_past (w:=w.drew) _ b j hbw];exact h
 have hOv:∀j v,w.cell? ⟨vb,j,none⟩=some v→W1.cell? ⟨vb,j,none⟩=some v:=fun j v h=>by rw [hW1,World.cell?_alloc_past (w:=w.drew) _ vb j hvw];exact h
 have hcpA:∀(W:World),(∀x,W.cell? x=W1.cell? x)→(∀x,W.frozen? x=W1.frozen? x)→∀ty dc,(Builtin.copy_ #[219,46] ty #[.slice (some ⟨w.heap.size,i,none⟩) (n+m-i) dc,.slice (some ⟨vb,voff,none⟩) m vc]).run Tryz.prog W=.ok (goInt vs.length) (W.setCells w.heap.size i vs):=fun W hWc hWf ty dc=>
  run_copy_cells W _ _ ty 3 w.heap.size i (n+m-i) dc ⟨vb,voff,none⟩ m vc vs Tryz.underlying219 hsz (by rw [hvl];simp only [Nat.min_def];split<;>omega)
   (fun j v hj=>by rw [Addr.add_lit,hWc];exact hOv _ v (hvs j v hj))
   (fun j hj=>by rw [hWc];exact hN _ (by omega)) (fun j hj=>by rw [hWf];exact hNf _) h1v
 have hGn:n+m≤G:=by rw [hG];exact grownCap_ge w _ _ _
 have hG63:G≤9223372036854775807:=by
  have:=grownCap_le_maxLen w (n+m) c 3 (by unfold maxLen;omega)
  rw [←hG] at this
  unfold maxLen at this
  omega
 have hGi:¬(G=i):=by omega
 have hGim:¬(G=i+m):=by omega
 have hci:¬(c=i):=by omega
 have hbN:b≠w.heap.size:=by omega
 have hdl:(cs.drop i).length=n-i:=by rw [List.length_drop,hcl]
 have hcpB:∀(W:World),(∀x,W.cell? x=(W1.setCells w.heap.size i vs).cell? x)→(∀x,W.frozen? x=(W1.setCells w.heap.size i vs).frozen? x)→∀ty dc sc,(Builtin.copy_ #[219,219] ty #[.slice (some ⟨w.heap.size,i+m,none⟩) (n+m-(i+m)) dc,.slice (some ⟨b,off+i,none⟩) (n-i) sc]).run Tryz.prog W=.ok (goInt (cs.drop i).length) (W.setCells w.heap.size (i+m) (cs.drop i)):=fun W hWc hWf ty dc sc=>
  run_copy_cells W _ _ ty 3 w.heap.size (i+m) (n+m-(i+m)) dc ⟨b,off+i,none⟩ (n-i) sc (cs.drop i) Tryz.underlying219 hsz (by rw [hdl];simp only [Nat.min_def];split<;>omega)
   (fun j v hj=>by
    rw [Addr.add_lit,hWc,World.cell?_setCells_out _ _ _ _ _ (fun h _=>absurd h hbN),Nat.add_assoc]
    exact hOb _ v (hcs (i+j) v (by rwa [List.getElem?_drop] at hj)))
   (fun j hj=>by rw [hWc];exact Z50 _ _ _ _ (fun t ht=>hN _ (by omega)) _ (hN _ (by omega)))
   (fun j hj=>by rw [hWf,World.frozen?_setCells];exact hNf _) (fun v hv=>h1c v (List.mem_of_mem_drop hv))
 subst hW1
 have hE1:∀x,((w.alloc (.cells ROW 3)).drew).cell? x=(w.drew.alloc (.cells ROW 3)).cell? x:=fun x=>rfl
 have hE2:∀x,((w.alloc (.cells ROW 3)).drew).frozen? x=(w.drew.alloc (.cells ROW 3)).frozen? x:=fun x=>rfl
 have hF1:∀x,(((w.alloc (.cells ROW 3)).drew.setCells w.heap.size i vs).drew).cell? x=((w.drew.alloc (.cells ROW 3)).setCells w.heap.size i vs).cell? x:=fun x=>rfl
 have hF2:∀x,(((w.alloc (.cells ROW 3)).drew.setCells w.heap.size i vs).drew).frozen? x=((w.drew.alloc (.cells ROW 3)).setCells w.heap.size i vs).frozen? x:=fun x=>rfl
 have hw1:IntKind.i64.wrap ((i:Int)+(m:Int))=(i:Int)+(m:Int):=by rw [IntKind.wrap_i64];omega
 have hb1:(0:Int)≤(i:Int)+(m:Int):=by omega
 have hin:i≤n:=by omega
 have htn:((i:Int)+(m:Int)).toNat=i+m:=by omega
 have hb3:(i:Int)≤(n:Int):=by omega
 clear hkk hik hold hROW hG hRl
 go_enter Tryz.func177,Tryz.ntmps177
 go_wp2_with (first
  | (at_builtin;refine Lib.wpList_append_run _ rfl _ _ _ _ rfl _ _ rfl rfl _ _ (hrz _) ?_)
  | (at_builtin;refine Zbf _ rfl _ _ 219 46 rfl _ _ rfl rfl (hcpA _ hE1 hE2 _ _) ?_)
  | (at_builtin;refine Zbf _ rfl _ _ 219 219 rfl _ _ rfl rfl (hcpB _ (fun _=>rfl) (fun _=>rfl) _ _ _) ?_))
 go_region_law_o (refine Zke rfl _ _ 219 219 rfl (.slice (some ⟨w.heap.size,i+m,none⟩) (n+m-(i+m)) (G-(i+m))) (.slice (some ⟨b,off+i,none⟩) (n-i) (c-i)) (by simp [Act.eval,Act.put]) (by simp [Act.eval,Act.put]) (hcpB _ hF1 hF2 3 (G-(i+m)) (c-i)) ?_)
 go_wp2
 go_ret
 exact ⟨rfl,rfl⟩
end Go.Proofs
end
namespace Go.Abs
open Go.Proofs
structure Wrote (b:Nat) (w w':World):Prop where
 os:w'.os=w.os
 tape:w'.tape=w.tape
 output:w'.output=w.output
 size:w'.heap.size=w.heap.size
 other:∀c,c≠b->w'.heap[c]? = w.heap[c]?
 row:∀cs e,w.heap[b]? = some (.cells cs e (0,0))->∃cs',w'.heap[b]? = some (.cells cs' e (0,0))/\cs'.size=cs.size
theorem Wrote.refl (b:Nat) (w:World):Wrote b w w:=⟨rfl,rfl,rfl,rfl,fun _ _=>rfl,fun cs _ h=>⟨cs,h,rfl⟩⟩
theorem Wrote.drew {b:Nat} {w w':World} (h:Wrote b w w'):Wrote b w w'.drew:=⟨h.os,h.tape,h.output,h.size,h.other,h.row⟩
theorem Wrote.cell {b:Nat} {w w':World} (h:Wrote b w w') (j:Nat) (v:Value):Wrote b w (w'.setCell ⟨b,j,none⟩ v):=
 ⟨h.os,h.tape,h.output,by simp [World.setCell];exact h.size,fun c hc=>(heap_setCell_other w' ⟨b,j,none⟩ c v hc).trans (h.other c hc),fun cs e hb=>by
  obtain ⟨cs',h1,h2⟩:=h.row cs e hb
  exact ⟨_,heap_setCell_same w' b j cs' e v h1,by simpa using h2⟩⟩
theorem Wrote.cells {b:Nat} {w:World}:∀(vs:List Value) (o:Nat) (w':World),Wrote b w w'->Wrote b w (w'.setCells b o vs)
 | [],_,_,h=>h
 | v::r,o,w',h=>Wrote.cells r (o+1) _ (h.cell o v)
theorem Z9v {w:World} {G:Zs}:∀ys:List Int,RCs w G (Z6 ys) (ys.map (fun z=>Value.int .i64 z))
 | []=>.nil
 | _::r=>.cons .val (Z9v r)
theorem Zgc {w:World} {G:Zs}:∀{ys:List Int} {vs:List Value},RCs w G (Z6 ys) vs->vs=ys.map (fun z=>Value.int .i64 z)
 | [],_,.nil=>rfl
 | _::r,_,.cons h t=>by rw [XW,<-Zgc (ys:=r) t,h.val_inv]
theorem Zkp {cs:Array Value} {ys:List Int} (h:∀(j:Nat) z,ys[j]? = some z->cs[j]? = some (Value.int .i64 z)):cs.toList.take ys.length=ys.map (fun z=>Value.int .i64 z):=by
 apply List.ext_getElem?
 intro j
 rw [Uo]
 split
 ·rename_i hj
  have hx:=UX hj
  have:=h j _ hx
  rw [Z1i,this,VC,hx]
  rfl
 ·rename_i hj
  simp [Z3e (Nat.le_of_not_lt hj)]
theorem Zit {w w':World} {G:Zs} {g len cap len':Nat} {ls:List AV} {ys:List Int} {r:List Res} (hh:HOk w G (.row (.slice (some ⟨g,0,none⟩) len cap) 1 ls::r)) (hw:Wrote g w w') (hlen:ys.length=len') (hle:len'<=cap)
  (hc:∀(j:Nat) z,ys[j]? = some z->w'.cell? ⟨g,j,none⟩=some (Value.int .i64 z)) :
  HOk w' G [.row (.slice (some ⟨g,0,none⟩) len' cap) 1 (Z6 ys)]/\Ext w G (.row (.slice (some ⟨g,0,none⟩) len cap) 1 ls::r) w' G [.row (.slice (some ⟨g,0,none⟩) len' cap) 1 (Z6 ys)]:=by
 have hmem:Res.row (.slice (some ⟨g,0,none⟩) len cap) 1 ls∈Res.row (.slice (some ⟨g,0,none⟩) len cap) 1 ls::r:=Yd ..
 rcases hh.ok _ hmem with ⟨e,_⟩|⟨g',len2,cap2,cur,el,e,h1,h2,h3,h4,h5⟩
 ·cases e
 ·cases e
  obtain ⟨cs',k1,k2⟩:=hw.row cur el h1
  have hcell:∀j,w'.cell? ⟨g,j,none⟩=cs'[j]?:=fun j=>cell_of_row w' g j cs' el (0,0) k1
  refine ⟨⟨fun q hq=>?_,Qz _ _,fun q hq c j hf hg=>?_,fun c j hg=>?_⟩,
   ⟨hw.os,hw.tape,hw.output,by rw [hw.size];exact Yp _,fun _ _ h=>h,fun c _=>?_,fun _ _ _ h=>.inl h,fun c j _ ⟨q,hq,hf⟩=>?_⟩⟩
  ·rw [ZW.1 hq]
   refine .inr ⟨g,len',cap,cs',el,rfl,k1,hle,k2.trans h3,by simp [hlen],?_⟩
   rw [VS,<-hlen,Zkp fun j z hz=>by rw [<-hcell];exact hc j z hz]
   exact Z9v ys
  ·rw [ZW.1 hq] at hf
   exact hh.prot _ hmem c j hf hg
  ·rw [hw.size];exact hh.lt c j hg
  ·by_cases hcg:c=g
   ·subst hcg
    exact .inr ⟨cur,cs',el,(0,0),h1,k1,k2,fun o hn=>absurd ⟨_,hmem,rfl⟩ hn⟩
   ·exact .inl (hw.other c hcg)
  ·rw [ZW.1 hq] at hf
   exact ⟨_,hmem,hf⟩
theorem Zis {w w':World} {G:Zs} {cap len':Nat} {h:List Res} {ys:List Int} {cs':Array Value} {el:TypeId} (hh:HOk w G h) (os:w'.os=w.os) (tape:w'.tape=w.tape) (output:w'.output=w.output)
  (hsz:w'.heap.size=w.heap.size+1) (hoth:∀c,c<w.heap.size->w'.heap[c]? = w.heap[c]?) (hb:w'.heap[w.heap.size]? = some (.cells cs' el (0,0))) (hcap:cs'.size=cap) (hlen:ys.length=len') (hle:len'<=cap)
  (hc:∀(j:Nat) z,ys[j]? = some z->w'.cell? ⟨w.heap.size,j,none⟩=some (Value.int .i64 z)) :
  HOk w' G [.row (.slice (some ⟨w.heap.size,0,none⟩) len' cap) 1 (Z6 ys)]/\Ext w G h w' G [.row (.slice (some ⟨w.heap.size,0,none⟩) len' cap) 1 (Z6 ys)]:=by
 have hcell:∀j,w'.cell? ⟨w.heap.size,j,none⟩=cs'[j]?:=fun j=>cell_of_row w' _ j cs' el (0,0) hb
 refine ⟨⟨fun q hq=>?_,Qz _ _,fun q hq c j hf hg=>?_,fun c j hg=>?_⟩,
  ⟨os,tape,output,by omega,fun _ _ h=>h,fun c hcl=>.inl (hoth c hcl),fun _ _ _ h=>.inl h,fun c j hcl ⟨q,hq,hf⟩=>?_⟩⟩
 ·rw [ZW.1 hq]
  refine .inr ⟨_,len',cap,cs',el,rfl,hb,hle,by rw [hcap,VS],by simp [hlen],?_⟩
  rw [VS,<-hlen,Zkp fun j z hz=>by rw [<-hcell];exact hc j z hz]
  exact Z9v ys
 ·rw [ZW.1 hq] at hf
  have:c=w.heap.size:=hf
  have:=hh.lt c j hg
  omega
 ·have:=hh.lt c j hg;omega
 ·rw [ZW.1 hq] at hf
  have:c=w.heap.size:=hf
  omega
def VP (xs:List Int) (p:Nat) (v:Int):List Int:=xs.take p++v::xs.drop p
theorem Z0v (xs:List Int) (p:Nat) (v:Int) (hp:p<=xs.length):(VP xs p v).length=xs.length+1:=by simp [VP];omega
theorem Zsq {xs:List Int} {p j:Nat} {v:Int} (h:j<p) (hp:p<=xs.length):(VP xs p v)[j]? = xs[j]?:=by
 rw [VP,Jr (by simp;omega),Uo,Z8 h]
theorem Zso {xs:List Int} {p:Nat} {v:Int} (hp:p<=xs.length):(VP xs p v)[p]? = some v:=by
 rw [VP,Z1m (by simp;omega),TL,Qi hp,Nat.sub_self];rfl
theorem Zsp {xs:List Int} {p j:Nat} {v:Int} (hp:p<=xs.length):(VP xs p v)[p+1+j]? = xs[p+j]?:=by
 rw [VP,Z1m (by simp;omega),TL,Qi hp,show p+1+j-p=j+1 by omega,List.getElem?_cons_succ,Z1n]
theorem Z8v {xs:List Int} {p j:Nat} {v z:Int} (hp:p<=xs.length) (h:(VP xs p v)[j]? = some z):(j<p/\xs[j]? = some z)∨(j=p/\z=v)∨∃i,j=p+1+i/\xs[p+i]? = some z:=by
 rcases Nat.lt_trichotomy j p with hj|hj|hj
 ·rw [Zsq hj hp] at h;exact .inl ⟨hj,h⟩
 ·subst hj;rw [Zso hp] at h;exact .inr (.inl ⟨rfl,(U6 h).symm⟩)
 ·obtain ⟨i,rfl⟩:∃i,j=p+1+i:=⟨j-(p+1),by omega⟩
  rw [Zsp hp] at h;exact .inr (.inr ⟨i,rfl,h⟩)
theorem Y0t {xs:List Int} {j:Nat} {u:Value} (h:(xs.map (fun z=>Value.int .i64 z))[j]? = some u):∃z,xs[j]? = some z/\u=.int .i64 z:=by
 rw [VC] at h
 cases hx:xs[j]? with
 | none=>rw [hx] at h;cases h
 | some z=>rw [hx] at h;exact ⟨z,rfl,(U6 h).symm⟩
theorem Z8d:∀xs:List Int,Z9 (Z6 xs)=Z6 xs
 | []=>rfl
 | x::r=>Y1 (AV.i x::·) (Z8d r)
theorem Z4y {w w':World} {G:Zs} {h:List Res} {u:Value} {ys:List Int} (h1:HOk w' G [.row u 1 (Z6 ys)]) (h2:Ext w G h w' G [.row u 1 (Z6 ys)]) :
  ∃G',RV w' G' (Zb ys u) u/\HOk w' G' [.tail u 1]/\Ext w G h w' G' [.tail u 1]:=by
 have hf:Z9 (Z6 ys)=Z6 ys:=Z8d ys
 rw [<-hf] at h1 h2
 obtain ⟨G',a,b,c⟩:=Z5k h1 (YS ys) om
 exact ⟨G',c,a,h2.trans b⟩
theorem Zm4 (w:World) (o:Obj):(w.drew.alloc o).heap.size=w.heap.size+1:=Array.size_push ..
theorem Zga {w:World} {G:Zs} {h:List Res} {ys:List Int} {len' K:Nat} (hh:HOk w G h) (cs':Array Value) (hsz:cs'.size=K) (hlen:ys.length=len') (hle:len'<=K)
  (hc:∀(j:Nat) z,ys[j]? = some z->cs'[j]? = some (Value.int .i64 z)) :
  ∃G',RV (w.drew.alloc (.cells cs' 3)) G' (Zb ys (.slice (some ⟨w.heap.size,0,none⟩) len' K)) (.slice (some ⟨w.heap.size,0,none⟩) len' K)/\HOk (w.drew.alloc (.cells cs' 3)) G' [.tail (.slice (some ⟨w.heap.size,0,none⟩) len' K) 1] /\
   Ext w G h (w.drew.alloc (.cells cs' 3)) G' [.tail (.slice (some ⟨w.heap.size,0,none⟩) len' K) 1]:=by
 have hN:(w.drew.alloc (.cells cs' 3)).heap[w.heap.size]? = some (.cells cs' 3 (0,0)):=Z0u w.drew _
 obtain ⟨k1,k2⟩:=Zis (w':=w.drew.alloc (.cells cs' 3)) hh rfl rfl rfl (Zm4 w _) (fun c hc=>QQ w.drew _ hc) hN hsz hlen hle (fun j z hz=>by
  rw [cell_of_row _ _ j _ 3 (0,0) hN];exact hc j z hz)
 exact Z4y k1 k2
theorem Zsu (g hv:Hd) (xs:List Int) (p:Nat) (v:Int) (hp:p<=xs.length) (hl:xs.length<=1000000000):Zd Tryz.prog 177 [.h g,.i p,Zb [v] hv.v] [.row g.v 1 (Z6 xs),.tail hv.v 1] (fun r h=>∃u:Value,r=Zb (VP xs p v) u/\h=[.tail u 1]):=by
 intro w G vs ha hh
 obtain ⟨gv,rfl,pv,rfl,sv,rfl,ra⟩:∃gv,gv=g.v/\∃pv,pv=Value.int .i64 p/\∃sv,sv=hv.v/\vs=[gv,pv,sv]/\RV w G (Zb [v] hv.v) sv:=by
  cases ha with
  | cons h1 t=>cases t with
   | cons h2 t=>cases t with
    | cons h3 t=>
     cases t
     exact ⟨_,h1.val_inv,_,h2.val_inv,_,h3.header,rfl,h3⟩
 obtain ⟨rfl,hsl⟩:=ra
 have hpw:=XX.1 hh.apart
 have hmr:Res.row g.v 1 (Z6 xs)∈[Res.row g.v 1 (Z6 xs),.tail hv.v 1]:=Yd ..
 have hmt:Res.tail hv.v 1∈[Res.row g.v 1 (Z6 xs),.tail hv.v 1]:=Yy _ (ZW.2 rfl)
 obtain ⟨hxa,hlx,hcx⟩:=hv
 obtain ⟨vb,vcur,vel,e1,hv1,hv2,hvd⟩:∃vb vcur vel,Hd.v ⟨hxa,hlx,hcx⟩=.slice (some ⟨vb,0,none⟩) 1 hcx/\w.heap[vb]? = some (.cells vcur vel (0,0))/\vcur[0]? = some (Value.int .i64 v)/\∀gb len cap,g.v=.slice (some ⟨gb,0,none⟩) len cap->vb≠gb:=by
  cases hsl with
  | sl hq hc hm=>
   rename_i b o k
   rcases hh.ok _ hmt with e|⟨g2,len,cap,cur,el,e,t1,t2,t3⟩
   ·cases e
   ·cases e
    refine ⟨b,cur,el,rfl,t1,?_,fun gb len cap he hb=>?_⟩
    ·cases hm with
     | cons hlk hm2 _=>cases hm2 with
      | cons hcell _ hrv _=>
       have:=hrv.val_inv
       subst this
       rw [<-cell_of_row w b 0 cur el (0,0) t1]
       exact hcell
    ·refine hpw.1 _ (ZW.2 rfl) b 1 ?_ ⟨rfl,by simp⟩
     rw [he]
     exact hb
 have hvs:∀(j:Nat) u,[Value.int .i64 v][j]? = some u->w.cell? ⟨vb,0+j,none⟩=some u:=by
  intro j u hj
  cases j with
  | zero=>simp only [List.getElem?_cons_zero] at hj;rw [cell_of_row w vb _ vcur vel (0,0) hv1];exact hv2.trans hj
  | succ j=>simp at hj
 have h1v:∀u∈[Value.int .i64 v],u.oneCell'=true:=fun u hu=>by rw [ZW.1 hu];rfl
 have hgc:∀w2 j,grownCap w2 (xs.length+1) j 3>=xs.length+1:=fun w2 j=>grownCap_ge w2 _ _ _
 have hh2:=hh
 rw [e1] at hh2 ⊢
 rcases hh.ok _ hmr with ⟨e,h0⟩|⟨gb,len,cap,cur,el,e,h1,h2,h3,h4,h5⟩
 ·
  have hx0:xs=[]:=by cases xs with|nil=>rfl|cons _ _=>simp [Z6] at h0
  subst hx0
  have hp0:p=0:=by simpa using hp
  subst hp0
  rw [e]
  have hg:∀w2 j,grownCap w2 (0+1) j 3>=0+1:=fun w2 j=>grownCap_ge w2 _ _ _
  refine (Zg9 none 0 0 vb 0 1 hcx [] [.int .i64 v] w om om om om rfl rfl (fun _=>rfl) (fun a ha=>by cases ha) hvs h1v).mono ?_
  rintro e w' ⟨rfl,rfl⟩
  have hg0:=hg w 0
  revert hg0
  generalize grownCap w (0+1) 0 3=K
  intro hg0
  rw [e] at hh2
  obtain ⟨G',r1,r2,r3⟩:=Zga (ys:=[v]) hh2 (([]++[Value.int .i64 v]).toArray++Builtin.zeroCells (Value.int .i64 0).cells (K-(0+1))) (by simp [Builtin.zeroCells,Value.cells];omega) rfl hg0 (fun j z hz=>by
    cases j with
    | zero=>simp only [List.getElem?_cons_zero] at hz;cases hz;rw [Z6a (by simp)];rfl
    | succ j=>simp at hz)
  exact ⟨_,_,_,G',rfl,⟨_,rfl,rfl⟩,r1,r2,r3⟩
 ·have hlx2:len=xs.length:=by rw [ZD] at h4;omega
  subst hlx2
  rw [VS] at h3 h5
  have hcur:cur.toList.take xs.length=xs.map (fun z=>Value.int .i64 z):=Zgc h5
  have hcell:∀j z,xs[j]? = some z->w.cell? ⟨gb,j,none⟩=some (Value.int .i64 z):=by
   intro j z hz
   rw [cell_of_row w gb j cur el (0,0) h1]
   have hj:j<xs.length:=(Yg.1 hz).1
   have h6:(cur.toList.take xs.length)[j]? = some (Value.int .i64 z):=by rw [hcur,VC,hz];rfl
   rw [Uo,Z8 hj,Z1i] at h6
   exact h6
  have hcs:∀(j:Nat) u,(xs.map (fun z=>Value.int .i64 z))[j]? = some u->w.cell? ⟨gb,0+j,none⟩=some u:=by
   intro j u hj
   obtain ⟨z,hz,rfl⟩:=Y0t hj
   rw [XQ]
   exact hcell j z hz
  have h1c:∀u∈xs.map (fun z=>Value.int .i64 z),u.oneCell'=true:=fun u hu=>by obtain ⟨z,_,rfl⟩:=YJ.1 hu;rfl
  have hne:=hvd gb xs.length cap e
  have hsome:∀j,j<cap->(w.cell? ⟨gb,j,none⟩).isSome=true:=fun j hj=>by rw [cell_of_row w gb j cur el (0,0) h1,Array.getElem?_eq_getElem om];rfl
  have hfz:∀j,w.frozen? ⟨gb,j,none⟩=false:=fun j=>frozen_of_row w gb j cur el h1
  rw [e] at hh2 ⊢
  by_cases hroom:xs.length+1<=cap
  ·have hc63:xs.length+1<=9223372036854775807:=by omega
   by_cases hpn:p=xs.length
   ·subst hpn
    refine (Zss gb 0 xs.length cap vb 0 1 hcx [.int .i64 v] w om hroom hc63 rfl (fun j hj=>hsome _ om) (fun j _=>hfz _) hvs h1v).mono ?_
    rintro e w' ⟨rfl,rfl⟩
    have hin:=World.cell?_setCells_in gb [.int .i64 v] (0+xs.length) w (fun j hj=>hsome _ (by simp at hj;omega))
    obtain ⟨k1,k2⟩:=Zit (ys:=VP xs xs.length v) hh2 ((Wrote.refl gb w).cells _ _ _) (Z0v xs _ v (Yp _)) hroom (fun j z hz=>by
     rcases Z8v (Yp _) hz with ⟨h,h'⟩|⟨rfl,rfl⟩|⟨i,rfl,h'⟩
     ·rw [World.cell?_setCells_out gb _ _ _ _ fun _ _=>.inl (by show j<0+xs.length;omega)];exact hcell j z h'
     ·have:=hin 0 (by simp);simpa using this
     ·have:=(Yg.1 h').1;omega)
    obtain ⟨G',r1,r2,r3⟩:=Z4y k1 k2
    exact ⟨_,_,_,G',rfl,⟨_,rfl,rfl⟩,r1,r2,r3⟩
   ·have hpl:p<xs.length:=by omega
    refine (Zsw gb 0 xs.length cap p vb 0 1 hcx (xs.map (fun z=>Value.int .i64 z)) [.int .i64 v] w hpl om hroom hc63 hne (by simp) rfl hcs (fun j hj=>hsome _ om) (fun j _=>hfz _) hvs h1c h1v vel el vcur.size cur.size
     (by simp [World.shape?,hv1]) (by simp [World.shape?,h1]) om (frozen_of_row w vb _ vcur vel hv1) (frozen_of_row w vb _ vcur vel hv1)).mono ?_
    rintro e w' ⟨rfl,rfl⟩
    have hW:=(Wrote.refl gb w).drew.cells ((xs.map (fun z=>Value.int .i64 z)).drop p) (0+(p+1)) _
    have hin1:=World.cell?_setCells_in gb ((xs.map (fun z=>Value.int .i64 z)).drop p) (0+(p+1)) w.drew (fun j hj=>by simp at hj;exact hsome _ om)
    have hs2:∀j,j<cap->((w.drew.setCells gb (0+(p+1)) ((xs.map (fun z=>Value.int .i64 z)).drop p)).cell? ⟨gb,j,none⟩).isSome=true:=fun j hj=>Z50 gb _ _ _ (fun i hi=>by simp at hi;exact hsome _ om) j (hsome j hj)
    have hin2:=World.cell?_setCells_in gb [.int .i64 v] (0+p) _ (fun j hj=>hs2 _ (by simp at hj;omega))
    obtain ⟨k1,k2⟩:=Zit (ys:=VP xs p v) hh2 (hW.cells [.int .i64 v] (0+p) _) (Z0v xs _ v hp) hroom (fun j z hz=>by
     rcases Z8v hp hz with ⟨h,h'⟩|⟨rfl,rfl⟩|⟨i,rfl,h'⟩
     ·rw [World.cell?_setCells_out gb _ _ _ _ fun _ _=>.inl (by show j<0+p;omega),World.cell?_setCells_out gb _ _ _ _ fun _ _=>.inl (by show j<0+(p+1);omega)];exact hcell j z h'
     ·have:=hin2 0 (by simp);simpa using this
     ·have hi:=(Yg.1 h').1
      rw [World.cell?_setCells_out gb _ _ _ _ fun _ _=>.inr (by show 0+p+1<=p+1+i;omega)]
      have h7:=hin1 i (by simp;omega)
      rw [show 0+(p+1)+i=p+1+i by omega] at h7
      rw [h7]
      have h8:((xs.map (fun z=>Value.int .i64 z)).drop p)[i]? = some (Value.int .i64 z):=by rw [Z1n,VC,h'];rfl
      rw [<-h8]
      exact (UX _).symm)
    obtain ⟨G',r1,r2,r3⟩:=Z4y k1 k2
    exact ⟨_,_,_,G',rfl,⟨_,rfl,rfl⟩,r1,r2,r3⟩
  ·by_cases hpn:p=xs.length
   ·subst hpn
    refine (Zg9 (some ⟨gb,0,none⟩) xs.length cap vb 0 1 hcx (xs.map (fun z=>Value.int .i64 z)) [.int .i64 v] w om h2 om om (by simp) rfl (fun h=>by cases h) (fun a ha j u hj=>by cases ha;rw [Addr.add_lit];exact hcs j u hj) hvs h1v).mono ?_
    rintro e w' ⟨rfl,rfl⟩
    have hg0:=hgc w cap
    revert hg0
    generalize grownCap w (xs.length+1) cap 3=K
    intro hg0
    obtain ⟨G',r1,r2,r3⟩:=Zga (ys:=VP xs xs.length v) hh2 ((xs.map (fun z=>Value.int .i64 z)++[Value.int .i64 v]).toArray++Builtin.zeroCells (Value.int .i64 0).cells (K-(xs.length+1))) (by simp [Builtin.zeroCells,Value.cells];omega) (Z0v xs _ v (Yp _)) hg0 (fun j z hz=>by
      rw [Z6a (by have:=(Yg.1 hz).1;rw [Z0v xs _ v (Yp _)] at this;simp;omega)]
      have h9:VP xs xs.length v=xs++[v]:=by simp [VP]
      rw [h9] at hz
      rw [List.getElem?_toArray,show xs.map (fun z=>Value.int .i64 z)++[Value.int .i64 v]=(xs++[v]).map (fun z=>Value.int .i64 z) by simp,VC,hz]
      rfl)
    exact ⟨_,_,_,G',rfl,⟨_,rfl,rfl⟩,r1,r2,r3⟩
   ·have hpl:p<xs.length:=by omega
    refine (Zst gb 0 xs.length cap p vb 0 1 hcx (xs.map (fun z=>Value.int .i64 z)) [.int .i64 v] w hpl om h2 om om (by simp) rfl hcs hvs h1c h1v).mono ?_
    rintro e w' ⟨rfl,rfl⟩
    have hg0:=hgc w cap
    revert hg0
    generalize grownCap w (xs.length+1) cap 3=K
    intro hg0
    generalize hA:((xs.map (fun z=>Value.int .i64 z)).take p).toArray++Builtin.zeroCells (Value.int .i64 0).cells (xs.length+1-p)++Builtin.zeroCells (Value.int .i64 0).cells (K-(xs.length+1))=A
    have hAs:A.size=K:=by subst hA;simp [Builtin.zeroCells,Value.cells];omega
    have hAg:∀(j:Nat) z,j<p->xs[j]? = some z->A[j]? = some (Value.int .i64 z):=by
     intro j z hj hz
     subst hA
     rw [Z6a (by simp [Builtin.zeroCells,Value.cells];omega),Z6a (by simp;omega),List.getElem?_toArray,Uo,Z8 hj,VC,hz]
     rfl
    have hN0:(w.alloc (.cells A 3)).heap[w.heap.size]? = some (.cells A 3 (0,0)):=Z0u w _
    have hc0:∀j,(w.alloc (.cells A 3)).cell? ⟨w.heap.size,j,none⟩=A[j]?:=fun j=>cell_of_row _ _ j A 3 (0,0) hN0
    have hsm:∀j,j<K->((w.alloc (.cells A 3)).cell? ⟨w.heap.size,j,none⟩).isSome=true:=fun j hj=>by rw [hc0,Array.getElem?_eq_getElem om];rfl
    have hW:=((Wrote.refl w.heap.size (w.alloc (.cells A 3))).drew.cells [.int .i64 v] p _).drew.cells ((xs.map (fun z=>Value.int .i64 z)).drop p) (p+1) _
    have hin1:=World.cell?_setCells_in w.heap.size [.int .i64 v] p (w.alloc (.cells A 3)).drew (fun j hj=>hsm _ (by simp at hj;omega))
    have hs2:∀j,j<K->(((w.alloc (.cells A 3)).drew.setCells w.heap.size p [.int .i64 v]).drew.cell? ⟨w.heap.size,j,none⟩).isSome=true:=fun j hj=>Z50 w.heap.size _ _ _ (fun i hi=>by simp at hi;exact hsm _ om) j (hsm j hj)
    have hin2:=World.cell?_setCells_in w.heap.size ((xs.map (fun z=>Value.int .i64 z)).drop p) (p+1) _ (fun j hj=>hs2 _ (by simp at hj;omega))
    obtain ⟨cs',q1,q2⟩:=hW.row A 3 hN0
    obtain ⟨k1,k2⟩:=Zis (cap:=K) (len':=xs.length+1) (ys:=VP xs p v) hh2 hW.os hW.tape hW.output (hW.size.trans (Array.size_push ..)) (fun c hc=>(hW.other c om).trans (QQ w _ hc)) q1 (q2.trans hAs) (Z0v xs p v hp) hg0 (fun j z hz=>by
     rcases Z8v hp hz with ⟨h,h'⟩|⟨rfl,rfl⟩|⟨i,rfl,h'⟩
     ·rw [World.cell?_setCells_out w.heap.size _ _ _ _ fun _ _=>.inl (by show j<p+1;omega)]
      show ((w.alloc (.cells A 3)).drew.setCells w.heap.size p [.int .i64 v]).cell? _=_
      rw [World.cell?_setCells_out w.heap.size _ _ _ _ fun _ _=>.inl (by show j<p;omega)]
      exact (hc0 j).trans (hAg j z h h')
     ·rw [World.cell?_setCells_out w.heap.size _ _ _ _ fun _ _=>.inl (by show j<j+1;omega)]
      have:=hin1 0 (by simp)
      simpa using this
     ·have hi:=(Yg.1 h').1
      have h7:=hin2 i (by simp;omega)
      rw [h7]
      have h8:((xs.map (fun z=>Value.int .i64 z)).drop p)[i]? = some (Value.int .i64 z):=by rw [Z1n,VC,h'];rfl
      rw [<-h8]
      exact (UX _).symm)
    obtain ⟨G',r1,r2,r3⟩:=Z4y k1 k2
    exact ⟨_,_,_,G',rfl,⟨_,rfl,rfl⟩,r1,r2,r3⟩
end Go.Abs
section
namespace Go.Abs
section
variable {P:Program} {n:Nat} {ops:Array Oper} {B:Fr->List Res->Prop} {k:Nat} {F:Fr} {h:List Res}
def Z44 (P:Program) (ops:Array Oper) (F:Fr) (k:Nat):Option (IntKind × Int):=
 match (Zk ops k).op with
 | .convert s d x=>match P.underlying s,P.underlying d,F.ev x with
  | some (.int _),some (.int q),.val (.int _ z)=>some (q,z)
  | _,_,_=>none
 | _=>none
theorem Zge (q:IntKind) (z z':Int) (e:q.wrap z=z') (hc:Z44 P ops F k=some (q,z):=by kernel_rfl):Yz P (Zk ops k) F h [] (.val (.int q z')):=by
 unfold Z44 at hc
 generalize hoo:Zk ops k=o at hc
 obtain ⟨dst,op,type,pos,after,guard⟩:=o
 cases op<;>simp only at hc<;>try (cases hc)
 rename_i s d x
 split at hc
 ·rename_i q1 q2 q3 z2 h1 h2 h3
  cases hc
  intro n w G ac hF hh
  have v1:=hF.ev x
  rw [h3] at v1
  have v1:=v1.val_inv
  refine ⟨_,.val,fun w' _ _=>?_⟩
  simp only [execOp,v1]
  refine Wr ?_
  simp [convert,Wz h1,Wz h2,Conv.intToInt,e]
 ·cases hc
def Zjf (ops:Array Oper) (F:Fr) (k:Nat):Option Int:=
 match (Zk ops k).op with
 | .binOp .shr _ x y _=>match F.ev x,F.ev y with
  | .val (.int .u64 z),.val (.int _ 1)=>some z
  | _,_=>none
 | _=>none
theorem Zt1 (n:Nat) (hc:Zjf ops F k=some (n:Int):=by kernel_rfl):Yz P (Zk ops k) F h [] (.val (.int .u64 ((n / 2:Nat):Int))):=by
 unfold Zjf at hc
 generalize hoo:Zk ops k=o at hc
 obtain ⟨dst,op,type,pos,after,guard⟩:=o
 cases op<;>simp only at hc<;>try (cases hc)
 rename_i bop t x y yt
 cases bop<;>simp only at hc<;>try (cases hc)
 split at hc
 ·rename_i z yk h1 h2
  cases hc
  intro n' w G ac hF hh
  have v1:=hF.ev x
  have v2:=hF.ev y
  rw [h1] at v1
  rw [h2] at v2
  have v1:=v1.val_inv
  have v2:=v2.val_inv
  refine ⟨_,.val,fun w' _ _=>?_⟩
  simp only [execOp,v1,v2]
  refine Wr ?_
  have e:(n:Int).fdiv 2=((n / 2:Nat):Int):=by rw [Int.fdiv_eq_ediv_of_nonneg _ om];omega
  simp [eqGuard,binOp,Op.shift,IntKind.bits,e]
 ·cases hc
theorem Zt3 (n:Nat) (hn:n<=9223372036854775807) (hc:Z44 P ops F k=some (.u64,(n:Int)):=by kernel_rfl):Yz P (Zk ops k) F h [] (.val (.int .u64 (n:Int))):=
 Zge .u64 _ _ (by simp [IntKind.wrap,IntKind.signed,IntKind.bits];omega) hc
theorem Zt2 (n:Nat) (hn:n<=9223372036854775807) (hc:Z44 P ops F k=some (.i64,(n:Int)):=by kernel_rfl):Yz P (Zk ops k) F h [] (.i n):=
 Zge .i64 _ _ (IntWalk.i64_in _ om) hc
end
open Go.Proofs in
theorem Zsv (g:Hd) (u:Value) (xs:List Int) (p:Nat) (v:Int) (hp:p<=xs.length) (hl:xs.length<=1000000000):Zd Tryz.prog 177 [.h g,.i p,Zb [v] u] [.row g.v 1 (Z9 (Z6 xs)),.tail u 1] (fun r h=>∃w:Value,r=Zb (VP xs p v) w/\h=[.tail w 1]):=by
 intro w G vs ha hh
 rw [Z8d] at hh ⊢
 have hu:∃hv:Hd,u=hv.v:=by
  rcases hh.ok (.tail u 1) (by simp) with rfl|⟨g,len,cap,cur,e,rfl,_⟩
  ·exact ⟨⟨none,0,0⟩,rfl⟩
  ·exact ⟨⟨_,len,cap⟩,rfl⟩
 obtain ⟨hv,rfl⟩:=hu
 exact Zsu g hv xs p v hp hl w G vs ha hh
theorem Zsr {xs:List Int} {p:Nat} {v:Int}:∀x,x∈VP xs p v↔x∈xs∨x=v:=by
 intro x
 have h:=Z3m p xs
 constructor
 ·intro hx
  rcases ZG.1 hx with hx|hx
  ·exact .inl (Z3j hx)
  ·rcases ZM.1 hx with rfl|hx
   ·exact .inr rfl
   ·exact .inl (List.mem_of_mem_drop hx)
 ·rintro (hx|rfl)
  ·rw [<-h] at hx
   rcases ZG.1 hx with hx|hx
   ·exact ZG.2 (.inl hx)
   ·exact ZG.2 (.inr (Yy _ hx))
  ·exact ZG.2 (.inr (Yd ..))
end Go.Abs
end
namespace Go.Abs
open Go.Proofs
theorem Znj (x:Int) :Zd Tryz.prog 183 [.i x] [] (fun r h=>r=.b false/\h=[]):=by
 refine enter Tryz.func183 kr (n:=6) kr kr (ar (ir 1 [(0,.i x)] (ie (ar (ir 4 [(2,.b (x != x))] (ie ?_))))))
 exact Z5 (r2 [] [.b (x != x)] ⟨rfl,rfl⟩ (lb (by simp)))
theorem Zxx (x:Int) :Zd Tryz.prog 180 [.i x] [] (fun r h=>r=.b false/\h=[]):=by
 refine enter Tryz.func180 kr (n:=6) kr kr (ar (ir 1 [(0,.i x)] (ie (ar (ir 4 [(2,.b (x != x))] (ie ?_))))))
 exact Z5 (r2 [] [.b (x != x)] ⟨rfl,rfl⟩ (lb (by simp)))
theorem Zni (x:Int) (y:Int) :Zd Tryz.prog 179 [.i x,.i y] [] (fun r h=>r=.b (decide (x<y))/\h=[]):=by
 refine enter Tryz.func179 kr (n:=17) kr kr (ar (ir 1 [(0,.i x),(1,.i y)] (ie (ar (Z0 1 (.n 5 (.i x) .r) (ic [] (Znj x) ?_))))))
 rintro _ _ ⟨rfl,rfl⟩
 refine ir 11 [(4,.b (decide (x<y)))] (ie ?_)
 exact Z5 (r1 [] ⟨rfl,rfl⟩)
theorem Zmy (xs:List Int) (v:Int) (hl:xs.length<=1000000000:=by exact ob):Zd Tryz.prog 176 [Z1 xs,.i v] [] (fun r h=>∃(q:Nat) (f:Bool),r=.tup [.i q,.b f]/\h=[]/\(q<=xs.length/\(f=true->v∈xs))):=by
 refine enter Tryz.func176 kr (n:=54) kr kr (ar (ir 2 [(0,Z1 xs),(1,.i v)] (ie (ar (Z0 1 (.n 10 (Z1 xs) .r) (iw (ZD xs) (Z0 1 (.n 6 (.i xs.length) .r) (ie (ar (Z0 3 (.n 7 (.i 0) (.n 8 (.i xs.length) .r)) (ie (aq (ab 0 (al (fun m F h=>∃(lo:Nat) (hi:Nat),(lo<=hi)/\(hi<=xs.length)/\F=[(0,Z1 xs),(1,.i v),(6,.i xs.length),(7,.i lo),(8,.i hi)]/\h=[]/\m=hi-lo) _ _ _ ⟨0,xs.length,ob,ob,rfl,rfl,rfl⟩ (wk [] (fw (fr (fc (x:=.i 0) li fl)))) ?_))))))))))))))
 rintro m F h ⟨lo,hi,c0_0,c0_1,rfl,rfl,rfl⟩
 refine aq (ar (Z0 3 (.n 15 (.b (decide ((lo:Int)<(hi:Int)))) .r) (ie (ac (decide ((lo:Int)<(hi:Int))) dq (fun hc1=>?_) (fun hc1=>?_)))))
 ·refine ak (ab 1 (ar (Z0 2 (.n 16 (.i lo) (.n 17 (.i hi) .r)) (ia (((lo+hi:Nat):Int)) (((lo:Int))+((hi:Int))) (Zf (Zt3 (lo+hi) om) (Zf (Zt1 (lo+hi)) (Zf (Zt2 ((lo+hi) / 2) om) (Z0 1 (.n 9 (.i (((lo+hi) / 2:Nat):Int)) .r) (ie (ar (Z0 2 (.n 22 (Z1 xs) (.n 23 (.i (((lo+hi) / 2:Nat):Int)) .r)) ?_)))))))))))
  obtain ⟨x1,hx1⟩:=Zl (xs:=xs) (j:=(lo+hi) / 2) om
  refine Zf (Zj (es:=Z6 xs) (hv:=none) (j:=(((lo+hi) / 2:Nat):Int)) (sz:=1) (y:=.i x1) kr om (ZH hx1) rfl) (Z0 2 (.n 25 (.i x1) (.n 26 (.i v) .r)) (ic [] (Zni x1 v) ?_))
  rintro _ _ ⟨rfl,rfl⟩
  refine ie (ac (decide (x1<v)) dq (fun hc2=>?_) (fun hc2=>?_))
  ·refine az (Z0 1 (.n 28 (.i (((lo+hi) / 2:Nat):Int)) .r) (ia ((((lo+hi) / 2+1:Nat):Int)) (((((lo+hi) / 2:Nat):Int))+(1)) (ir 1 [(0,Z1 xs),(1,.i v),(6,.i xs.length),(7,.i (((lo+hi) / 2+1:Nat):Int)),(8,.i hi)] (ie ?_))))
   exact ⟨_,_,_,ob,⟨(lo+hi) / 2+1,hi,ob,ob,rfl,rfl,rfl⟩,(wk [] (fw (fr (fc (x:=.i (((lo+hi) / 2+1:Nat):Int)) li fl))))⟩
  refine az (ir 2 [(0,Z1 xs),(1,.i v),(6,.i xs.length),(7,.i lo),(8,.i (((lo+hi) / 2:Nat):Int))] (ie ?_))
  exact ⟨_,_,_,ob,⟨lo,(lo+hi) / 2,ob,ob,rfl,rfl,rfl⟩,(wk [] (fq (fc (x:=.i (((lo+hi) / 2:Nat):Int)) li fl)))⟩
 refine ax 0 (ar (Z0 5 (.n 31 (.i lo) (.n 35 (.b (decide ((lo:Int)<(xs.length:Int)))) .r)) (ib (b:=(decide ((lo:Int)<(xs.length:Int)))) 35 (fun hb1=>?_) (fun hb1=>?_))))
 ·have hp1:(lo:Int)<(xs.length:Int):=(dq).1 hb1
  refine Z0 2 (.n 36 (Z1 xs) (.n 37 (.i lo) (.k (.k (.d .r))))) ?_
  obtain ⟨x2,hx2⟩:=Zl (xs:=xs) (j:=lo) om
  refine Zf (Zj (es:=Z6 xs) (hv:=none) (j:=(lo:Int)) (sz:=1) (y:=.i x2) kr om (ZH hx2) rfl) (Z0 4 (.n 42 (.b (x2==v)) .r) (ib (b:=(x2==v)) 42 (fun hb2=>?_) (fun hb2=>?_)))
  ·have hp2:x2=v:=(Ze).1 hb2
   refine ir 13 [(4,.i lo),(5,.b true)] (ie ?_)
   exact Z5 (r2 [] [.i lo,.b true] ⟨lo,true,rfl,rfl,⟨by omega,fun _=>hp2▸ZV hx2⟩⟩ (lr _))
  have hp3:¬(x2=v):=Zv Ze hb2
  refine Z0 2 (.n 43 (Z1 xs) (.n 44 (.i lo) (.k (.d .r)))) (Zf (Zj (es:=Z6 xs) (hv:=none) (j:=(lo:Int)) (sz:=1) (y:=.i x2) kr om (ZH hx2) rfl) (Z0 1 (.n 46 (.i x2) .r) (ic [] (Zxx x2) ?_)))
  rintro _ _ ⟨rfl,rfl⟩
  refine ir 8 [(4,.i lo),(5,.b false)] (ie ?_)
  exact Z5 (r2 [] [.i lo,.b false] ⟨lo,false,rfl,rfl,⟨by omega,fun q=>by cases q⟩⟩ (lr _))
 have hp4:¬((lo:Int)<(xs.length:Int)):=Zv dq hb1
 refine ir 20 [(4,.i lo),(5,.b false)] (ie ?_)
 exact Z5 (r2 [] [.i lo,.b false] ⟨lo,false,rfl,rfl,⟨by omega,fun q=>by cases q⟩⟩ (lr _))
theorem Zng (xs:List Int) (hl_xs:xs.length<=4294967296:=by exact ob):Zd Tryz.prog 178 [Z1 xs] [] (fun r h=>∃(g:Hd),r=.h g/\h=[rK g 1 (Z9 (Z6 xs))]):=by
 refine enter Tryz.func178 kr (n:=8) kr kr (ar (ir 1 [(0,Z1 xs)] (ie (aq (ar (Z0 1 (.n 3 (Z1 xs) .r) (iN (Z6 xs) (fun hz1=>?_) ?_)))))))
 ·have hz1:=Z7x hz1
  refine ie (X8 (ar (ir 1 [(2,nl)] (ie (XA (Z64 (k:=1)) ?_)))))
  subst hz1
  exact Z5 (r2 [0] [nl] ⟨hN,rfl,rfl⟩ (Zg.hd (v:=hN)) (eq:=(rr (ls:=[]) rfl rz)))
 refine ie (YA (ak (ar (iKL 1 ?_))))
 intro g1
 refine Z0 1 (.n 6 (Z1 xs) .r) (iKC 0 g1 1 (Z6 xs) none (YS _) (by simp<;>omega) ?_)
 intro v1
 refine ir 1 [(2,.h v1)] (ie ?_)
 exact Z5 (r1 [0] ⟨v1,rfl,rfl⟩)
theorem Y0u (u:Value) (xs:List Int) (v:Int) (hl:xs.length<=1000000000:=by exact ob):Zd Tryz.prog 175 [Zb xs u,.i v] [.tail u 1] (fun r h=>∃(wu:Value) (ys:List Int),r=Zb ys wu/\h=[.tail wu 1]/\(ys.length<=xs.length+1/\∀x,x∈ys↔x∈xs∨x=v)):=by
 refine enter Tryz.func175 kr (n:=21) kr kr (ar (ir 1 [(0,Zb xs u),(1,.i v)] (ie (ar (Z0 2 (.n 8 (Z1 xs) (.n 9 (.i v) .r)) (ic [] (Zmy xs v) ?_))))))
 rintro _ _ ⟨q1,f1,rfl,rfl,hp1⟩
 have hb:=hp1
 refine Z0 5 (.n 5 (.i q1) (.n 6 (.b f1) .r)) (ie (aq (ar (Z0 1 (.n 13 (.b f1) .r) (ie (ac f1 Iff.rfl (fun hc1=>?_) (fun hc1=>?_)))))))
 ·refine ar (ir 2 [(4,Zb xs u)] (ie ?_))
  exact Z5 (r1 [0] ⟨u,xs,rfl,rfl,⟨by omega,fun x=>⟨.inl,fun q=>q.elim id fun e=>e▸hb.2 hc1⟩⟩⟩)
 refine ak (ar (Z0 1 (.n 15 (Z1 xs) .r) (ic [] (Zng xs) ?_)))
 rintro _ _ ⟨g1,rfl,rfl⟩
 refine Z0 2 (.n 17 (.i q1) (.n 18 (.i v) .r)) (iL (Z6 [v]) 1 1 ?_)
 intro v1
 refine ic [1,0] (Zsv g1 v1 xs q1 v ob ob) ?_
 rintro _ _ ⟨w1,rfl,rfl⟩
 refine ir 1 [(4,Zb (VP xs q1 v) w1)] (ie ?_)
 exact Z5 (r1 [0] ⟨w1,(VP xs q1 v),rfl,rfl,⟨by rw [Z0v _ _ _ hb.1];exact Yp _,Zsr⟩⟩)
theorem Zs9 (n:Normal) (us:List Int) (s:Step) (hn:NOk n:=by exact ob) (ha:∀a∈s.args,0<=a/\a<us.length) (hnum:s.op=9->0<=s.num/\s.num<n.routines.length:=by exact ob) (hal:s.args.length<=1000000000:=by exact ob) (hlt:∀(i:Nat) (a:Int),s.args[i]? = some a->W4 n s.op s.num i=true->gI us a≠0):Zd Tryz.prog 170 [.agg [Z3 n.decls,Zh n],Z1 us,ZN s] [] (fun r h=>∃(vp:Value) (vl:Value) (ls:List Int),r=.tup [Zb (Xa n us s.op s.num s.args 0) vp,Zb ls vl]/\h=[.tail vp 1,.tail vl 1]/\(ls.length<=s.args.length/\∀x,x∈ls↔∃i,s.args[i]? = some x/\W4 n s.op s.num i=true)):=by
 have hsl:=Zxb hn s.num
 have hLA:=fun k=>Ztx (n:=n) (op:=s.op) (num:=s.num) (k:=k)
 refine enter Tryz.func170 kr (n:=53) kr kr (ar (iA [Z3 n.decls,Zh n] ?_))
 intro b1
 refine iA (ZE s) ?_
 intro b2
 refine ir 2 [(1,Z1 us),(3,.p b1 0),(5,.p b2 0),(6,nl),(7,nl)] (ie (aq (ar (Za 2 (.n 11 (.i s.op) .r) [0] [b2] (ic [] (Zfy s.op) ?_)))))
 rintro _ _ ⟨rfl,rfl⟩
 refine Z0 1 (.n 13 (.b (!VW s.op)) .r) (ie (ac (!VW s.op) (p:=¬(VW s.op=true)) (ZP Iff.rfl) (fun hc1=>?_) (fun hc1=>?_)))
 ·refine ar (ir 2 [(6,nl),(7,nl)] (ie (U7 1 (U7 1 ?_))))
  exact Z5 (r2 [0,0] [nl,nl] ⟨(.slice none 0 0),(.slice none 0 0),[],rfl,rfl,⟨by simp,fun x=>by simp only [List.not_mem_nil,false_iff];rintro ⟨i,_,q⟩;exact Zgz hc1 i q⟩⟩ (Zg.tup (.cons (Zg.slh _ (by rw [Z9s hc1];rfl)) (.cons (Zg.slh _ (by first|rfl|(subst_vars;rfl))) .nil))))
 refine ak (aq (ar (Za 2 (.n 15 (Z1 s.args) .r) [0] [b2] (iw (ZD s.args) (Z0 1 (.n 17 (.i 0) .r) (ie (ab 0 (U7 1 (U7 1 (al (fun m F h=>∃(k:Nat) (ps:List Int) (v:Value) (u:Value) (ls:List Int),(k<=s.args.length)/\(ps.length<=k)/\(ps++Xa n us s.op s.num (s.args.drop k) k=Xa n us s.op s.num s.args 0)/\(ls.length<=k)/\(KJ n s.op s.num s.args k ls)/\F=[(1,Z1 us),(3,.p b1 0),(5,.p b2 0),(6,Zb ps v),(7,Zb ls u),(15,Z1 s.args),(16,.i s.args.length),(17,.i k)]/\h=[.obj b2 (ZE s),.obj b1 [Z3 n.decls,Zh n],.tail u 1,.tail v 1]/\m=s.args.length-k) _ _ _ ⟨0,[],(.slice none 0 0),(.slice none 0 0),[],ob,ob,rfl,ob,Zu0,rfl,rfl,rfl⟩ (wk [2,2,0,0] (fw (fr (fc (x:=nl) (Zg.slh _ (by first|rfl|(subst_vars;rfl))) (fc (x:=nl) (Zg.slh _ (by first|rfl|(subst_vars;rfl))) (fw (fc (x:=.i 0) li fl))))))) ?_))))))))))
 rintro m F h ⟨k,ps,v,u,ls,c0_0,c0_1,c0_2,c0_3,c0_4,rfl,rfl,rfl⟩
 refine ar (Z0 1 (.n 18 (.b (decide ((k:Int)<(s.args.length:Int)))) .r) (ie (aq (ac (decide ((k:Int)<(s.args.length:Int))) dq (fun hc2=>?_) (fun hc2=>?_)))))
 ·refine ak (aq (ab 1 (ar (Z0 1 (.n 19 (.i k) .r) ?_))))
  obtain ⟨x1,hx1⟩:=Zl (xs:=s.args) (j:=k) om
  have hxa:=ha x1 (ZV hx1)
  refine Zf (Zj (es:=Z6 s.args) (hv:=none) (j:=(k:Int)) (sz:=1) (y:=.i x1) kr om (ZH hx1) rfl) (Z0 3 (.n 8 (.i k) (.n 9 (.i x1) .r)) (ie (ab 2 (ar (Z0 2 (.n 27 (Z1 us) (.n 28 (.i x1) .r)) ?_)))))
  obtain ⟨x2,hx2⟩:=Zl (xs:=us) (j:=x1.toNat) om
  have hgx:=XR hx2
  refine Zf (Zj (es:=Z6 us) (hv:=none) (j:=x1) (sz:=1) (y:=.i x2) kr om (ZH hx2) rfl) (Z0 3 (.n 26 (.b (x2==0)) .r) (ie (JE (fun F h=>∃(w:Value) (ps2:List Int) (w3:Value) (ls2:List Int),(ps2.length<=k+1)/\(ps2++Xa n us s.op s.num (s.args.drop (k+1)) (k+1)=Xa n us s.op s.num s.args 0)/\(ls2.length<=k+1)/\(KJ n s.op s.num s.args (k+1) ls2)/\F=[(1,Z1 us),(3,.p b1 0),(5,.p b2 0),(6,Zb ps2 w),(7,Zb ls2 w3),(15,Z1 s.args),(16,.i s.args.length),(17,.i k)]/\h=[.obj b2 (ZE s),.obj b1 [Z3 n.decls,Zh n],.tail w 1,.tail w3 1]) (fun _ _=>rfl) ?_ ?_)))
  ·refine ac (x2==0) Ze (fun hc3=>?_) (fun hc3=>?_)
   ·refine ak ?_
    exact ⟨_,_,⟨v,ps,u,ls,ob,(Zi9 hx1 (by rw [Uv,hgx,hc3];simp) c0_2),ob,(Zgx c0_4 (fun q=>hlt k x1 hx1 q (by rw [hgx];exact hc3))),rfl,rfl⟩,(wk [0,0,1,0] fl)⟩
   refine ar (YV 14 [(1,Z1 us),(3,.p b1 0),(5,.p b2 0),(6,Zb ps v),(7,Zb ls u),(8,.i k),(9,.i x1),(15,Z1 s.args),(16,.i s.args.length),(17,.i k),(46,.b ((s.op==9)&&(decide ((k:Int)∈((W6 n s.num).lnt)))))] [.obj b2 (ZE s),.obj b1 [Z3 n.decls,Zh n],.tail u 1,.tail v 1] ?_ (fun hj1=>?_))
   ·refine ir 1 [(1,Z1 us),(3,.p b1 0),(5,.p b2 0),(6,Zb ps v),(7,Zb ls u),(8,.i k),(9,.i x1),(15,Z1 s.args),(16,.i s.args.length),(17,.i k),(32,.b ((s.op==9)&&(decide ((k:Int)∈((W6 n s.num).lnt)))))] (ie (ac ((s.op==9)&&(decide ((k:Int)∈((W6 n s.num).lnt)))) (p:=(s.op=9)/\((k:Int)∈((W6 n s.num).lnt))) (ZZ Ze dq) (fun hc4=>?_) (fun hc4=>?_)))
    ·refine az (Z0 2 (.n 47 (Zb ls u) (.n 48 (.i x1) .r)) (ic [2] (Y0u u ls x1) ?_))
     rintro _ _ ⟨wu1,ys1,rfl,rfl,hp1⟩
     have hy:=hp1
     refine Z0 1 (.n 7 (Zb ys1 wu1) (.q 49 (.w (.k (.k (.d .r)))))) (ie ?_)
     exact ⟨_,_,⟨v,ps,wu1,ys1,ob,(Zi9 hx1 (by rw [Uv,(hLA k).2 hc4];simp) c0_2),(by have:=hy.1;omega),(Zty hx1 c0_4 ((hLA k).2 hc4) hy.2),rfl,rfl⟩,(wk [1,1,1,0] fl)⟩
    refine az (Z0 2 (.n 22 (Zb ps v) (.n 23 (.i k) .r)) (iL (Z6 [(k:Int)]) 1 1 ?_))
    intro v1
    refine Z0 0 (.n 24 (Z1 [(k:Int)]) (.p .r)) (ip 4 (Z6 (ps++[(k:Int)])) (Z6 ps) (Z6 [(k:Int)]) v none 1 (YS _) (YS _) (VL _) (by simp<;>omega) (by simp [VK,Z6]) ?_)
    intro v2
    refine Z0 1 (.n 6 (Zb (ps++[(k:Int)]) v2) (.q 25 (.w (.k (.k (.d .r)))))) (ie ?_)
    exact ⟨_,_,⟨v2,(ps++[(k:Int)]),u,ls,ob,(Zvs hx1 (by have h1:VW s.op=true:=XE.1 hc1;have h2:W4 n s.op s.num k=false:=KE.2 (fun q=>hc4 ((hLA k).1 q));rw [Uv,hgx,h1,h2];simp [hc3]) c0_2),ob,(Zgx c0_4 (fun q=>hc4 ((hLA k).1 q))),rfl,rfl⟩,(wk [2,2,0,1] fl)⟩
   refine iR 4 [(1,Z1 us),(3,.p b1 0),(5,.p b2 0),(6,Zb ps v),(7,Zb ls u),(8,.i k),(9,.i x1),(15,Z1 s.args),(16,.i s.args.length),(17,.i k),(36,.b (s.op==9))] [0] [b2] (ib (b:=(s.op==9)) 36 (fun hb1=>?_) (fun hb1=>?_))
   ·have hp2:s.op=9:=(Ze).1 hb1
    refine Za 4 (.n 38 (Zh n) (.n 40 (.i s.num) (.w (.w (.k (.k (.k .z))))))) [1,0] [b1,b2] (Zf (Zj (es:=WL (n.routines.map Yo)) (hv:=none) (j:=s.num) (sz:=3) (y:=QE (W6 n s.num)) kr (by have:=hnum (by assumption);omega) (JL (Zja (by have:=hnum (by assumption);rw [TK];omega))) rfl) (Z0 3 (.n 43 (Z1 ((W6 n s.num).lnt)) (.n 44 (.i k) .r)) (ic [] (Zas ((W6 n s.num).lnt) (k:Int)) ?_)))
    rintro _ _ ⟨rfl,rfl⟩
    refine Z0 1 (.n 46 (.b (decide ((k:Int)∈((W6 n s.num).lnt)))) .r) ?_
    exact ZL (wk [0,0,0,0] (fq (fq (fw (fc (x:=.b (decide ((k:Int)∈((W6 n s.num).lnt)))) (lb (by simp only [hb1];rfl)) fl))))) hj1
   have hp3:¬(s.op=9):=Zv Ze hb1
   refine Z0 10 (.n 46 (.b false) (.d (.w (.w (.k (.k .z)))))) ?_
   exact ZL (wk [0,0,0,0] (fq (fq (fw (fc (x:=.b false) (lb (by simp only [hb1];rfl)) fl))))) hj1
  rintro F h ⟨w,ps2,w3,ls2,k2_0,k2_1,k2_2,k2_3,rfl,rfl⟩
  refine az (ia (((k+1:Nat):Int)) (((k:Int))+(1)) (ir 1 [(1,Z1 us),(3,.p b1 0),(5,.p b2 0),(6,Zb ps2 w),(7,Zb ls2 w3),(15,Z1 s.args),(16,.i s.args.length),(17,.i (k+1:Nat))] (ie ?_)))
  exact ⟨_,_,_,ob,⟨k+1,ps2,w,w3,ls2,ob,ob,ob,ob,ob,rfl,rfl,rfl⟩,(wk [0,0,1,0] (fq (fw (fr (fc (x:=.i (k+1:Nat)) li fl)))))⟩
 refine ax 0 (ar (ir 4 [(6,Zb ps v),(7,Zb ls u)] (ie ?_)))
 exact Z5 (r2 [3,2] [Zb ps v,Zb ls u] ⟨v,u,_,rfl,rfl,⟨by omega,Ztz c0_4 om⟩⟩ (Zg.tup (.cons (Zg.slh _ (Y1 Z6 (Zvr om c0_2))) (.cons (Zg.slh _ (Y1 Z6 ob)) .nil))))
theorem Zmo (b:Nat) (ga:Hd) (gb:Hd) (gc:Hd) (n:Normal) (L:XG) (ln:List Int) (am:List Arm) (s:Step) (q:Int) (hn:NOk n:=by exact ob) (hk:LOk n.decls L q:=by exact ob) (har:ArmR n.decls L am:=by exact ob) (hln:ln.length<=4294967296:=by exact ob) (hal:am.length<=1000000000:=by exact ob) (hlb:L.vars.length<=1000000000:=by exact ob) (hf:SFacts n L.vars s:=by exact ob) (hlt:∀(i:Nat) (a:Int),s.args[i]? = some a->W4 n s.op s.num i=true->gI L.vars a≠0) (hsl:s.args.length<=1000000000:=by exact ob) (hq:0<=q/\q<=999999980:=by exact ob):Zd Tryz.prog 153 [.p b 0,ZN s] [.obj b [Z3 n.decls,Zh n,Z1 ln,Zq am,.h ga,.h gb,.h gc],rV ga L.vars,rV gb L.own,rV gc L.tok] (fun r h=>(∃(L':XG),r=.b true/\h=[.obj b [Z3 n.decls,Zh n,Z1 ln,Zq am,.h ga,.h gb,.h gc],rV ga L'.vars,rV gb L'.own,rV gc L'.tok]/\Vj n ln L s.op s.num s.into s.args=some L')∨(r=.b false/\h=[]/\Vj n ln L s.op s.num s.into s.args=none)):=by
 have hlk:=hk.len
 obtain ⟨e1,e2,e3,e4,e5⟩:=hk.len
 have hpl:=Zi8 (n:=n) (us:=L.vars) (op:=s.op) (num:=s.num) s.args 0
 refine enter Tryz.func153 kr (n:=74) kr kr (ar (iA (ZE s) ?_))
 intro b1
 refine ir 1 [(0,.p b 0),(3,.p b1 0)] (ie (aD 15 (ZI (fuel:=6) 15 [0,1,2,3,4,5,6,7,8] (.n 15 (.agg [Z3 n.decls,Zh n]) (.n 19 (.h ga) (.n 20 (ZN s) .r))) [1,1,0] [b,b,b1] (Zm 9 (Vs 9 [2] [] [] [rV ga L.vars] (Zs9 n L.vars s (ha:=hf.args) (hnum:=hf.num) (hlt:=hlt)) clS (gS (gL (v:=ga) 0 (gS gN))) (WS Vx) ?_)))))
 rintro _ _ ⟨vp1,vl1,ls1,rfl,rfl,hp1⟩
 have hls:=hp1
 refine Zi (fuel:=0) 5 [10,11,12,13,14] (.n 5 (Zb (Xa n L.vars s.op s.num s.args 0) vp1) (.n 6 (Zb ls1 vl1) .r)) (de (aq (ar (Z0 1 (.n 24 (Zb (Xa n L.vars s.op s.num s.args 0) vp1) .r) (io (.i (((Xa n L.vars s.op s.num s.args 0).length:Nat):Int)) (.i (((Z6 (Xa n L.vars s.op s.num s.args 0)).length:Nat):Int)) (li (by rw [ZD])) (Z0 1 (.n 26 (.i 0) .r) (ie (ab 0 (al (fun m F h=>∃(k:Nat) (L2:XG),(k<=(Xa n L.vars s.op s.num s.args 0).length)/\(LOk n.decls L2 q)/\(L2.vars=L.vars)/\(L2.par=L.par/\L2.con=L.con/\L2.fst=L.fst)/\(Tc s.args ((Xa n L.vars s.op s.num s.args 0).drop k) L2=Tc s.args (Xa n L.vars s.op s.num s.args 0) L)/\F=[(0,.p b 0),(3,.p b1 0),(6,Zb ls1 vl1),(24,Zb (Xa n L.vars s.op s.num s.args 0) vp1),(25,.i (((Xa n L.vars s.op s.num s.args 0).length:Nat):Int)),(26,.i k)]/\h=[rV ga L2.vars,.obj b1 (ZE s),.obj b [Z3 n.decls,Zh n,Z1 ln,Zq am,.h ga,.h gb,.h gc],rV gb L2.own,rV gc L2.tok,.tail vl1 1,.tail vp1 1]/\m=(Xa n L.vars s.op s.num s.args 0).length-k) _ _ _ ⟨0,L,ob,hk,rfl,⟨rfl,rfl,rfl⟩,rfl,rfl,rfl,rfl⟩ (wk [2,2,2,2,2,1,0] (fq (fr (fc (x:=.i 0) li fl)))) ?_)))))))))
 rintro m F h ⟨k,L2,c0_0,c0_1,c0_2,c0_3,c0_4,rfl,rfl,rfl⟩
 refine ar (Z0 1 (.n 27 (.b (decide ((k:Int)<(((Xa n L.vars s.op s.num s.args 0).length:Nat):Int)))) .r) (ie (aq (ac (decide ((k:Int)<(((Xa n L.vars s.op s.num s.args 0).length:Nat):Int))) dq (fun hc1=>?_) (fun hc1=>?_)))))
 ·refine ak (aq (ab 1 (ar ?_)))
  obtain ⟨x1,hx1⟩:=Zl (xs:=(Xa n L.vars s.op s.num s.args 0)) (j:=k) om
  have hpm:=Z9r (ZV hx1)
  refine Zf (Zj (es:=Z6 (Xa n L.vars s.op s.num s.args 0)) (hv:=some vp1) (j:=(k:Int)) (sz:=1) (y:=.i x1) kr om (ZH hx1) rfl) (Z0 2 (.n 8 (.i x1) .r) (ie (ar (Za 4 (.n 30 (.p b 0) (.n 32 (Z1 s.args) (.n 33 (.i x1) .r))) [1] [b1] ?_))))
  obtain ⟨x2,hx2⟩:=Zl (xs:=s.args) (j:=x1.toNat) om
  have hgx:=XR hx2
  have hxa:=hf.args x2 (ZV hx2)
  refine Zf (Zj (es:=Z6 s.args) (hv:=none) (j:=x1) (sz:=1) (y:=.i x2) kr om (ZH hx2) rfl) (Z0 1 (.n 35 (.i x2) .r) (ic [2,0,1,1] (Z3x b ga gb gc n L2 ln am x2 (hlk:=c0_1.len) (hi:=(by rw [c0_2];exact hxa)) (hq:=(fun y hy=>by have h1:=c0_1.nn y hy;have h2:=c0_1.bd y hy;omega))) ?_))
  rintro _ _ ⟨rfl,rfl⟩
  refine Z0 1 (.n 37 (.b (!decide (1<=gI L2.own x2))) .r) (ie (ac (!decide (1<=gI L2.own x2)) (p:=¬(decide (1<=gI L2.own x2)=true)) (ZP Iff.rfl) (fun hc2=>?_) (fun hc2=>?_)))
  ·refine ar (ir 1 [(4,.b false)] (ie ?_))
   exact Z5 (r1 [] (.inr ⟨rfl,rfl,(Zqr (Y03 hx1 hgx (fun z=>hc2 (decide_eq_true z)) c0_4))⟩))
  have ht:=of_decide_eq_true (XE.1 hc2)
  refine ak (az (ia (((k+1:Nat):Int)) (((k:Int))+(1)) (Z0 1 (.n 26 (.i (k+1:Nat)) (.p (.d (.p (.d (.p (.d (.d (.d (.d (.p (.d (.w (.k .z)))))))))))))) (ie ?_))))
  exact ⟨_,_,_,ob,⟨k+1,(Yi L2 x2),ob,(c0_1.take (by rw [KC,Z8 ht])),c0_2,c0_3,(Y02 hx1 hgx ht c0_4),rfl,rfl,rfl⟩,(wk [1,3,0,0,0,0,0] (fq (fr (fc (x:=.i (k+1:Nat)) li fl))))⟩
 have hT:=Y01 om c0_4
 have har2:=har.same (M:=L2) (by rw [c0_2]) c0_3.1 c0_3.2.1 c0_3.2.2
 have hvl:L2.vars.length=L.vars.length:=by rw [c0_2]
 obtain ⟨f1,f2,f3,f4,f5⟩:=c0_1.len
 refine ax 0 (aq (ar (Z0 1 (.n 39 (Zb ls1 vl1) .r) (iw (ZD ls1) (Z0 1 (.n 41 (.i 0) .r) (ie (ab 2 (al (fun m F h=>∃(j:Nat),(j<=ls1.length)/\(∀x∈ls1.take j,YG L2 ln x=true)/\F=[(0,.p b 0),(3,.p b1 0),(39,Zb ls1 vl1),(40,.i ls1.length),(41,.i j)]/\h=[rV ga L2.vars,.obj b1 (ZE s),.obj b [Z3 n.decls,Zh n,Z1 ln,Zq am,.h ga,.h gb,.h gc],rV gb L2.own,rV gc L2.tok,.tail vl1 1]/\m=ls1.length-j) _ _ _ ⟨0,ob,(by simp),rfl,rfl,rfl⟩ (wk [0,0,0,0,0,0] (fq (fc (x:=.i 0) li fl))) ?_))))))))
 rintro m F h ⟨j,c1_0,c1_1,rfl,rfl,rfl⟩
 refine ar (Z0 1 (.n 42 (.b (decide ((j:Int)<(ls1.length:Int)))) .r) (ie (aq (ac (decide ((j:Int)<(ls1.length:Int))) dq (fun hc3=>?_) (fun hc3=>?_)))))
 ·refine ak (aq (ab 3 (ar ?_)))
  obtain ⟨x3,hx3⟩:=Zl (xs:=ls1) (j:=j) om
  have hxm:=ZV hx3
  obtain ⟨i0,hi0,_⟩:=(hls.2 _).1 hxm
  have hxl:=hf.args _ (ZV hi0)
  refine Zf (Zj (es:=Z6 ls1) (hv:=some vl1) (j:=(j:Int)) (sz:=1) (y:=.i x3) kr om (ZH hx3) rfl) (Z0 2 (.n 10 (.i x3) .r) (ie (ar (Z0 2 (.n 45 (.p b 0) (.n 46 (.i x3) .r)) (ic [2,0,1,1] (Z75 b ga gb gc _ L2 ln am x3 c0_1.len har2 ob ob ob c0_1.down (by rw [c0_2];exact hxl)) ?_)))))
  rintro _ _ ⟨rfl,rfl⟩
  refine Z0 1 (.n 48 (.b (!YG L2 ln x3)) .r) (ie (ac (!YG L2 ln x3) (p:=¬(YG L2 ln x3=true)) (ZP Iff.rfl) (fun hc4=>?_) (fun hc4=>?_)))
  ·refine ar (ir 1 [(4,.b false)] (ie ?_))
   exact Z5 (r1 [] (.inr ⟨rfl,rfl,((Zfn hT hls.2).2 ⟨x3,hxm,hc4⟩)⟩))
  refine ak (az (ia (((j+1:Nat):Int)) (((j:Int))+(1)) (Z0 1 (.n 41 (.i (j+1:Nat)) (.p (.d (.p (.d (.d (.d (.p (.d (.w .z)))))))))) (ie ?_))))
  exact ⟨_,_,_,ob,⟨j+1,ob,(by rw [V3 hx3];exact fun x hx=>(ZG.1 hx).elim (c1_1 x) (fun hx=>by rw [ZW.1 hx];exact XE.1 hc4)),rfl,rfl,rfl⟩,(wk [1,3,0,0,0,0] (fq (fc (x:=.i (j+1:Nat)) li fl)))⟩
 have hH:=(Zfn (into:=s.into) hT hls.2).1 (fun x hx=>c1_1 x (by rw [W7 om];exact hx))
 have hin:=hf.into
 refine ax 2 (aq (ar (Za 3 (.n 52 (.b (s.into != 0)) .r) [1] [b1] (ie (ac (s.into != 0) Zw (fun hc5=>?_) (fun hc5=>?_))))))
 ·refine aq (aD 13 (ZI (fuel:=7) 13 [0,1,2,3,4,5] (.n 56 (.h gc) (.n 58 (.i s.into) .r)) [2,1] [b,b1] (da 6 ((s.into-1)) ((s.into)-(1)) (dx 7 (Xb 4 gc L2.tok (s.into-1) ((s.into-1).toNat) (hq:=rfl)) ?_))))
  obtain ⟨x4,hx4⟩:=Zl (xs:=L2.tok) (j:=((s.into-1).toNat)) om
  have hgt:=XR hx4
  refine Qp 8 (WA 4 gc L2.tok ((s.into-1).toNat) x4 hx4) (ZI (fuel:=2) 4 [9,10] (.n 63 (Z1 s.args) .r) [1] [b1] (dw 11 (ZD s.args) (Zi (fuel:=0) 1 [12] (.n 65 (.b (x4 != (s.args.length:Int))) .r) (de (ac (x4 != (s.args.length:Int)) Zw (fun hc6=>?_) (fun hc6=>?_))))))
  ·refine ar (ir 1 [(4,.b false)] (ie ?_))
   exact Z5 (r1 [] (.inr ⟨rfl,rfl,(by rw [hH,TZ,Z8 om,hgt,Z8 hc6])⟩))
  refine ak (aE 9 (dT (fuel:=3) 9 [0,1,2,3,4,5] [(69,.h gc),(71,.i s.into)] [2,1] [b,b1] (da 6 ((s.into-1)) ((s.into)-(1)) (dx 7 (Xb 4 gc L2.tok (s.into-1) ((s.into-1).toNat) (hq:=rfl)) (Zm 8 (KP 8 4 [] [] gc L2.tok ((s.into-1).toNat) (-1) (de (ar (ir 1 [(4,.b true)] (ie ?_))))))))))
  exact Z5 (r1 [3,1,2,0] (.inl ⟨(Led.mk L2.vars L2.own L2.par L2.con L2.fst (L2.tok.set (s.into-1).toNat (-1))),rfl,rfl,(by rw [hH,TZ,Z8 om,hgt,Z4 hc6])⟩) (eq:=(rc (rv (xs:=L2.vars) ob (rv (xs:=L2.own) ob (rv (xs:=(L2.tok.set ((s.into-1).toNat) (-1))) ob rz))))))
 refine ak (ar (ir 1 [(4,.b true)] (ie ?_)))
 exact Z5 (r1 [2,0,1,1] (.inl ⟨L2,rfl,rfl,(by rw [hH,TZ,Z4 om])⟩))
end Go.Abs
