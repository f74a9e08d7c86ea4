/-
  FnBlockTypeUptoSaid: the law FnBlockType returns true at every argument of bulk at most 1048576, and the argument reads behind the call as it read before.
-/
import Derived.Test.YthllacimcjakdaaGreatBktE
import Derived.Test.YthllacimcjakdaaGreatRows
import Derived.WalkKit
import Derived.ProofKit
import Derived.OpenShut
import Derived.JoinedCond
import Derived.ReadAgain
set_option linter.all false
set_option linter.unusedVariables false
set_option linter.unusedSimpArgs false
set_option linter.unusedSectionVars false
set_option maxRecDepth 10000
set_option maxHeartbeats 4000000
namespace Go.Abs
open Go.Proofs
theorem Z0n (n:Zx) (t:Int) (hn:Xf n:=by exact ob):Zj Tryz.prog 131 [.agg [Zd n.decls,Xn n],.i t] [] (fun r h=>r=WD ((Zu n.decls t).map (Zw n.decls))/\h=[]):=by
 have Xu:=hn.decls
 have hcl:=GB Xu t
 refine ZL 26 Tryz.func131 (ar (iA [Zd n.decls,Xn n] ?_))
 intro b1
 refine ir 1 [(1,.i t),(2,.p b1 0)] (ie (ar (Z1 1 5 (nl) (ie (aq (ar (ZY 3 9 (Zd n.decls) 10 (.i t) [0] [b1] (ZA [] (Z0i n.decls t) (io (.i (((Zu n.decls t).length:Nat):Int)) (.i (((Z8 (Zu n.decls t)).length:Nat):Int)) (li (by rw [Yd])) (Z1 1 13 (.i 0) (ie (ab 0 (D5 1 (al (fun m F h=>∃(k:Nat) (v:Value),(k<=(Zu n.decls t).length)/\F=[(2,.p b1 0),(5,UV (((Zu n.decls t).take k).map (Zw n.decls)) v),(11,Z0 (Zu n.decls t)),(12,.i (((Zu n.decls t).length:Nat):Int)),(13,.i k)]/\h=[.obj b1 [Zd n.decls,Xn n],.tail v 1]/\m=(Zu n.decls t).length-k) _ _ _ ⟨0,(.slice none 0 0),ob,rfl,rfl,rfl⟩ (wk [1,0] (fr (fc (x:=nl) (Zg.slh _ rfl) (fw (Yf fl))))) ?_))))))))))))))
 rintro m F h ⟨k,v,Ym,rfl,rfl,rfl⟩
 refine ar (Z1 1 14 (.b (decide ((k:Int)<(((Zu n.decls t).length:Nat):Int)))) (ie (aq (ZQ ((k:Int)<(((Zu n.decls t).length:Nat):Int)) (fun Ze=>?_) (fun Ze=>?_)))))
 ·refine ak (aq (ab 1 (ar ?_)))
  obtain ⟨x1,Z3⟩:=Zt (xs:=Zu n.decls t) (j:=k) om
  refine Zp (Zn none (k:Int) 1 (Y3 Z3)) (Z1 2 7 (.i x1) (ie (az (Y1 4 (.n 17 (UV (((Zu n.decls t).take k).map (Zw n.decls)) v) (.n 19 (Zd n.decls) (.n 20 (.i x1) .r))) [0] [b1] (ZA [] (Z0l n.decls x1 (hc:=(by have:=Pi Xu Z3;omega))) (iL (W7 [Zw n.decls x1]) 1 1 ?_))))))
  intro v1
  refine Z5 0 (.n 22 (WD [Zw n.decls x1]) (.p .r)) (ip 2 (W7 (((Zu n.decls t).take (k+1)).map (Zw n.decls))) (W7 (((Zu n.decls t).take k).map (Zw n.decls))) (W7 [Zw n.decls x1]) v none 1 (JQ _) (JQ _) (Ds _) (by simp;omega) (by rw [WQ Z3];simp [W7]) ?_)
  intro v2
  refine Z5 1 (.n 5 (UV (((Zu n.decls t).take (k+1)).map (Zw n.decls)) v2) (.p (.d (.p (.d (.d (.d (.d (.p (.d (.k (.d .r)))))))))))) (ie (az (ZM k (Z5 1 (.n 13 (.i (k+1:Nat)) (.p (.w .z))) (ie ?_)))))
  have hdr:=Yb Z3
  exact ZT ⟨k+1,v2,ob,rfl,rfl,rfl⟩ (wk [2,0] (fq (ZW k fl)))
 refine ax 0 (ar (ir 2 [(4,UV (((Zu n.decls t).take k).map (Zw n.decls)) v)] (ie ?_)))
 exact Zc (r2 [] [UV (((Zu n.decls t).take k).map (Zw n.decls)) v] ⟨rfl,rfl⟩ (Zg.sl _ (Yv W7 (by rw [Vb om]))))
theorem Z0o (n:Zx) (op:Int) (num:Int) (ts:List Int) (hn:Xf n:=by exact ob) (hl_ts:ts.length<=4294967296:=by exact ob) (hnum:-9223372036854775808<=num/\num<=9223372036854775807:=by exact ob):Zj Tryz.prog 132 [.agg [Zd n.decls,Xn n],.i op,.i num,Z0 ts] [] (fun r h=>∃(t:Int),r=.tup [.i t,.b ((Xv n op num ts).isSome)]/\h=[]/\∀x,Xv n op num ts=some x->t=x):=by
 have Xu:=hn.decls
 have hrl:=hn.len
 have hcfl:(Zw n.decls num).length<=4294967296:=by have:=VK Xu num;omega
 have hdl:n.decls.length<=4294967296:=by have:=Xu.len;omega
 refine ZL 149 Tryz.func132 (ar (iA [Zd n.decls,Xn n] ?_))
 intro b1
 refine ir 2 [(1,.i op),(2,.i num),(3,Z0 ts),(4,.p b1 0)] (ie (ar (Z1 2 11 (.i 0) (ie (aq (ar (Z1 1 18 (.i op) (ie (ab 0 (ar (Z1 2 19 (.b (op==0)) (ie (ac (op==0) Zh (fun Ze=>?_) (fun Ze=>?_))))))))))))))
 ·refine ar (XS 6 [(3,Z0 ts),(26,.b ((decide (num>=(-999)))&&(decide (num<=999))))] [.obj b1 [Zd n.decls,Xn n]] ?_ (fun hj1=>?_))
  ·refine XS 11 [(31,.b (((decide (num>=(-999)))&&(decide (num<=999)))&&((ts.length:Int)==0)))] [.obj b1 [Zd n.decls,Xn n]] ?_ (fun hj2=>?_)
   ·refine ir 2 [(8,.i 0),(9,.b (((decide (num>=(-999)))&&(decide (num<=999)))&&((ts.length:Int)==0)))] (ie ?_)
    have hF:=sf0 (n:=n) (num:=num) (ts:=ts) Ze
    exact Zc (r2 [] [.i 0,.b (((decide (num>=(-999)))&&(decide (num<=999)))&&((ts.length:Int)==0))] ⟨0,rfl,rfl,(Ab hF)⟩ (Zg.tup (.cons (lr _) (.cons (lb (Aa hF (by simp [*];try omega))) .nil))))
   refine ir 1 [(3,Z0 ts),(27,.b ((decide (num>=(-999)))&&(decide (num<=999))))] (ib (b:=((decide (num>=(-999)))&&(decide (num<=999)))) 27 (fun Zb=>?_) (fun Zb=>?_))
   ·have ZO:(num>=(-999))/\(num<=999):=((YE dq dq)).1 Zb
    refine Z5 1 (.n 28 (Z0 ts) (.k .z)) (iw (Yd ts) (ir 2 [(31,.b ((ts.length:Int)==0))] ?_))
    exact YG (wk [0] (Zr ((ts.length:Int)==0) Zb fl)) hj2
   have Y0:¬((num>=(-999))/\(num<=999)):=ZH (YE dq dq) Zb
   refine ir 4 [(31,.b false)] ?_
   exact YG (wk [0] (Zr false Zb fl)) hj2
  refine ir 3 [(2,.i num),(3,Z0 ts),(23,.b (decide (num>=(-999))))] (ib (b:=(decide (num>=(-999)))) 23 (fun Zv=>?_) (fun Zv=>?_))
  ·have Yz:num>=(-999):=(dq).1 Zv
   refine ir 3 [(3,Z0 ts),(26,.b (decide (num<=999)))] ?_
   exact YG (wk [0] (fr (Zr (decide (num<=999)) Zv fl))) hj1
  have YM:¬(num>=(-999)):=ZH dq Zv
  refine ir 3 [(3,Z0 ts),(26,.b false)] ?_
  exact YG (wk [0] (fr (Zr false Zv fl))) hj1
 refine aq (ar (Z1 2 32 (.b (op==1)) (ie (XK (fun F h=>F=[(1,.i op),(2,.i num),(3,Z0 ts),(4,.p b1 0),(11,.i 0),(18,.i op),(32,.b ((op==1)||((op==2)||((op==3)||(op==4)))))]/\h=[.obj b1 [Zd n.decls,Xn n]]) ?_ ?_))))
 ·refine ac (op==1) Zh (fun Zm=>?_) (fun Zm=>?_)
  ·refine ak ?_
   exact ZU ⟨rfl,rfl⟩ (wk [0] (fq (fw (fc (x:=.b (op==1)) (lb (by first|rfl|(rw [Zk Zm])|(rw [Za Zm])|(simp [Zm];done)|(rw [Xo];simp [Zm];done)|omega)) fl))))
  refine ar (ir 2 [(1,.i op),(2,.i num),(3,Z0 ts),(4,.p b1 0),(11,.i 0),(18,.i op),(32,.b (op==2))] (ie (ac (op==2) Zh (fun ZI=>?_) (fun ZI=>?_))))
  ·refine ak ?_
   exact ZU ⟨rfl,rfl⟩ (wk [0] (fq (fw (fc (x:=.b (op==2)) (lb (by first|rfl|(rw [Zk Zm])|(rw [Za Zm])|(simp [Zm,ZI];done)|(rw [Xo];simp [Zm,ZI];done)|omega)) fl))))
  refine ar (Z5 2 (.n 32 (.b (op==3)) (.w (.k (.k .z)))) (ie (ac (op==3) Zh (fun Yh=>?_) (fun Yh=>?_))))
  ·refine ak ?_
   exact ZU ⟨rfl,rfl⟩ (wk [0] (fq (fw (fc (x:=.b (op==3)) (lb (by first|rfl|(rw [Zk Zm])|(rw [Za Zm])|(simp [Zm,ZI,Yh];done)|(rw [Xo];simp [Zm,ZI,Yh];done)|omega)) fl))))
  refine az (Z5 2 (.n 32 (.b (op==4)) (.d .r)) (ie ?_))
  exact ZU ⟨rfl,rfl⟩ (wk [0] (fq (fw (fc (x:=.b (op==4)) (lb (by first|rfl|(rw [Zk Zm])|(rw [Za Zm])|(simp [Zm,ZI,Yh];done)|(rw [Xo];simp [Zm,ZI,Yh];done)|omega)) fl))))
 rintro F h ⟨rfl,rfl⟩
 refine ac ((op==1)||((op==2)||((op==3)||(op==4)))) (p:=(op=1)∨((op=2)∨((op=3)∨(op=4)))) (Yc Zh (Yc Zh (Yc Zh Zh))) (fun Xk=>?_) (fun Xk=>?_)
 ·refine az (iL (Z8 [0,0]) 2 1 ?_)
  intro v1
  refine ir 1 [(2,.i num),(3,Z0 ts),(10,Z7 [0,0] v1),(11,.i 0)] (ie (ar (XS 8 [(141,.i 0),(148,.b ((num==0)&&(decide (ts=[0,0]))))] [.tail v1 1,.obj b1 [Zd n.decls,Xn n]] ?_ (fun hj3=>?_))))
  ·refine ir 2 [(8,.i 0),(9,.b ((num==0)&&(decide (ts=[0,0]))))] (ie ?_)
   have hF:=sf1 (n:=n) (num:=num) (ts:=ts) Xk
   exact Zc (r2 [] [.i 0,.b ((num==0)&&(decide (ts=[0,0])))] ⟨0,rfl,rfl,(Ab hF)⟩ (Zg.tup (.cons (lr _) (.cons (lb (Aa hF (by simp [*];try omega))) .nil))))
  refine ir 4 [(3,Z0 ts),(10,Z7 [0,0] v1),(141,.i 0),(144,.b (num==0))] (ib (b:=(num==0)) 144 (fun YC=>?_) (fun YC=>?_))
  ·have YX:num=0:=(Zh).1 YC
   refine Z5 2 (.n 145 (Z0 ts) (.n 146 (Z0 [0,0]) (.k (.d (.d (.k .z)))))) (ZA [] (CP ts [0,0]) (Z1 1 148 (.b (decide (ts=[0,0]))) ?_))
   exact YG (wk [0,0] (fr (Zr (decide (ts=[0,0])) YC fl))) hj3
  have Xw:¬(num=0):=ZH Zh YC
  refine ir 4 [(141,.i 0),(148,.b false)] ?_
  exact YG (wk [0,0] (fr (Zr false YC fl))) hj3
 refine ar (ir 2 [(1,.i op),(2,.i num),(3,Z0 ts),(4,.p b1 0),(11,.i 0),(18,.i op),(38,.b (op==5))] (ie (ac (op==5) Zh (fun Xl=>?_) (fun Xl=>?_))))
 ·refine az (iL (Z8 [0]) 1 1 ?_)
  intro v2
  refine Z1 1 10 (Z7 [0] v2) (ie (ar (XS 8 [(141,.i 0),(148,.b ((num==0)&&(decide (ts=[0]))))] [.tail v2 1,.obj b1 [Zd n.decls,Xn n]] ?_ (fun hj4=>?_))))
  ·refine ir 2 [(8,.i 0),(9,.b ((num==0)&&(decide (ts=[0]))))] (ie ?_)
   have hF:=sf5 (n:=n) (num:=num) (ts:=ts) Xl
   exact Zc (r2 [] [.i 0,.b ((num==0)&&(decide (ts=[0])))] ⟨0,rfl,rfl,(Ab hF)⟩ (Zg.tup (.cons (lr _) (.cons (lb (Aa hF (by simp [*];try omega))) .nil))))
  refine ir 4 [(3,Z0 ts),(10,Z7 [0] v2),(141,.i 0),(144,.b (num==0))] (ib (b:=(num==0)) 144 (fun Xh=>?_) (fun Xh=>?_))
  ·have Wh:num=0:=(Zh).1 Xh
   refine Z5 2 (.n 145 (Z0 ts) (.n 146 (Z0 [0]) (.k (.d (.d (.k .z)))))) (ZA [] (CP ts [0]) (Z1 1 148 (.b (decide (ts=[0]))) ?_))
   exact YG (wk [0,0] (fr (Zr (decide (ts=[0])) Xh fl))) hj4
  have WC:¬(num=0):=ZH Zh Xh
  refine ir 4 [(141,.i 0),(148,.b false)] ?_
  exact YG (wk [0,0] (fr (Zr false Xh fl))) hj4
 refine ar (Z1 2 41 (.b (op==11)) (ie (ac (op==11) Zh (fun Vs=>?_) (fun Vs=>?_))))
 ·refine aq (ar (Z1 1 43 (Z0 ts) (iw (Yd ts) (Z1 1 45 (.b ((ts.length:Int) != 2)) (ie (ac ((ts.length:Int) != 2) Yg (fun Vl=>?_) (fun Vl=>?_)))))))
  ·refine ar (ir 2 [(8,.i (-1)),(9,.b false)] (ie ?_))
   have hF:=Z4l (n:=n) (num:=num) Vs Vl
   exact Zc (r2 [] [.i (-1),.b false] ⟨(-1),rfl,rfl,(CO hF)⟩ (Zg.tup (.cons (lr _) (.cons (lb (CN hF)) .nil))))
  refine ak (aD 12 (Y5 9 12 [0,1,2] (.n 48 (Zd n.decls) (.n 49 (Z0 ts) .r)) [0] [b1] ?_))
  obtain ⟨x1,Z3⟩:=Zt (xs:=ts) (j:=0) om
  refine dx 3 (Zn none 0 1 (Y3 Z3)) (ZX 7 8 [4] 51 (.i x1) (dK (fun F h=>∃(b2:Nat),F=[(2,.i num),(3,Z0 ts),(12,.p b2 0),(13,.b (X0 n.decls x1))]/\h=[.obj b2 (Wr (Wq n.decls x1)),.obj b1 [Zd n.decls,Xn n]]) ?_ ?_))
  ·refine Vf 5 9 ?_ ?_
   ·refine Yt 5 [] [] [] (DR n.decls x1) (Xd 3 6 [6,7,8] [(2,.i num),(3,Z0 ts),(53,Uh (Wq n.decls x1)),(54,.b (X0 n.decls x1))] (Z9 9 (dA 9 [] [] [.i 0,.i 0,nl] ?_)))
    intro b2
    refine Z9 10 (YF 10 0 [] [] b2 (Wr (Wq n.decls x1)) (ZX 0 1 [11] 13 (.b (X0 n.decls x1)) (de ?_)))
    exact ZU ⟨b2,rfl,rfl⟩ (wk [0,0] fl)
   refine dA 9 [0] [b1] [.i 0,.i 0,nl] ?_
   intro b3
   refine Z9 5 (Yt 5 [] [] [] (DR n.decls x1) (Xd 2 5 [6,7,8] [(2,.i num),(3,Z0 ts),(12,.p b3 0),(53,Uh (Wq n.decls x1)),(54,.b (X0 n.decls x1))] (Z9 10 (YF 10 0 [] [] b3 (Wr (Wq n.decls x1)) (ZX 0 1 [11] 13 (.b (X0 n.decls x1)) (de ?_))))))
   exact ZU ⟨b3,rfl,rfl⟩ (wk [0,0] fl)
  rintro F h ⟨b2,rfl,rfl⟩
  refine aD 17 (W3 13 17 [0,1,2,3] [(2,.i num),(3,Z0 ts),(12,.p b2 0),(56,.i ((Wq n.decls x1).to_)),(58,.b (X0 n.decls x1))] [0] [b2] (db (b:=X0 n.decls x1) 58 (fun W9=>?_) (fun W9=>?_)))
  ·have WP:X0 n.decls x1=true:=(Iff.rfl).1 W9
   refine ZZ 12 13 [4] (.n 59 (Z0 ts) (.k (.k (.d (.k (.k .z)))))) ?_
   obtain ⟨x2,Zy⟩:=Zt (xs:=ts) (j:=1) om
   refine dx 5 (Zn none 1 1 (Y3 Zy)) (Y5 4 11 [6,7,8,9,10,11,15] (.n 8 (.i ((Wq n.decls x1).to_)) (.n 66 (.b (x2==((Wq n.decls x1).frm))) .r)) [0] [b2] (db (b:=(x2==((Wq n.decls x1).frm))) 66 (fun WB=>?_) (fun WB=>?_)))
   ·have U9:x2=((Wq n.decls x1).frm):=(Zh).1 WB
    refine ZZ 0 4 [12,13,14,16] (.n 9 (.b (num==0)) (.d (.k .z))) (de ?_)
    have hF:=H0 (n:=n) (num:=num) Vs Vl Z3 Zy
    exact Zc (r2 [] [.i ((Wq n.decls x1).to_),.b (num==0)] ⟨(Wq n.decls x1).to_,rfl,rfl,(Ab hF)⟩ (Zg.tup (.cons (lr _) (.cons (lb (Aa hF (by simp [*];try omega))) .nil))))
   have UD:¬(x2=((Wq n.decls x1).frm)):=ZH Zh WB
   refine ZZ 0 4 [12,13,14,16] (.n 9 (.b false) (.d (.k .z))) (de ?_)
   have hF:=H0 (n:=n) (num:=num) Vs Vl Z3 Zy
   exact Zc (r2 [] [.i ((Wq n.decls x1).to_),.b false] ⟨(Wq n.decls x1).to_,rfl,rfl,(Ab hF)⟩ (Zg.tup (.cons (lr _) (.cons (lb (Aa hF (by simp [*]))) .nil))))
  have Ur:¬(X0 n.decls x1=true):=ZH Iff.rfl W9
  refine Xd 0 13 [4,5,6,7,8,9,10,11,12,13,14,15,16] [(8,.i ((Wq n.decls x1).to_)),(9,.b false)] (de ?_)
  have hF:=Z4k (n:=n) (num:=num) Vs Vl Z3 (by assumption)
  exact Zc (r2 [] [.i ((Wq n.decls x1).to_),.b false] ⟨(Wq n.decls x1).to_,rfl,rfl,(CO hF)⟩ (Zg.tup (.cons (lr _) (.cons (lb (CN hF)) .nil))))
 refine ar (Z1 2 70 (.b (op==6)) (ie (ac (op==6) Zh (fun VF=>?_) (fun VF=>?_))))
 ·refine ar (ZY 3 74 (Zd n.decls) 75 (.i num) [0] [b1] (ZA [] (Ln n.decls num) (Yn 3 77 (.i (Xj n.decls num)) 78 (.agg [Z0 (Zw n.decls num)]) (iA [nl] ?_))))
  intro b4
  refine Z1 1 14 (.i (Xj n.decls num)) (ZF 0 b4 [Z0 (Zw n.decls num)] (ie (ar (XS 9 [(79,.i (Xj n.decls num)),(87,.b ((decide ((Xj n.decls num)>=0))&&(decide (ts=(Zw n.decls num)))))] [.obj b4 [Z0 (Zw n.decls num)],.obj b1 [Zd n.decls,Xn n]] ?_ (fun hj5=>?_)))))
  ·refine ir 2 [(8,.i (Xj n.decls num)),(9,.b ((decide ((Xj n.decls num)>=0))&&(decide (ts=(Zw n.decls num)))))] (ie ?_)
   have hF:=sf6 (n:=n) (num:=num) (ts:=ts) VF
   exact Zc (r2 [] [.i (Xj n.decls num),.b ((decide ((Xj n.decls num)>=0))&&(decide (ts=(Zw n.decls num))))] ⟨Xj n.decls num,rfl,rfl,(Ab hF)⟩ (Zg.tup (.cons (lr _) (.cons (lb (Aa hF (by simp [*];try omega))) .nil))))
  refine ir 4 [(3,Z0 ts),(15,.p b4 0),(79,.i (Xj n.decls num)),(82,.b (decide ((Xj n.decls num)>=0)))] (ib (b:=(decide ((Xj n.decls num)>=0))) 82 (fun WV=>?_) (fun WV=>?_))
  ·have Tq:(Xj n.decls num)>=0:=(dq).1 WV
   refine Y1 3 (.n 83 (Z0 ts) (.n 85 (Z0 (Zw n.decls num)) (.k (.d (.d (.k .z)))))) [0] [b4] (ZA [] (CP ts (Zw n.decls num)) (Z1 1 87 (.b (decide (ts=(Zw n.decls num)))) ?_))
   exact YG (wk [0,0] (fr (Zr (decide (ts=(Zw n.decls num))) WV fl))) hj5
  have T7:¬((Xj n.decls num)>=0):=ZH dq WV
  refine Z5 5 (.n 87 (.b false) (.d (.d (.d (.k .z))))) ?_
  exact YG (wk [0,0] (fr (Zr false WV fl))) hj5
 refine aq (ar (Z1 2 88 (.b (op==9)) (ie (XK (fun F h=>F=[(1,.i op),(2,.i num),(3,Z0 ts),(4,.p b1 0),(88,.b ((op==9)||(op==10)))]/\h=[.obj b1 [Zd n.decls,Xn n]]) ?_ ?_))))
 ·refine ac (op==9) Zh (fun UC=>?_) (fun UC=>?_)
  ·refine ak ?_
   exact ZU ⟨rfl,rfl⟩ (wk [0] (fq (fc (x:=.b (op==9)) (lb (by first|rfl|(rw [Zk UC])|(rw [Za UC])|(simp [UC];done)|(rw [Xo];simp [UC];done)|omega)) fl)))
  refine az (ir 2 [(1,.i op),(2,.i num),(3,Z0 ts),(4,.p b1 0),(88,.b (op==10))] (ie ?_))
  exact ZU ⟨rfl,rfl⟩ (wk [0] (fq (fc (x:=.b (op==10)) (lb (by first|rfl|(rw [Zk UC])|(rw [Za UC])|(simp [UC];done)|(rw [Xo];simp [UC];done)|omega)) fl)))
 rintro F h ⟨rfl,rfl⟩
 refine ac ((op==9)||(op==10)) (p:=(op=9)∨(op=10)) (Yc Zh Zh) (fun K4=>?_) (fun K4=>?_)
 ·refine aq (ar (Xm [(1,.i op),(2,.i num),(3,Z0 ts),(4,.p b1 0),(99,.b ((decide (num<0))||(decide (num>=(((n.routines.map XB).length:Nat):Int)))))] [.obj b1 [Zd n.decls,Xn n]] ?_ ?_))
  ·refine ir 3 [(1,.i op),(2,.i num),(3,Z0 ts),(4,.p b1 0),(93,.b (decide (num<0)))] (ib (b:=(decide (num<0))) 93 (fun WI=>?_) (fun WI=>?_))
   ·have QC:num<0:=(dq).1 WI
    refine Z5 6 (.n 99 (.b true) (.d (.w .z))) (ie ?_)
    exact wk [0] (fq (Zr true WI fl))
   have QD:¬(num<0):=ZH dq WI
   refine Y1 3 (.n 94 (.i num) (.n 96 (Xn n) (.w (.k .z)))) [0] [b1] (io (.i (((n.routines.map XB).length:Nat):Int)) (.i (((UA (n.routines.map XB)).length:Nat):Int)) (li (by rw [C7])) (Z1 2 99 (.b (decide (num>=(((n.routines.map XB).length:Nat):Int)))) (ie ?_)))
   exact wk [0] (fq (Zr (decide (num>=(((n.routines.map XB).length:Nat):Int))) WI fl))
  refine ac ((decide (num<0))||(decide (num>=(((n.routines.map XB).length:Nat):Int)))) (p:=(num<0)∨(num>=(((n.routines.map XB).length:Nat):Int))) (Yc dq dq) (fun T6=>?_) (fun T6=>?_)
  ·refine ar (ir 2 [(8,.i (-1)),(9,.b false)] (ie ?_))
   have hF:=Z4m (n:=n) (ts:=ts) K4 T6
   exact Zc (r2 [] [.i (-1),.b false] ⟨(-1),rfl,rfl,(CO hF)⟩ (Zg.tup (.cons (lr _) (.cons (lb (CN hF)) .nil))))
  refine ak (aD 14 (W3 11 14 [0,1,2] [(1,.i op),(2,.i num),(3,Z0 ts),(4,.p b1 0),(101,Xn n),(102,.i num)] [0] [b1] ?_))
  obtain ⟨x3,YS⟩:=Zt (xs:=(n.routines.map XB)) (j:=num.toNat) om
  obtain ⟨r,hr,hrx⟩:=Ep YS
  have hrp:=hn.params_at hr
  have hpx:x3.pms=r.params:=by rw [hrx];rfl
  have hpl:x3.pms.length<=3:=by rw [hpx];exact hrp
  refine dx 3 (Zn none num 3 (Bn YS)) (Y5 5 10 [4,5,6,7,8] (.n 105 (Z0 x3.pms) (.n 107 (Xn n) (.n 108 (.i num) .r))) [0] [b1] (dx 9 (Zn none num 3 (Bn YS)) (ZZ 0 4 [10,11,12,13] (.n 10 (Z0 x3.pms) (.n 11 (.i x3.res) .r)) (de (aq (ar (Z1 2 113 (.b (op==9)) (ie (ac (op==9) Zh (fun QB=>?_) (fun QB=>?_))))))))))
  ·refine ar (ir 3 [(114,.i x3.res),(115,Z0 ts),(116,Z0 x3.pms)] (ZA [] (CP ts x3.pms) (ir 2 [(8,.i x3.res),(9,.b (decide (ts=x3.pms)))] (ie ?_))))
   have hF:=sf9 (ts:=ts) QB T6 YS
   exact Zc (r2 [] [.i x3.res,.b (decide (ts=x3.pms))] ⟨x3.res,rfl,rfl,(Ab hF)⟩ (Zg.tup (.cons (lr _) (.cons (lb (Aa hF (by simp [*];try omega))) .nil))))
  refine ak (ar (Z1 1 118 (Z0 x3.pms) (iw (Yd x3.pms) (ia (((x3.pms.length:Int)-1)) (((x3.pms.length:Int))-(1)) (Z1 1 16 (.i ((x3.pms.length:Int)-1)) (ie (aq (ar (Z1 2 122 (.b (decide (((x3.pms.length:Int)-1)<0))) (ie (ZQ (((x3.pms.length:Int)-1)<0) (fun AL=>?_) (fun AL=>?_))))))))))))
  ·refine ar (ir 2 [(8,.i (-1)),(9,.b false)] (ie ?_))
   have hF:=Z4j (ts:=ts) (K4.resolve_left QB) T6 YS AL
   exact Zc (r2 [] [.i (-1),.b false] ⟨(-1),rfl,rfl,(CO hF)⟩ (Zg.tup (.cons (lr _) (.cons (lb (CN hF)) .nil))))
  refine ak (aD 9 (Y5 5 9 [0,1,2,3] (.n 124 (Zd n.decls) (.n 125 (Z0 x3.pms) (.n 126 (.i ((x3.pms.length:Int)-1)) .r))) [0] [b1] ?_))
  obtain ⟨x4,Ua⟩:=Zt (xs:=x3.pms) (j:=((x3.pms.length:Int)-1).toNat) om
  refine dx 4 (Zn none ((x3.pms.length:Int)-1) 1 (Y3 Ua)) (ZZ 2 4 [5,6] (.n 128 (.i x4) (.n 129 (.i x3.res) .r)) (Z9 7 (Yt 7 [] [] [] (Z0d n.decls x4 x3.res) (ZX 0 1 [8] 17 (.i (WM n.decls x4 x3.res)) (de (ar (XS 10 [(131,.i (WM n.decls x4 x3.res)),(140,.b ((decide ((WM n.decls x4 x3.res)>=0))&&(decide (ts=(x3.pms.take (((x3.pms.length:Int)-1).toNat))))))] [.obj b1 [Zd n.decls,Xn n]] ?_ (fun hj6=>?_))))))))
  ·refine ir 2 [(8,.i (WM n.decls x4 x3.res)),(9,.b ((decide ((WM n.decls x4 x3.res)>=0))&&(decide (ts=(x3.pms.take (((x3.pms.length:Int)-1).toNat))))))] (ie ?_)
   have hF:=Z4i (ts:=ts) (K4.resolve_left QB) T6 YS AL Ua
   exact Zc (r2 [] [.i (WM n.decls x4 x3.res),.b ((decide ((WM n.decls x4 x3.res)>=0))&&(decide (ts=(x3.pms.take (((x3.pms.length:Int)-1).toNat)))))] ⟨WM n.decls x4 x3.res,rfl,rfl,(Ab hF)⟩ (Zg.tup (.cons (lr _) (.cons (lb (Aa hF (by rw [Xo];simp))) .nil))))
  refine ir 4 [(3,Z0 ts),(10,Z0 x3.pms),(16,.i ((x3.pms.length:Int)-1)),(131,.i (WM n.decls x4 x3.res)),(134,.b (decide ((WM n.decls x4 x3.res)>=0)))] (ib (b:=(decide ((WM n.decls x4 x3.res)>=0))) 134 (fun WJ=>?_) (fun WJ=>?_))
  ·have Jf:(WM n.decls x4 x3.res)>=0:=(dq).1 WJ
   refine Z5 3 (.n 135 (Z0 ts) (.n 136 (Z0 x3.pms) (.n 137 (.i ((x3.pms.length:Int)-1)) (.k (.d (.d (.d (.k .z)))))))) (Zp (Kb (es:=Z8 x3.pms) (hv:=none) (l:=0) (m:=((x3.pms.length:Int)-1)) (sz:=1) (es':=Z8 (x3.pms.take (((x3.pms.length:Int)-1).toNat))) kr om (by simp<;>omega) (by simp<;>omega) (YD _) (by first|(simp only [VJ,Vj,Ks,J2];done)|(simp only [VJ,Vj,Ks,J2];rfl)|(simp [Ks,J2];done))) (ZA [] (CP ts (x3.pms.take (((x3.pms.length:Int)-1).toNat))) (Z1 1 140 (.b (decide (ts=(x3.pms.take (((x3.pms.length:Int)-1).toNat))))) ?_)))
   exact YG (wk [0] (fr (Zr (decide (ts=(x3.pms.take (((x3.pms.length:Int)-1).toNat)))) WJ fl))) hj6
  have QE:¬((WM n.decls x4 x3.res)>=0):=ZH dq WJ
  refine Z5 6 (.n 140 (.b false) (.d (.d (.d (.d (.k .z)))))) ?_
  exact YG (wk [0] (fr (Zr false WJ fl))) hj6
 refine ar (ir 2 [(8,.i (-1)),(9,.b false)] (ie ?_))
 have hF:=sfd (n:=n) (num:=num) (ts:=ts) Ze Xk Xl Vs VF K4
 exact Zc (r2 [] [.i (-1),.b false] ⟨(-1),rfl,rfl,(CO hF)⟩ (Zg.tup (.cons (lr _) (.cons (lb (CN hF)) .nil))))
theorem Lp (n:Zx) (us:List Int) (ks:List Z6) (ms:List (List Int)) (hn:Xf n:=by exact ob) (hnn:∀t∈us,0<=t) (hk:0<ks.length:=by exact ob) (hl:ks.length=ms.length:=by exact ob) (hb:us.length+3+4*YW ks<=1000000000:=by exact ob) (hr:TP ks:=by exact ob) (hm3:∀m∈ms,m.length<=3) (hmn:∀m∈ms,∀f∈m,0<=f) (ih:∀(b:Z6) (us:List Int),(b.sz<=YW ks)->(us.length+4*b.sz<=1000000000)->(b.rng)->(∀t∈us,0<=t)->Zj Tryz.prog 56 [.agg [Zd n.decls,Xn n],Z0 us,Zq b] [] (fun r h=>r=.i (YR n us b)/\h=[])):Zj Tryz.prog 130 [.agg [Zd n.decls,Xn n],Z0 us,Yx ks,WD ms] [] (fun r h=>r=.tup [.i (W5 n us ks ms true 0),.b (decide (0<=W5 n us ks ms true 0))]/\h=[]):=by
 have hkl:=I2 ks
 refine ZL 45 Tryz.func130 (ar (iA [Zd n.decls,Xn n] ?_))
 intro b1
 refine ir 2 [(1,Z0 us),(2,Yx ks),(3,WD ms),(4,.p b1 0)] (ie (ar (Z1 1 10 (.i (-1)) (ie (aq (ar (Z1 1 14 (Yx ks) (iw (VX ks) (Z1 1 16 (.i 0) (ie (ab 0 (al (fun m F h=>∃(k:Nat) (t:Int),(k<=ks.length)/\(0<k->0<=t)/\(W5 n us (ks.drop k) (ms.drop k) (decide (k=0)) t=W5 n us ks ms true 0)/\F=[(1,Z0 us),(3,WD ms),(4,.p b1 0),(10,.i t),(14,Yx ks),(15,.i ks.length),(16,.i k)]/\h=[.obj b1 [Zd n.decls,Xn n]]/\m=ks.length-k) _ _ _ ⟨0,(-1),ob,ob,(Z1f hk (-1)),rfl,rfl,rfl⟩ (wk [0] (fq (fw (Yf fl)))) ?_))))))))))))
 rintro m F h ⟨k,t,Ym,Zo,Zz,rfl,rfl,rfl⟩
 refine ar (Z1 1 17 (.b (decide ((k:Int)<(ks.length:Int)))) (ie (aq (ZQ ((k:Int)<(ks.length:Int)) (fun Ze=>?_) (fun Ze=>?_)))))
 ·refine ak (aq (ab 1 (ar (Z1 1 18 (.i k) ?_))))
  obtain ⟨x1,Z3⟩:=Zt (xs:=ks) (j:=k) om
  have ZD:=I3 Z3
  have hbr:=I1 hr Z3
  refine Zp (Zn none (k:Int) 2 (Uz Z3)) (Z1 1 20 (Zq x1) (iA [nl,.i 0] ?_))
  intro b2
  refine Z1 1 11 (.i k) (ZF 0 b2 (Y9 x1) (ie (aD 11 (Y5 7 11 [0,1,2,3] (.n 21 (.agg [Zd n.decls,Xn n]) (.n 22 (Z0 us) (.n 23 (WD ms) (.n 24 (.i k) .r)))) [1] [b1] ?_))))
  obtain ⟨x2,Zy⟩:=Zt (xs:=ms) (j:=k) om
  have hxl:=hm3 x2 (Y6 Zy)
  have hxn:=hmn x2 (Y6 Zy)
  refine dx 4 (Zn none (k:Int) 1 (Dq Zy)) (Y5 4 6 [5,8] (.n 26 (Z0 x2) (.n 29 (Zq x1) .r)) [0] [b2] (Z9 6 (dL 6 [0,1] [b2,b1] (W7 [us,x2]) 2 1 ?_)))
  intro v1
  refine ZZ 3 3 [] (.n 27 (WD [us,x2]) (.p .r)) (Z9 7 (dc 7 [] [0,1] [b2,b1] (Z4q [us,x2] (hf:=(by simp only [CT,Yu];omega))) ?_))
  rintro _ _ ⟨v2,rfl,rfl⟩
  refine ZZ 2 2 [] (.n 28 (Z0 ([us,x2].flatten)) (.p .r)) (Z9 9 (Yt 9 [] [] [] (ih x1 ([us,x2].flatten) ob (by simp only [CT,Yu];omega) ob (by rw [CT];exact M0 hnn hxn)) (ZX 0 1 [10] 13 (.i (YR n ([us,x2].flatten) x1)) (de (aq (ar (Xm [(1,Z0 us),(3,WD ms),(4,.p b1 0),(13,.i (YR n ([us,x2].flatten) x1)),(14,Yx ks),(15,.i ks.length),(16,.i k),(41,.b ((decide ((YR n ([us,x2].flatten) x1)<0))||((decide ((k:Int)>0))&&((YR n ([us,x2].flatten) x1) != t))))] [.tail v2 1,.tail v1 1,.obj b2 (Y9 x1),.obj b1 [Zd n.decls,Xn n]] ?_ ?_)))))))
  ·refine ir 3 [(1,Z0 us),(3,WD ms),(4,.p b1 0),(10,.i t),(11,.i k),(13,.i (YR n ([us,x2].flatten) x1)),(14,Yx ks),(15,.i ks.length),(16,.i k),(33,.b (decide ((YR n ([us,x2].flatten) x1)<0)))] (ib (b:=(decide ((YR n ([us,x2].flatten) x1)<0))) 33 (fun Zb=>?_) (fun Zb=>?_))
   ·have ZO:(YR n ([us,x2].flatten) x1)<0:=(dq).1 Zb
    refine Z5 8 (.n 41 (.b true) (.d (.k (.k (.k (.d (.d (.w .z)))))))) (ie ?_)
    exact ZJ 4 (fq (fw (fr (Zr true Zb fl))))
   have Y0:¬((YR n ([us,x2].flatten) x1)<0):=ZH dq Zb
   refine Z5 3 (.n 36 (.b (decide ((k:Int)>0))) (.w (.k (.d (.w .z))))) (ib (b:=(decide ((k:Int)>0))) 36 (fun Zv=>?_) (fun Zv=>?_))
   ·have Yz:(k:Int)>0:=(dq).1 Zv
    refine Z5 5 (.n 41 (.b ((YR n ([us,x2].flatten) x1) != t)) (.k (.d .r))) (ie ?_)
    exact ZJ 4 (fq (fw (fr (Zr ((YR n ([us,x2].flatten) x1) != t) (And.intro Zb Zv) fl))))
   have YM:¬((k:Int)>0):=ZH dq Zv
   refine Z5 5 (.n 41 (.b false) (.k (.d .r))) (ie ?_)
   exact ZJ 4 (fq (fw (fr (Zr false (And.intro Zb Zv) fl))))
  refine ac ((decide ((YR n ([us,x2].flatten) x1)<0))||((decide ((k:Int)>0))&&((YR n ([us,x2].flatten) x1) != t))) (p:=((YR n ([us,x2].flatten) x1)<0)∨(((k:Int)>0)/\((YR n ([us,x2].flatten) x1)≠t))) (Yc dq (YE dq Yg)) (fun Zm=>?_) (fun Zm=>?_)
  ·refine ar (ir 2 [(8,.i (-1)),(9,.b false)] (ie ?_))
   have hK:W5 n us ks ms true 0=-1:=by rw [<-Zz];rw [CT] at Zm;exact LI Z3 Zy Zm
   exact Zc (r2 [] [.i (-1),.b false] ⟨rfl,rfl⟩ (Zg.tup (.cons (li (by rw [hK])) (.cons (lb (by rw [hK];rfl)) .nil))))
  refine ak (az (ir 2 [(1,Z0 us),(3,WD ms),(4,.p b1 0),(10,.i (YR n ([us,x2].flatten) x1)),(14,Yx ks),(15,.i ks.length),(16,.i k)] (ie (az (ZM k (Z5 1 (.n 16 (.i (k+1:Nat)) (.p (.w (.k (.k .z))))) (ie ?_)))))))
  exact ZT ⟨k+1,YR n ([us,x2].flatten) x1,ob,(by intro _;omega),(by rw [CT] at Zm ⊢;rw [<-Zz];exact (LK Z3 Zy Zm).symm),rfl,rfl,rfl⟩ (wk [3] (fq (fw (ZW k fl))))
 refine ax 0 (ar (ir 3 [(8,.i t),(9,.b true)] (ie ?_)))
 have hK:W5 n us ks ms true 0=t:=by rw [<-Zz];exact LJ om
 exact Zc (r2 [] [.i t,.b true] ⟨rfl,rfl⟩ (Zg.tup (.cons (li (by rw [hK])) (.cons (lb (by rw [hK];exact (decide_eq_true (Zo om)).symm)) .nil))))
theorem Z0p (n:Zx) (us:List Int) (s:Z4) (hn:Xf n) (hty:B9 n) (hnn:∀t∈us,0<=t) (hb:us.length+4*s.sz<=1000000000) (hr:s.rng) (ih:∀(b:Z6) (us:List Int),(b.sz<s.sz)->(us.length+4*b.sz<=1000000000)->(b.rng)->(∀t∈us,0<=t)->Zj Tryz.prog 56 [.agg [Zd n.decls,Xn n],Z0 us,Zq b] [] (fun r h=>r=.i (YR n us b)/\h=[])):Zj Tryz.prog 93 [.agg [Zd n.decls,Xn n],Z0 us,Y2 s] [] (fun r h=>∃(t:Int),r=.tup [.i t,.b (decide (0<=ZK n us s))]/\h=[]/\(¬YB s.op=true->0<=ZK n us s->t=ZK n us s)):=by
 have Xu:=hn.decls
 have hkz:=Ta s
 have haz:=Q5 s
 have hse:=s.sz_eq
 rw [s.rng_eq] at hr
 obtain ⟨hnum,hkr⟩:=hr
 refine ZL 233 Tryz.func93 (ar (iA [Zd n.decls,Xn n] ?_))
 intro b1
 refine iA (Ye s) ?_
 intro b2
 refine ir 2 [(1,Z0 us),(3,.p b1 0),(5,.p b2 0)] (ie (ar (Yl 2 16 (Z0 s.args) [0] [b2] (iw (Yd s.args) (iM 0 s.args.length ?_)))))
 intro v1
 refine Z1 1 8 (Z7 [] v1) (ie (aq (ar (Yl 2 20 (Z0 s.args) [1] [b2] (iw (Yd s.args) (Z1 1 22 (.i 0) (ie (ab 0 (al (fun m F h=>∃(k:Nat) (ts:List Int) (v:Value),(k<=s.args.length)/\(ts.length=k)/\(W1 us (s.args.take k)=some ts)/\F=[(1,Z0 us),(3,.p b1 0),(5,.p b2 0),(8,Z7 ts v),(20,Z0 s.args),(21,.i s.args.length),(22,.i k)]/\h=[.obj b2 (Ye s),.obj b1 [Zd n.decls,Xn n],.tail v 1]/\m=s.args.length-k) _ _ _ ⟨0,[],v1,ob,ob,ob,rfl,rfl,rfl⟩ (wk [1,1,0] (fq (fw (Yf fl)))) ?_)))))))))
 rintro m F h ⟨k,ts,v,Ym,Zo,Zz,rfl,rfl,rfl⟩
 refine ar (Z1 1 23 (.b (decide ((k:Int)<(s.args.length:Int)))) (ie (aq (ZQ ((k:Int)<(s.args.length:Int)) (fun Ze=>?_) (fun Ze=>?_)))))
 ·refine ak (aq (ab 1 (ar ?_)))
  obtain ⟨x1,Z3⟩:=Zt (xs:=s.args) (j:=k) om
  refine Zp (Zn none (k:Int) 1 (Y3 Z3)) (Z1 2 10 (.i x1) (ie (aq (ar (Xm [(1,Z0 us),(3,.p b1 0),(5,.p b2 0),(8,Z7 ts v),(10,.i x1),(20,Z0 s.args),(21,.i s.args.length),(22,.i k),(33,.b ((decide (x1<0))||(decide (x1>=(us.length:Int)))))] [.obj b2 (Ye s),.obj b1 [Zd n.decls,Xn n],.tail v 1] ?_ ?_)))))
  ·refine ir 3 [(1,Z0 us),(3,.p b1 0),(5,.p b2 0),(8,Z7 ts v),(10,.i x1),(20,Z0 s.args),(21,.i s.args.length),(22,.i k),(28,.b (decide (x1<0)))] (ib (b:=(decide (x1<0))) 28 (fun Zb=>?_) (fun Zb=>?_))
   ·have ZO:x1<0:=(dq).1 Zb
    refine Z5 5 (.n 33 (.b true) (.d (.w (.w .z)))) (ie ?_)
    exact ZJ 3 (fq (fq (Zr true Zb fl)))
   have Y0:¬(x1<0):=ZH dq Zb
   refine Z5 2 (.n 29 (.i x1) (.n 30 (Z0 us) (.w (.w (.k .z))))) (iw (Yd us) (Z1 2 33 (.b (decide (x1>=(us.length:Int)))) (ie ?_)))
   exact ZJ 3 (fq (fq (Zr (decide (x1>=(us.length:Int))) Zb fl)))
  refine ac ((decide (x1<0))||(decide (x1>=(us.length:Int)))) (p:=(x1<0)∨(x1>=(us.length:Int))) (Yc dq dq) (fun Zm=>?_) (fun Zm=>?_)
  ·refine ar (ir 2 [(6,.i (-1)),(7,.b false)] (ie ?_))
   have hS:ZK n us s=-1:=Z6k (HK Z3 (Q7 om))
   exact Zc (r2 [] [.i (-1),.b false] ⟨(-1),rfl,rfl,(by intro _ h;rw [hS] at h;omega)⟩ (Zg.tup (.cons (lr _) (.cons (lb (by rw [hS];rfl)) .nil))))
  refine ak (az (ir 3 [(1,Z0 us),(3,.p b1 0),(5,.p b2 0),(20,Z0 s.args),(21,.i s.args.length),(22,.i k),(34,Z7 ts v),(35,Z0 us),(36,.i x1)] ?_))
  obtain ⟨x2,Zy⟩:=Zt (xs:=us) (j:=x1.toNat) om
  refine Zp (Zn none x1 1 (Y3 Zy)) (Z1 1 38 (.i x2) (iL (Z8 [x2]) 1 1 ?_))
  intro v2
  refine Z5 0 (.n 39 (Z0 [x2]) (.p .r)) (ip 3 (Z8 (ts++[x2])) (Z8 ts) (Z8 [x2]) v none 1 (YD _) (YD _) (XZ _) (by simp<;>omega) (by simp [XY,Z8]) ?_)
  intro v3
  refine Z1 1 8 (Z7 (ts++[x2]) v3) (ie (az (ZM k (Z5 1 (.n 22 (.i (k+1:Nat)) (.p (.k (.p (.d (.d (.p (.w (.k .z))))))))) (ie ?_)))))
  exact ZT ⟨k+1,(ts++[x2]),v3,ob,ob,(OA Zz Z3 (by rw [Ty om Zy])),rfl,rfl,rfl⟩ (wk [2,2,0] (fq (fw (ZW k fl))))
 refine ax 0 (aq (ar (Xm [(1,Z0 us),(3,.p b1 0),(5,.p b2 0),(8,Z7 ts v),(70,.b ((s.into != 0)&&((s.op != 6)||((decide (s.into<1))||((decide (s.into>(us.length:Int)))||((gI us (s.into-1))==0))))))] [.obj b2 (Ye s),.obj b1 [Zd n.decls,Xn n],.tail v 1] ?_ ?_)))
 ·refine iR 4 [(1,Z0 us),(3,.p b1 0),(5,.p b2 0),(8,Z7 ts v),(45,.b (s.into != 0))] [0] [b2] (ib (b:=(s.into != 0)) 45 (fun Zv=>?_) (fun Zv=>?_))
  ·have Yz:s.into≠0:=(Yg).1 Zv
   refine Y1 4 (.n 49 (.b (s.op != 6)) (.w (.k .z))) [0] [b2] (ib (b:=(s.op != 6)) 49 (fun YC=>?_) (fun YC=>?_))
   ·have YM:s.op≠6:=(Yg).1 YC
    refine Z5 21 (.n 70 (.b true) (.k (.d .r))) (ie ?_)
    exact ZJ 3 (fq (Zr true (And.intro Zv YC) fl))
   have YX:¬(s.op≠6):=ZH Yg YC
   refine Y1 5 (.n 54 (.b (decide (s.into<1))) (.d (.d .r))) [0] [b2] (ib (b:=(decide (s.into<1))) 54 (fun Xh=>?_) (fun Xh=>?_))
   ·have Xw:s.into<1:=(dq).1 Xh
    refine Z5 16 (.n 70 (.b true) (.k (.d .r))) (ie ?_)
    exact ZJ 3 (fq (Zr true (And.intro Zv (And.intro YC Xh)) fl))
   have Wh:¬(s.into<1):=ZH dq Xh
   refine Y1 3 (.n 56 (.i s.into) (.n 57 (Z0 us) (.k (.d .r)))) [0] [b2] (iw (Yd us) (Z1 3 61 (.b (decide (s.into>(us.length:Int)))) (ib (b:=(decide (s.into>(us.length:Int)))) 61 (fun W9=>?_) (fun W9=>?_))))
   ·have WC:s.into>(us.length:Int):=(dq).1 W9
    refine Z5 9 (.n 70 (.b true) (.k (.d .r))) (ie ?_)
    exact ZJ 3 (fq (Zr true (And.intro Zv (And.intro YC (And.intro Xh W9))) fl))
   have WP:¬(s.into>(us.length:Int)):=ZH dq W9
   refine Y1 3 (.n 62 (Z0 us) (.n 64 (.i s.into) (.k (.d .r)))) [0] [b2] (ia ((s.into-1)) ((s.into)-(1)) (Zp (Ae (es:=Z8 us) (hv:=none) (j:=(s.into-1)) (sz:=1) (y:=.i (gI us (s.into-1))) kr om (Y3 (IQ om)) rfl) (Z1 4 70 (.b ((gI us (s.into-1))==0)) (ie ?_))))
   exact ZJ 3 (fq (Zr ((gI us (s.into-1))==0) (And.intro Zv (And.intro YC (And.intro Xh W9))) fl))
  have U9:¬(s.into≠0):=ZH Yg Zv
  refine Z5 25 (.n 70 (.b false) (.d (.w .z))) (ie ?_)
  exact ZJ 3 (fq (Zr false Zv fl))
 refine ac ((s.into != 0)&&((s.op != 6)||((decide (s.into<1))||((decide (s.into>(us.length:Int)))||((gI us (s.into-1))==0))))) (p:=(s.into≠0)/\((s.op≠6)∨((s.into<1)∨((s.into>(us.length:Int))∨((gI us (s.into-1))=0))))) (YE Yg (Yc Yg (Yc dq (Yc dq Zh)))) (fun ZI=>?_) (fun ZI=>?_)
 ·refine ar (ir 2 [(6,.i (-1)),(7,.b false)] (ie ?_))
  have hS:ZK n us s=-1:=Z6l (Jg.1 ZI)
  exact Zc (r2 [] [.i (-1),.b false] ⟨(-1),rfl,rfl,(by intro _ h;rw [hS] at h;omega)⟩ (Zg.tup (.cons (lr _) (.cons (lb (by rw [hS];rfl)) .nil))))
 refine ak (aq (ab 2 (ar (iR 2 [(1,Z0 us),(3,.p b1 0),(5,.p b2 0),(8,Z7 ts v),(73,.i s.op)] [0] [b2] (ZA [] (Lo s.op) (Z1 1 71 (.b (YB s.op)) (ie (ac (YB s.op) Iff.rfl (fun Yh=>?_) (fun Yh=>?_)))))))))
 ·refine ar (Z1 1 75 (Z7 ts v) (iw (Yd ts) (XS 9 [(3,.p b1 0),(5,.p b2 0),(8,Z7 ts v),(83,.b (((ts.length:Int)==1)&&((gI ts 0) != 0)))] [.obj b2 (Ye s),.obj b1 [Zd n.decls,Xn n],.tail v 1] ?_ (fun hj1=>?_))))
  ·refine XS 14 [(3,.p b1 0),(5,.p b2 0),(8,Z7 ts v),(88,.b ((((ts.length:Int)==1)&&((gI ts 0) != 0))&&(s.num==0)))] [.obj b2 (Ye s),.obj b1 [Zd n.decls,Xn n],.tail v 1] ?_ (fun hj2=>?_)
   ·refine XS 20 [(3,.p b1 0),(5,.p b2 0),(8,Z7 ts v),(94,.b (((((ts.length:Int)==1)&&((gI ts 0) != 0))&&(s.num==0))&&((s.kids.length:Int)==0)))] [.obj b2 (Ye s),.obj b1 [Zd n.decls,Xn n],.tail v 1] ?_ (fun hj3=>?_)
    ·refine ir 1 [(3,.p b1 0),(5,.p b2 0),(8,Z7 ts v),(11,.b (((((ts.length:Int)==1)&&((gI ts 0) != 0))&&(s.num==0))&&((s.kids.length:Int)==0)))] (ie (aq (ar (Xm [(3,.p b1 0),(8,Z7 ts v),(11,.b (((((ts.length:Int)==1)&&((gI ts 0) != 0))&&(s.num==0))&&((s.kids.length:Int)==0))),(105,.b ((((((ts.length:Int)==1)&&((gI ts 0) != 0))&&(s.num==0))&&((s.kids.length:Int)==0))&&((s.op==16)||(s.op==17))))] [.obj b2 (Ye s),.obj b1 [Zd n.decls,Xn n],.tail v 1] ?_ ?_))))
     ·refine ir 2 [(3,.p b1 0),(5,.p b2 0),(8,Z7 ts v),(11,.b (((((ts.length:Int)==1)&&((gI ts 0) != 0))&&(s.num==0))&&((s.kids.length:Int)==0))),(96,.b (((((ts.length:Int)==1)&&((gI ts 0) != 0))&&(s.num==0))&&((s.kids.length:Int)==0)))] (ib (b:=(((((ts.length:Int)==1)&&((gI ts 0) != 0))&&(s.num==0))&&((s.kids.length:Int)==0))) 96 (fun WB=>?_) (fun WB=>?_))
      ·have UD:((((ts.length:Int)=1)/\((gI ts 0)≠0))/\(s.num=0))/\((s.kids.length:Int)=0):=((YE (YE (YE Zh Yg) Zh) Zh)).1 WB
       refine Y1 4 (.n 100 (.b (s.op==16)) (.w (.k .z))) [0] [b2] (ib (b:=(s.op==16)) 100 (fun WV=>?_) (fun WV=>?_))
       ·have Ur:s.op=16:=(Zh).1 WV
        refine Z5 5 (.n 105 (.b true) (.k (.d .r))) (ie ?_)
        exact ZJ 3 (fw (fr (Zr true (And.intro WB WV) fl)))
       have Tq:¬(s.op=16):=ZH Zh WV
       refine Y1 5 (.n 105 (.b (s.op==17)) (.k (.d .r))) [0] [b2] (ie ?_)
       exact ZJ 3 (fw (fr (Zr (s.op==17) (And.intro WB WV) fl)))
      have T7:¬(((((ts.length:Int)=1)/\((gI ts 0)≠0))/\(s.num=0))/\((s.kids.length:Int)=0)):=ZH (YE (YE (YE Zh Yg) Zh) Zh) WB
      refine Z5 9 (.n 105 (.b false) (.d (.k (.d (.k (.k .z)))))) (ie ?_)
      exact ZJ 3 (fw (fr (Zr false WB fl)))
     refine ac ((((((ts.length:Int)==1)&&((gI ts 0) != 0))&&(s.num==0))&&((s.kids.length:Int)==0))&&((s.op==16)||(s.op==17))) (p:=(((((ts.length:Int)=1)/\((gI ts 0)≠0))/\(s.num=0))/\((s.kids.length:Int)=0))/\((s.op=16)∨(s.op=17))) (YE (YE (YE (YE Zh Yg) Zh) Zh) (Yc Zh Zh)) (fun Xk=>?_) (fun Xk=>?_)
     ·refine aD 12 (W3 9 12 [0,1,2] [(108,Zd n.decls),(109,Z7 ts v)] [1] [b1] (dx 3 (Ae (es:=Z8 ts) (hv:=some v) (j:=0) (sz:=1) (y:=.i (gI ts 0)) kr om (Y3 (DD om)) rfl) (ZX 7 8 [4] 111 (.i (gI ts 0)) (dK (fun F h=>F=[(13,.b (X0 n.decls (gI ts 0)))]/\h=[.obj b2 (Ye s),.obj b1 [Zd n.decls,Xn n],.tail v 1]) ?_ ?_))))
      ·refine Vf 5 9 ?_ ?_
       ·refine Yt 5 [] [] [] (DR n.decls (gI ts 0)) (Xd 3 6 [6,7,8] [(113,Uh (Wq n.decls (gI ts 0))),(114,.b (X0 n.decls (gI ts 0)))] (Z9 9 (dA 9 [] [] [.i 0,.i 0,nl] ?_)))
        intro b3
        refine Z9 10 (YF 10 0 [] [] b3 (Wr (Wq n.decls (gI ts 0))) (Xd 0 1 [11] [(13,.b (X0 n.decls (gI ts 0)))] (de ?_)))
        exact ZU ⟨rfl,rfl⟩ (wk [1,1,1] fl)
       refine dA 9 [1] [b1] [.i 0,.i 0,nl] ?_
       intro b4
       refine Z9 5 (Yt 5 [] [] [] (DR n.decls (gI ts 0)) (Xd 2 5 [6,7,8] [(12,.p b4 0),(113,Uh (Wq n.decls (gI ts 0))),(114,.b (X0 n.decls (gI ts 0)))] (Z9 10 (YF 10 0 [] [] b4 (Wr (Wq n.decls (gI ts 0))) (Xd 0 1 [11] [(13,.b (X0 n.decls (gI ts 0)))] (de ?_))))))
       exact ZU ⟨rfl,rfl⟩ (wk [1,1,1] fl)
      rintro F h ⟨rfl,rfl⟩
      refine az (ir 3 [(11,.b (!X0 n.decls (gI ts 0)))] (ie (ar (ir 3 [(6,.i (-1)),(7,.b (!X0 n.decls (gI ts 0)))] (ie ?_)))))
      have hS0:=Ag (n:=n) hnn (JJ Zz om) (fun q=>ZI (Jg.2 q))
      exact Zc (r2 [] [.i (-1),.b (!X0 n.decls (gI ts 0))] ⟨(-1),rfl,rfl,(fun q=>absurd Yh q)⟩ (Zg.tup (.cons (lr _) (.cons (lb (Z61 hS0 Yh Xk)) .nil))))
     refine ak (ar (ir 3 [(6,.i (-1)),(7,.b (((((ts.length:Int)==1)&&((gI ts 0) != 0))&&(s.num==0))&&((s.kids.length:Int)==0)))] (ie ?_)))
     have hS0:=Ag (n:=n) hnn (JJ Zz om) (fun q=>ZI (Jg.2 q))
     exact Zc (r2 [] [.i (-1),.b (((((ts.length:Int)==1)&&((gI ts 0) != 0))&&(s.num==0))&&((s.kids.length:Int)==0))] ⟨(-1),rfl,rfl,(fun q=>absurd Yh q)⟩ (Zg.tup (.cons (lr _) (.cons (lb (Z62 hS0 Yh Xk)) .nil))))
    refine ir 1 [(3,.p b1 0),(5,.p b2 0),(8,Z7 ts v),(89,.b ((((ts.length:Int)==1)&&((gI ts 0) != 0))&&(s.num==0)))] (ib (b:=((((ts.length:Int)==1)&&((gI ts 0) != 0))&&(s.num==0))) 89 (fun WI=>?_) (fun WI=>?_))
    ·have QC:(((ts.length:Int)=1)/\((gI ts 0)≠0))/\(s.num=0):=((YE (YE Zh Yg) Zh)).1 WI
     refine Y1 2 (.n 91 (Yx s.kids) (.w .z)) [0] [b2] (iw (VX s.kids) (Z1 2 94 (.b ((s.kids.length:Int)==0)) ?_))
     exact YG (ZJ 3 (fw (fr (Zr ((s.kids.length:Int)==0) WI fl)))) hj3
    have QD:¬((((ts.length:Int)=1)/\((gI ts 0)≠0))/\(s.num=0)):=ZH (YE (YE Zh Yg) Zh) WI
    refine Z5 5 (.n 94 (.b false) (.d (.k (.k (.k .z))))) ?_
    exact YG (ZJ 3 (fw (fr (Zr false WI fl)))) hj3
   refine ir 1 [(3,.p b1 0),(5,.p b2 0),(8,Z7 ts v),(84,.b (((ts.length:Int)==1)&&((gI ts 0) != 0)))] (ib (b:=(((ts.length:Int)==1)&&((gI ts 0) != 0))) 84 (fun WJ=>?_) (fun WJ=>?_))
   ·have Jf:((ts.length:Int)=1)/\((gI ts 0)≠0):=((YE Zh Yg)).1 WJ
    refine Y1 4 (.n 88 (.b (s.num==0)) (.d (.k (.k (.k .z))))) [0] [b2] ?_
    exact YG (ZJ 3 (fw (fr (Zr (s.num==0) WJ fl)))) hj2
   have QE:¬(((ts.length:Int)=1)/\((gI ts 0)≠0)):=ZH (YE Zh Yg) WJ
   refine Z5 4 (.n 88 (.b false) (.d (.k (.k (.k .z))))) ?_
   exact YG (ZJ 3 (fw (fr (Zr false WJ fl)))) hj2
  refine ir 2 [(3,.p b1 0),(5,.p b2 0),(8,Z7 ts v),(78,.b ((ts.length:Int)==1))] (ib (b:=((ts.length:Int)==1)) 78 (fun TA=>?_) (fun TA=>?_))
  ·have Lh:(ts.length:Int)=1:=(Zh).1 TA
   refine Z5 1 (.n 79 (Z7 ts v) (.w .z)) (Zp (Ae (es:=Z8 ts) (hv:=some v) (j:=0) (sz:=1) (y:=.i (gI ts 0)) kr om (Y3 (DD om)) rfl) (Z1 3 83 (.b ((gI ts 0) != 0)) ?_))
   exact YG (ZJ 3 (fw (fr (Zr ((gI ts 0) != 0) TA fl)))) hj1
  have Li:¬((ts.length:Int)=1):=ZH Zh TA
  refine Z5 5 (.n 83 (.b false) (.d (.k (.k (.k .z))))) ?_
  exact YG (ZJ 3 (fw (fr (Zr false TA fl)))) hj1
 refine ar (Yl 4 118 (.b (s.op==7)) [0] [b2] (ie (ac (s.op==7) Zh (fun Xl=>?_) (fun Xl=>?_))))
 ·refine aq (ar (Z1 1 122 (Z7 ts v) (iw (Yd ts) (XS 9 [(1,Z0 us),(3,.p b1 0),(5,.p b2 0),(130,.b (((ts.length:Int) != 1)||((gI ts 0) != 0)))] [.obj b2 (Ye s),.obj b1 [Zd n.decls,Xn n],.tail v 1] ?_ (fun hj4=>?_)))))
  ·refine XS 14 [(1,Z0 us),(3,.p b1 0),(5,.p b2 0),(135,.b ((((ts.length:Int) != 1)||((gI ts 0) != 0))||(s.num != 0)))] [.obj b2 (Ye s),.obj b1 [Zd n.decls,Xn n],.tail v 1] ?_ (fun hj5=>?_)
   ·refine Xm [(1,Z0 us),(3,.p b1 0),(5,.p b2 0),(141,.b (((((ts.length:Int) != 1)||((gI ts 0) != 0))||(s.num != 0))||((s.kids.length:Int) != 2)))] [.obj b2 (Ye s),.obj b1 [Zd n.decls,Xn n],.tail v 1] ?_ ?_
    ·refine ir 1 [(1,Z0 us),(3,.p b1 0),(5,.p b2 0),(136,.b ((((ts.length:Int) != 1)||((gI ts 0) != 0))||(s.num != 0)))] (ib (b:=((((ts.length:Int) != 1)||((gI ts 0) != 0))||(s.num != 0))) 136 (fun Jc=>?_) (fun Jc=>?_))
     ·have G9:(((ts.length:Int)≠1)∨((gI ts 0)≠0))∨(s.num≠0):=((Yc (Yc Yg Yg) Yg)).1 Jc
      refine Z5 5 (.n 141 (.b true) (.d (.k (.k (.k .z))))) (ie ?_)
      exact ZJ 3 (fw (fr (Zr true Jc fl)))
     have SN:¬((((ts.length:Int)≠1)∨((gI ts 0)≠0))∨(s.num≠0)):=ZH (Yc (Yc Yg Yg) Yg) Jc
     refine Y1 2 (.n 138 (Yx s.kids) (.w .z)) [0] [b2] (iw (VX s.kids) (Z1 2 141 (.b ((s.kids.length:Int) != 2)) (ie ?_)))
     exact ZJ 3 (fw (fr (Zr ((s.kids.length:Int) != 2) Jc fl)))
    refine ac (((((ts.length:Int) != 1)||((gI ts 0) != 0))||(s.num != 0))||((s.kids.length:Int) != 2)) (p:=((((ts.length:Int)≠1)∨((gI ts 0)≠0))∨(s.num≠0))∨((s.kids.length:Int)≠2)) (Yc (Yc (Yc Yg Yg) Yg) Yg) (fun Vs=>?_) (fun Vs=>?_)
    ·refine ar (ir 2 [(6,.i (-1)),(7,.b false)] (ie ?_))
     have hS0:=Ag (n:=n) hnn (JJ Zz om) (fun q=>ZI (Jg.2 q))
     have hS:=Z5x hS0 Yh Xl Vs
     exact Zc (r2 [] [.i (-1),.b false] ⟨(-1),rfl,rfl,(by intro _ h;rw [hS] at h;omega)⟩ (Zg.tup (.cons (lr _) (.cons (lb (by rw [hS];rfl)) .nil))))
    refine ak (aD 10 (W3 6 10 [0,1,2,3] [(142,.agg [Zd n.decls,Xn n]),(143,Z0 us),(145,Yx s.kids)] [1,0] [b1,b2] (Z9 4 (Pu 4 [0,1] [b2,b1] 2 2 ?_))))
    intro v4
    refine ZZ 5 5 [] (.n 146 (WD (List.replicate 2 [])) (.p .r)) (Z9 5 (Yt 5 [] [] [] (Lp n us s.kids (List.replicate 2 []) (hnn:=hnn) (hm3:=(by intro m hm;first|(rw [EJ hm];simp;done)|(obtain ⟨c,_,rfl⟩:=XW.1 hm;exact VK Xu c))) (hmn:=(by intro m hm f hf;first|(rw [EJ hm] at hf;simp at hf;done)|(obtain ⟨c,_,rfl⟩:=XW.1 hm;exact hty.fields c f hf))) (ih:=(fun b us2 h1 h2 h3 h4=>ih b us2 om h2 h3 h4))) (Xd 0 4 [6,7,8,9] [(6,.i (W5 n us s.kids (List.replicate 2 []) true 0)),(7,.b (decide (0<=W5 n us s.kids (List.replicate 2 []) true 0)))] (de ?_))))
    have hS0:=Ag (n:=n) hnn (JJ Zz om) (fun q=>ZI (Jg.2 q))
    have hS:=Z5y hS0 Yh Xl Vs
    exact Zc (r2 [] [.i (W5 n us s.kids (List.replicate 2 []) true 0),.b (decide (0<=W5 n us s.kids (List.replicate 2 []) true 0))] ⟨W5 n us s.kids (List.replicate 2 []) true 0,rfl,rfl,(fun _ _=>hS.symm)⟩ (Zg.tup (.cons (lr _) (.cons (lb (by rw [hS])) .nil))))
   refine ir 1 [(1,Z0 us),(3,.p b1 0),(5,.p b2 0),(131,.b (((ts.length:Int) != 1)||((gI ts 0) != 0)))] (ib (b:=(((ts.length:Int) != 1)||((gI ts 0) != 0))) 131 (fun Jd=>?_) (fun Jd=>?_))
   ·have SO:((ts.length:Int)≠1)∨((gI ts 0)≠0):=((Yc Yg Yg)).1 Jd
    refine Z5 4 (.n 135 (.b true) (.d (.k (.k (.k .z))))) ?_
    exact YG (ZJ 3 (fw (fr (Zr true Jd fl)))) hj5
   have SP:¬(((ts.length:Int)≠1)∨((gI ts 0)≠0)):=ZH (Yc Yg Yg) Jd
   refine Y1 4 (.n 135 (.b (s.num != 0)) (.d (.k (.k (.k .z))))) [0] [b2] ?_
   exact YG (ZJ 3 (fw (fr (Zr (s.num != 0) Jd fl)))) hj5
  refine ir 2 [(1,Z0 us),(3,.p b1 0),(5,.p b2 0),(8,Z7 ts v),(125,.b ((ts.length:Int) != 1))] (ib (b:=((ts.length:Int) != 1)) 125 (fun Cj=>?_) (fun Cj=>?_))
  ·have SQ:(ts.length:Int)≠1:=(Yg).1 Cj
   refine Z5 5 (.n 130 (.b true) (.d (.k (.k (.k .z))))) ?_
   exact YG (ZJ 3 (fw (fr (Zr true Cj fl)))) hj4
  have SR:¬((ts.length:Int)≠1):=ZH Yg Cj
  refine Z5 1 (.n 126 (Z7 ts v) (.w .z)) (Zp (Ae (es:=Z8 ts) (hv:=some v) (j:=0) (sz:=1) (y:=.i (gI ts 0)) kr om (Y3 (DD om)) rfl) (Z1 3 130 (.b ((gI ts 0) != 0)) ?_))
  exact YG (ZJ 3 (fw (fr (Zr ((gI ts 0) != 0) Cj fl)))) hj4
 refine ar (Yl 4 150 (.b (s.op==8)) [0] [b2] (ie (ac (s.op==8) Zh (fun Vl=>?_) (fun Vl=>?_))))
 ·refine ar (ZY 3 154 (.agg [Zd n.decls,Xn n]) 156 (.i s.num) [1,0] [b1,b2] (ZA [] (Z0n _ s.num) (Z1 1 14 (WD ((Zu n.decls s.num).map (Zw n.decls))) (ie (aq (aD 24 (ZX 23 24 [0] 158 (Z7 ts v) (dw 1 (Yd ts) (Ay [(1,Z0 us),(3,.p b1 0),(5,.p b2 0),(14,WD ((Zu n.decls s.num).map (Zw n.decls))),(181,.b (((ts.length:Int) != 1)||(((gI ts 0) != s.num)||((((((Zu n.decls s.num).map (Zw n.decls)).length:Nat):Int)==0)||((s.kids.length:Int) != ((((Zu n.decls s.num).map (Zw n.decls)).length:Nat):Int))))))] [.obj b2 (Ye s),.obj b1 [Zd n.decls,Xn n],.tail v 1] ?_ ?_)))))))))
  ·refine Xd 20 22 [2,3] [(1,Z0 us),(3,.p b1 0),(5,.p b2 0),(8,Z7 ts v),(14,WD ((Zu n.decls s.num).map (Zw n.decls))),(161,.b ((ts.length:Int) != 1))] (db (b:=((ts.length:Int) != 1)) 161 (fun AJ=>?_) (fun AJ=>?_))
   ·have SS:(ts.length:Int)≠1:=(Yg).1 AJ
    refine ZZ 0 20 [4,5,6,7,8,9,10,11,12,13,14,15,16,17,18,19,20,21,22,23] (.n 181 (.b true) (.d (.k (.k (.k (.d (.k .z))))))) (de ?_)
    exact ZJ 3 (fq (Zr true AJ fl))
   have ST:¬((ts.length:Int)≠1):=ZH Yg AJ
   refine ZZ 19 20 [4] (.n 162 (Z7 ts v) (.w (.d (.k .z)))) (dx 5 (Ae (es:=Z8 ts) (hv:=some v) (j:=0) (sz:=1) (y:=.i (gI ts 0)) kr om (Y3 (DD om)) rfl) (Y5 12 18 [6,7,8,9,10,11] (.n 169 (.b ((gI ts 0) != s.num)) .r) [0] [b2] (db (b:=((gI ts 0) != s.num)) 169 (fun Bu=>?_) (fun Bu=>?_))))
   ·have SU:(gI ts 0)≠s.num:=(Yg).1 Bu
    refine ZZ 0 12 [12,13,14,15,16,17,18,19,20,21,22,23] (.n 181 (.b true) (.k (.d .r))) (de ?_)
    exact ZJ 3 (fq (Zr true (And.intro AJ Bu) fl))
   have Ga:¬((gI ts 0)≠s.num):=ZH Yg Bu
   refine ZZ 11 12 [12] (.n 170 (WD ((Zu n.decls s.num).map (Zw n.decls))) (.k (.d .r))) (dn 13 (.i ((((Zu n.decls s.num).map (Zw n.decls)).length:Nat):Int)) (.i (((W7 ((Zu n.decls s.num).map (Zw n.decls))).length:Nat):Int)) (li (by rw [Dr])) (ZX 7 10 [14,15,16] 174 (.b (((((Zu n.decls s.num).map (Zw n.decls)).length:Nat):Int)==0)) (db (b:=(((((Zu n.decls s.num).map (Zw n.decls)).length:Nat):Int)==0)) 174 (fun Ck=>?_) (fun Ck=>?_))))
   ·have Gc:((((Zu n.decls s.num).map (Zw n.decls)).length:Nat):Int)=0:=(Zh).1 Ck
    refine ZZ 0 7 [17,18,19,20,21,22,23] (.n 181 (.b true) (.k (.d .r))) (de ?_)
    exact ZJ 3 (fq (Zr true (And.intro AJ (And.intro Bu Ck)) fl))
   have Lj:¬(((((Zu n.decls s.num).map (Zw n.decls)).length:Nat):Int)=0):=ZH Zh Ck
   refine Y5 5 7 [17,18] (.n 176 (Yx s.kids) (.k (.d .r))) [0] [b2] (dw 19 (VX s.kids) (ZX 3 4 [20] 178 (WD ((Zu n.decls s.num).map (Zw n.decls))) (dn 21 (.i ((((Zu n.decls s.num).map (Zw n.decls)).length:Nat):Int)) (.i (((W7 ((Zu n.decls s.num).map (Zw n.decls))).length:Nat):Int)) (li (by rw [Dr])) (ZX 0 2 [22,23] 181 (.b ((s.kids.length:Int) != ((((Zu n.decls s.num).map (Zw n.decls)).length:Nat):Int))) (de ?_)))))
   exact ZJ 3 (fq (Zr ((s.kids.length:Int) != ((((Zu n.decls s.num).map (Zw n.decls)).length:Nat):Int)) (And.intro AJ (And.intro Bu Ck)) fl))
  refine ac (((ts.length:Int) != 1)||(((gI ts 0) != s.num)||((((((Zu n.decls s.num).map (Zw n.decls)).length:Nat):Int)==0)||((s.kids.length:Int) != ((((Zu n.decls s.num).map (Zw n.decls)).length:Nat):Int))))) (p:=((ts.length:Int)≠1)∨(((gI ts 0)≠s.num)∨((((((Zu n.decls s.num).map (Zw n.decls)).length:Nat):Int)=0)∨((s.kids.length:Int)≠((((Zu n.decls s.num).map (Zw n.decls)).length:Nat):Int))))) (Yc Yg (Yc Yg (Yc Zh Yg))) (fun VF=>?_) (fun VF=>?_)
  ·refine ar (ir 2 [(6,.i (-1)),(7,.b false)] (ie ?_))
   have hS0:=Ag (n:=n) hnn (JJ Zz om) (fun q=>ZI (Jg.2 q))
   have hS:=Z5z hS0 Yh Xl Vl VF
   exact Zc (r2 [] [.i (-1),.b false] ⟨(-1),rfl,rfl,(by intro _ h;rw [hS] at h;omega)⟩ (Zg.tup (.cons (lr _) (.cons (lb (by rw [hS];rfl)) .nil))))
  refine ak (ar (iR 5 [(182,.agg [Zd n.decls,Xn n]),(183,Z0 us),(185,Yx s.kids),(186,WD ((Zu n.decls s.num).map (Zw n.decls)))] [1,0] [b1,b2] (ZA [] (Lp n us s.kids ((Zu n.decls s.num).map (Zw n.decls)) (hnn:=hnn) (hm3:=(by intro m hm;first|(rw [EJ hm];simp;done)|(obtain ⟨c,_,rfl⟩:=XW.1 hm;exact VK Xu c))) (hmn:=(by intro m hm f hf;first|(rw [EJ hm] at hf;simp at hf;done)|(obtain ⟨c,_,rfl⟩:=XW.1 hm;exact hty.fields c f hf))) (ih:=(fun b us2 h1 h2 h3 h4=>ih b us2 om h2 h3 h4))) (ir 4 [(6,.i (W5 n us s.kids ((Zu n.decls s.num).map (Zw n.decls)) true 0)),(7,.b (decide (0<=W5 n us s.kids ((Zu n.decls s.num).map (Zw n.decls)) true 0)))] (ie ?_)))))
  have hS0:=Ag (n:=n) hnn (JJ Zz om) (fun q=>ZI (Jg.2 q))
  have hS:=Z60 hS0 Yh Xl Vl VF
  exact Zc (r2 [] [.i (W5 n us s.kids ((Zu n.decls s.num).map (Zw n.decls)) true 0),.b (decide (0<=W5 n us s.kids ((Zu n.decls s.num).map (Zw n.decls)) true 0))] ⟨W5 n us s.kids ((Zu n.decls s.num).map (Zw n.decls)) true 0,rfl,rfl,(fun _ _=>hS.symm)⟩ (Zg.tup (.cons (lr _) (.cons (lb (by rw [hS])) .nil))))
 refine ar (Yl 2 192 (Yx s.kids) [0] [b2] (iw (VX s.kids) (XS 33 [(3,.p b1 0),(5,.p b2 0),(8,Z7 ts v),(223,.b ((decide ((s.kids.length:Int)>0))||((s.op==10)&&((decide (s.num>=0))&&((decide (s.num<(((n.routines.map XB).length:Nat):Int)))&&(decide (((((Tf n s.num).lnt).length:Nat):Int)>0)))))))] [.obj b2 (Ye s),.obj b1 [Zd n.decls,Xn n],.tail v 1] ?_ (fun hj6=>?_))))
 ·refine ir 1 [(3,.p b1 0),(5,.p b2 0),(8,Z7 ts v),(190,.b ((decide ((s.kids.length:Int)>0))||((s.op==10)&&((decide (s.num>=0))&&((decide (s.num<(((n.routines.map XB).length:Nat):Int)))&&(decide (((((Tf n s.num).lnt).length:Nat):Int)>0)))))))] (ie (ac ((decide ((s.kids.length:Int)>0))||((s.op==10)&&((decide (s.num>=0))&&((decide (s.num<(((n.routines.map XB).length:Nat):Int)))&&(decide (((((Tf n s.num).lnt).length:Nat):Int)>0)))))) (p:=((s.kids.length:Int)>0)∨((s.op=10)/\((s.num>=0)/\((s.num<(((n.routines.map XB).length:Nat):Int))/\(((((Tf n s.num).lnt).length:Nat):Int)>0))))) (Yc dq (YE Zh (YE dq (YE dq dq)))) (fun UC=>?_) (fun UC=>?_)))
  ·refine ar (ir 2 [(6,.i (-1)),(7,.b false)] (ie ?_))
   have hS0:=Ag (n:=n) hnn (JJ Zz om) (fun q=>ZI (Jg.2 q))
   have hS:=stB hS0 Yh Xl Vl UC
   exact Zc (r2 [] [.i (-1),.b false] ⟨(-1),rfl,rfl,(by intro _ h;rw [hS] at h;omega)⟩ (Zg.tup (.cons (lr _) (.cons (lb (by rw [hS];rfl)) .nil))))
  refine ak (ar (iR 6 [(224,.agg [Zd n.decls,Xn n]),(226,.i s.op),(228,.i s.num),(229,Z0 ts)] [1,0,0] [b1,b2,b2] (ic [] (Z0o _ s.op s.num ts) ?_)))
  rintro _ _ ⟨t1,rfl,rfl,DL⟩
  refine ir 4 [(6,.i t1),(7,.b ((Xv n s.op s.num ts).isSome))] (ie ?_)
  have hS0:=Ag (n:=n) hnn (JJ Zz om) (fun q=>ZI (Jg.2 q))
  have hS:=stS hS0 Yh Xl Vl UC
  exact Zc (r2 [] [.i t1,.b ((Xv n s.op s.num ts).isSome)] ⟨t1,rfl,rfl,(Z64 hS DL)⟩ (Zg.tup (.cons (lr _) (.cons (lb (Z63 hty hS)) .nil))))
 refine ir 2 [(3,.p b1 0),(5,.p b2 0),(8,Z7 ts v),(195,.b (decide ((s.kids.length:Int)>0)))] (ib (b:=(decide ((s.kids.length:Int)>0))) 195 (fun JX=>?_) (fun JX=>?_))
 ·have Z7s:(s.kids.length:Int)>0:=(dq).1 JX
  refine Z5 28 (.n 223 (.b true) (.d (.k (.k (.k .z))))) ?_
  exact YG (ZJ 3 (fw (fr (Zr true JX fl)))) hj6
 have Z7t:¬((s.kids.length:Int)>0):=ZH dq JX
 refine Y1 4 (.n 199 (.b (s.op==10)) (.w .z)) [0] [b2] (ib (b:=(s.op==10)) 199 (fun AK=>?_) (fun AK=>?_))
 ·have Z7u:s.op=10:=(Zh).1 AK
  refine Y1 5 (.n 204 (.b (decide (s.num>=0))) (.d (.d .r))) [0] [b2] (ib (b:=(decide (s.num>=0))) 204 (fun Bv=>?_) (fun Bv=>?_))
  ·have Z7v:s.num>=0:=(dq).1 Bv
   refine Y1 4 (.n 206 (.i s.num) (.n 208 (Xn n) (.k (.d .r)))) [0,1] [b2,b1] (io (.i (((n.routines.map XB).length:Nat):Int)) (.i (((UA (n.routines.map XB)).length:Nat):Int)) (li (by rw [C7])) (Z1 3 212 (.b (decide (s.num<(((n.routines.map XB).length:Nat):Int)))) (ib (b:=(decide (s.num<(((n.routines.map XB).length:Nat):Int)))) 212 (fun Bw=>?_) (fun Bw=>?_))))
   ·have Z7w:s.num<(((n.routines.map XB).length:Nat):Int):=(dq).1 Bw
    refine Y1 4 (.n 214 (Xn n) (.n 216 (.i s.num) (.k (.d .r)))) [1,0] [b1,b2] (Zp (Ae (es:=UA (n.routines.map XB)) (hv:=none) (j:=s.num) (sz:=3) (y:=D3 (Tf n s.num)) kr om (Bn (Z4n om)) rfl) (Z1 2 219 (Z0 ((Tf n s.num).lnt)) (io (.i ((((Tf n s.num).lnt).length:Nat):Int)) (.i (((Z8 ((Tf n s.num).lnt)).length:Nat):Int)) (li (by rw [Yd])) (Z1 3 223 (.b (decide (((((Tf n s.num).lnt).length:Nat):Int)>0))) ?_))))
    exact YG (ZJ 3 (fw (fr (Zr (decide (((((Tf n s.num).lnt).length:Nat):Int)>0)) (And.intro JX (And.intro AK (And.intro Bv Bw))) fl)))) hj6
   have Z7x:¬(s.num<(((n.routines.map XB).length:Nat):Int)):=ZH dq Bw
   refine Z5 11 (.n 223 (.b false) (.k (.d .r))) ?_
   exact YG (ZJ 3 (fw (fr (Zr false (And.intro JX (And.intro AK (And.intro Bv Bw))) fl)))) hj6
  have Z7y:¬(s.num>=0):=ZH dq Bv
  refine Z5 19 (.n 223 (.b false) (.k (.d .r))) ?_
  exact YG (ZJ 3 (fw (fr (Zr false (And.intro JX (And.intro AK Bv)) fl)))) hj6
 have Z7z:¬(s.op=10):=ZH Zh AK
 refine Z5 24 (.n 223 (.b false) (.k (.d .r))) ?_
 exact YG (ZJ 3 (fw (fr (Zr false (And.intro JX AK) fl)))) hj6
theorem Z0g (n:Zx) (us:List Int) (b:Z6) (hn:Xf n) (hnn:∀t∈us,0<=t) (hb:us.length+4*b.sz<=1000000000) (hr:b.rng) (ih:∀(s:Z4) (us:List Int),(s.sz<b.sz)->(us.length+4*s.sz<=1000000000)->(s.rng)->(∀t∈us,0<=t)->Zj Tryz.prog 93 [.agg [Zd n.decls,Xn n],Z0 us,Y2 s] [] (fun r h=>∃(t:Int),r=.tup [.i t,.b (decide (0<=ZK n us s))]/\h=[]/\(¬YB s.op=true->0<=ZK n us s->t=ZK n us s))):Zj Tryz.prog 56 [.agg [Zd n.decls,Xn n],Z0 us,Zq b] [] (fun r h=>r=.i (YR n us b)/\h=[]):=by
 have hbz:=Vv b
 have hbe:=D9 n us b
 rw [b.rng_eq] at hr
 refine ZL 54 Tryz.func56 (ar (iA [Zd n.decls,Xn n] ?_))
 intro b1
 refine iA (Y9 b) ?_
 intro b2
 refine ir 1 [(1,Z0 us),(3,.p b1 0),(5,.p b2 0)] (ie (ar (Z1 1 12 (Z0 us) (ic [] (OZ us) ?_))))
 rintro _ _ ⟨v1,rfl,rfl⟩
 refine Z1 1 7 (Z7 us v1) (ie (aq (ar (Yl 2 15 (Yi b.steps) [1] [b2] (iw (VD b.steps) (Z1 1 17 (.i 0) (ie (ab 0 (al (fun m F h=>∃(k:Nat) (vs:List Int) (v:Value),(k<=b.steps.length)/\(vs.length<=us.length+k)/\(∀t∈vs,0<=t)/\(Wu n (b.steps.drop k) vs=Wu n b.steps us)/\F=[(3,.p b1 0),(5,.p b2 0),(7,Z7 vs v),(15,Yi b.steps),(16,.i b.steps.length),(17,.i k)]/\h=[.obj b2 (Y9 b),.obj b1 [Zd n.decls,Xn n],.tail v 1]/\m=b.steps.length-k) _ _ _ ⟨0,us,v1,ob,ob,ob,ob,rfl,rfl,rfl⟩ (wk [1,1,0] (fq (fr (Yf fl)))) ?_)))))))))
 rintro m F h ⟨k,vs,v,Ym,Zo,Zz,YJ,rfl,rfl,rfl⟩
 refine ar (Z1 1 18 (.b (decide ((k:Int)<(b.steps.length:Int)))) (ie (aq (ZQ ((k:Int)<(b.steps.length:Int)) (fun Ze=>?_) (fun Ze=>?_)))))
 ·refine ak (aq (ab 1 (ar ?_)))
  obtain ⟨x1,Z3⟩:=Zt (xs:=b.steps) (j:=k) om
  have hss:=AY Z3
  have hsr:=Nt hr Z3
  refine Zp (Zn none (k:Int) 5 (Wy Z3)) (Z1 1 20 (Y2 x1) (iA [.i 0,.i 0,.i 0,nl,nl] ?_))
  intro b3
  refine ZF 0 b3 (Ye x1) (ie (ar (Y1 3 (.n 22 (.agg [Zd n.decls,Xn n]) (.n 23 (Z0 vs) (.n 24 (Y2 x1) .r))) [2,0] [b1,b3] (ic [] (ih x1 vs ob ob ob ob) ?_))))
  rintro _ _ ⟨t1,rfl,rfl,ZO⟩
  refine Yn 5 10 (.i t1) 11 (.b (decide (0<=ZK n vs x1))) (ie (aq (ar (Z1 2 29 (.b (!decide (0<=ZK n vs x1))) (ie (ac (!decide (0<=ZK n vs x1)) (p:=¬(decide (0<=ZK n vs x1)=true)) (Yo Iff.rfl) (fun Zm=>?_) (fun Zm=>?_)))))))
  ·refine ar (ir 1 [(6,.i (-1))] (ie ?_))
   exact Zc (r2 [] [.i (-1)] ⟨rfl,rfl⟩ (li (by rw [hbe,<-YJ,Z6o Z3 (fun q=>Zm (decide_eq_true q)) rfl])))
  refine ak (ar (Yl 2 31 (.i x1.op) [0] [b3] (ZA [] (Lo x1.op) (Z1 1 33 (.b (!YB x1.op)) (ie (JG (fun F h=>∃(w:Value),F=[(3,.p b1 0),(5,.p b2 0),(7,Z7 (if YB x1.op=true then vs else vs++[t1]) w),(15,Yi b.steps),(16,.i b.steps.length),(17,.i k)]/\h=[.obj b2 (Y9 b),.obj b1 [Zd n.decls,Xn n],.tail w 1]) (fun _ _=>rfl) ?_ ?_))))))
  ·refine ac (!YB x1.op) (p:=¬(YB x1.op=true)) (Yo Iff.rfl) (fun ZI=>?_) (fun ZI=>?_)
   ·refine az (ir 2 [(3,.p b1 0),(5,.p b2 0),(15,Yi b.steps),(16,.i b.steps.length),(17,.i k),(34,Z7 vs v),(35,.i t1)] (iL (Z8 [t1]) 1 1 ?_))
    intro v2
    refine Z5 0 (.n 36 (Z0 [t1]) (.p .r)) (ip 4 (Z8 (vs++[t1])) (Z8 vs) (Z8 [t1]) v none 1 (YD _) (YD _) (XZ _) (by simp<;>omega) (by simp [XY,Z8]) ?_)
    intro v3
    refine Z1 1 7 (Z7 (vs++[t1]) v3) (ie ?_)
    exact ZU ⟨v3,rfl,rfl⟩ (wk [3,3,0] (fw (fc (x:=Z7 (vs++[t1]) v3) (Zg.slh _ (Yv Z8 (by first|rfl|(rw [Zk ZI])|(rw [Za ZI])|(simp [ZI];done)|(rw [Xo];simp [ZI];done)|omega))) fl)))
   refine ak ?_
   exact ZU ⟨v,rfl,rfl⟩ (wk [1,1,1] (fw (fc (x:=Z7 vs v) (Zg.slh _ (Yv Z8 (by first|rfl|(rw [Zk ZI])|(rw [Za ZI])|(simp [ZI];done)|(rw [Xo];simp [ZI];done)|omega))) fl)))
  rintro F h ⟨w,rfl,rfl⟩
  refine az (ZM k (ir 1 [(3,.p b1 0),(5,.p b2 0),(7,Z7 (if YB x1.op=true then vs else vs++[t1]) w),(15,Yi b.steps),(16,.i b.steps.length),(17,.i (k+1:Nat))] (ie ?_)))
  have h0:0<=ZK n vs x1:=of_decide_eq_true (U2.1 Zm)
  exact ZT ⟨k+1,(if YB x1.op=true then vs else vs++[t1]),w,ob,(by split<;>(try simp)<;>omega),(Z26 Zz (fun q=>by rw [ZO q h0];exact h0)),(Z6m Z3 h0 ZO YJ),rfl,rfl,rfl⟩ (ZJ 3 (fq (fr (ZW k fl))))
 refine ax 0 (aq (ar (Xm [(5,.p b2 0),(7,Z7 vs v),(48,.b ((decide (b.result<0))||(decide (b.result>=(vs.length:Int)))))] [.obj b2 (Y9 b),.obj b1 [Zd n.decls,Xn n],.tail v 1] ?_ ?_)))
 ·refine iR 4 [(5,.p b2 0),(7,Z7 vs v),(42,.b (decide (b.result<0)))] [0] [b2] (ib (b:=(decide (b.result<0))) 42 (fun Zb=>?_) (fun Zb=>?_))
  ·have Y0:b.result<0:=(dq).1 Zb
   refine Z5 6 (.n 48 (.b true) (.d (.k (.k .z)))) (ie ?_)
   exact ZJ 3 (fw (Zr true Zb fl))
  have Yz:¬(b.result<0):=ZH dq Zb
  refine Y1 3 (.n 44 (.i b.result) (.n 45 (Z7 vs v) (.k (.k (.k .z))))) [0] [b2] (iw (Yd vs) (Z1 2 48 (.b (decide (b.result>=(vs.length:Int)))) (ie ?_)))
  exact ZJ 3 (fw (Zr (decide (b.result>=(vs.length:Int))) Zb fl))
 refine ac ((decide (b.result<0))||(decide (b.result>=(vs.length:Int)))) (p:=(b.result<0)∨(b.result>=(vs.length:Int))) (Yc dq dq) (fun Yh=>?_) (fun Yh=>?_)
 ·refine ar (ir 1 [(6,.i (-1))] (ie ?_))
  exact Zc (r2 [] [.i (-1)] ⟨rfl,rfl⟩ (li (by rw [hbe,<-YJ,Xz om];show _=(Xg vs b.result).getD (-1);rw [Q7 om];rfl)))
 refine ak (ar (iR 3 [(49,Z7 vs v),(51,.i b.result)] [0] [b2] ?_))
 obtain ⟨x2,Zy⟩:=Zt (xs:=vs) (j:=b.result.toNat) om
 refine Zp (Zn (some v) b.result 1 (Y3 Zy)) (ir 2 [(6,.i x2)] (ie ?_))
 exact Zc (r2 [] [.i x2] ⟨rfl,rfl⟩ (li (by rw [hbe,<-YJ,Xz om];show _=(Xg vs b.result).getD (-1);rw [Ty om Zy];rfl)))
theorem Z0e (n:Zx) (hn:Xf n) (hty:B9 n) (m:Nat):∀(b:Z6) (us:List Int),(b.sz<=m)->(us.length+4*b.sz<=1000000000)->(b.rng)->(∀t∈us,0<=t)->Zj Tryz.prog 56 [.agg [Zd n.decls,Xn n],Z0 us,Zq b] [] (fun r h=>r=.i (YR n us b)/\h=[]):=by
 induction m with
 | zero=>intro b us h;have:=b.sz_pos;omega
 | succ m ih=>intro b us h1 h2 h3 h4;exact Z0g n us b hn h4 h2 h3 fun s us2 k1 k2 k3 k4=>Z0p n us2 s hn hty k4 k2 k3 fun b2 us3 q1 q2 q3 q4=>ih b2 us3 om q2 q3 q4
theorem Z0f (n:Zx) (us:List Int) (b:Z6) (hn:Xf n) (hty:B9 n) (hnn:∀t∈us,0<=t) (hb:us.length+4*b.sz<=1000000000) (hr:b.rng):Zj Tryz.prog 56 [.agg [Zd n.decls,Xn n],Z0 us,Zq b] [] (fun r h=>r=.i (YR n us b)/\h=[]):=
 Z0e n hn hty b.sz b us (X7 _) hb hr hnn
open Go.Proofs
theorem Nb (n:Zx) (us:List Int) (b:Z6) (hz:Qt n:=by exact ob) (hul:us.length<=1000000:=by exact ob) (hb:b.sz<=20000000:=by exact ob):Zj Tryz.prog 17 [ZB n,Z0 us,Zq b] [] (fun r h=>r=.i (Xq n us b)/\h=[]):=by
 have hdl:=hz.decls.len
 refine ZL 26 Tryz.func17 (ar (iA (ZP n) ?_))
 intro b1
 refine iA (Y9 b) ?_
 intro b2
 refine ir 1 [(1,Z0 us),(3,.p b1 0),(5,.p b2 0)] (ie (aq (ar (Yl 1 7 (ZB n) [1] [b1] (ZA [] (Nr n (hz:=hz.decls) (hr:=(fun r hr=>⟨hz.params r hr,hz.lent r hr⟩))) (XS 10 [(1,Z0 us),(3,.p b1 0),(5,.p b2 0),(16,.b ((!XI n)||(!YZ n.decls.length us)))] [.obj b2 (Y9 b),.obj b1 (ZP n)] ?_ (fun hj1=>?_)))))))
 ·refine Xm [(1,Z0 us),(3,.p b1 0),(5,.p b2 0),(21,.b (((!XI n)||(!YZ n.decls.length us))||(decide ((V4 b)<0))))] [.obj b2 (Y9 b),.obj b1 (ZP n)] ?_ ?_
  ·refine ir 1 [(1,Z0 us),(3,.p b1 0),(5,.p b2 0),(17,.b ((!XI n)||(!YZ n.decls.length us)))] (ib (b:=((!XI n)||(!YZ n.decls.length us))) 17 (fun Zb=>?_) (fun Zb=>?_))
   ·have ZO:(¬(XI n=true))∨(¬(YZ n.decls.length us=true)):=((Yc (Yo Iff.rfl) (Yo Iff.rfl))).1 Zb
    refine Z5 4 (.n 21 (.b true) (.d (.k (.k (.k .z))))) (ie ?_)
    exact wk [0,0] (fw (fr (Zr true Zb fl)))
   have Y0:¬((¬(XI n=true))∨(¬(YZ n.decls.length us=true))):=ZH (Yc (Yo Iff.rfl) (Yo Iff.rfl)) Zb
   refine Y1 1 (.n 18 (Zq b) (.w .z)) [0] [b2] (ZA [] (Np b) (Z1 2 21 (.b (decide ((V4 b)<0))) (ie ?_)))
   exact wk [0,0] (fw (fr (Zr (decide ((V4 b)<0)) Zb fl)))
  refine ac (((!XI n)||(!YZ n.decls.length us))||(decide ((V4 b)<0))) (p:=((¬(XI n=true))∨(¬(YZ n.decls.length us=true)))∨((V4 b)<0)) (Yc (Yc (Yo Iff.rfl) (Yo Iff.rfl)) dq) (fun Ze=>?_) (fun Ze=>?_)
  ·refine ar (ir 1 [(6,.i (-1))] (ie ?_))
   exact Zc (r2 [] [.i (-1)] ⟨rfl,rfl⟩ (li (by first|rw [Xq,Za (fun z=>Ze.elim (fun h=>h.elim (fun q=>q z.1.1) (fun q=>q z.1.2)) z.2)]|(rw [Xq,Za (fun z=>by have h:=z.1.1;rw [‹XI n=false›] at h;cases h)])|rw [Xq,Zk (And.intro (And.intro hsg hat) hst)])))
  have hsg:XI n=true:=B3 fun z=>Ze (.inl (.inl z))
  have hat:YZ n.decls.length us=true:=B3 fun z=>Ze (.inl (.inr z))
  have hst:¬V4 b<0:=fun z=>Ze (.inr z)
  have hok:=E7 hz hsg
  refine ak (ar (iR 3 [(22,ZB n),(23,Z0 us),(24,Zq b)] [1,0] [b1,b2] (ZA [] (H7 n us b ob ob) (ir 1 [(6,.i (YR n us b))] (ie ?_)))))
  exact Zc (r2 [] [.i (YR n us b)] ⟨rfl,rfl⟩ (li (by first|rw [Xq,Za (fun z=>Ze.elim (fun h=>h.elim (fun q=>q z.1.1) (fun q=>q z.1.2)) z.2)]|(rw [Xq,Za (fun z=>by have h:=z.1.1;rw [‹XI n=false›] at h;cases h)])|rw [Xq,Zk (And.intro (And.intro hsg hat) hst)])))
 refine ir 2 [(1,Z0 us),(3,.p b1 0),(5,.p b2 0),(10,.b (!XI n))] (ib (b:=(!XI n)) 10 (fun Zv=>?_) (fun Zv=>?_))
 ·have Yz:¬(XI n=true):=((Yo Iff.rfl)).1 Zv
  refine Z5 6 (.n 16 (.b true) (.d (.k (.k (.k .z))))) ?_
  exact YG (wk [0,0] (fw (fr (Zr true Zv fl)))) hj1
 have YM:¬(¬(XI n=true)):=ZH (Yo Iff.rfl) Zv
 refine Y1 3 (.n 12 (Zd n.decls) (.n 13 (Z0 us) (.w .z))) [1] [b1] (ZA [] (H6 n.decls us) (Z1 2 16 (.b (!YZ n.decls.length us)) ?_))
 exact YG (wk [0,0] (fw (fr (Zr (!YZ n.decls.length us) Zv fl)))) hj1
theorem Lm (n:Zx) (us:List Int) (b:Z6) (hz:Qt n:=by exact ob) (hul:us.length<=1000000:=by exact ob) (hb:b.sz<=20000000:=by exact ob) (hr:b.rng:=by exact ob):Zj Tryz.prog 16 [ZB n,Z0 us,Zq b] [] (fun r h=>r=.i (Xq n us b)/\h=[]):=by
 have hdl:=hz.decls.len
 refine ZL 32 Tryz.func16 (ar (iA (ZP n) ?_))
 intro b1
 refine iA (Y9 b) ?_
 intro b2
 refine ir 1 [(1,Z0 us),(3,.p b1 0),(5,.p b2 0)] (ie (ar (Yl 1 10 (ZB n) [1] [b1] (ic [] (Z0m n) ?_))))
 rintro _ _ (⟨rfl,rfl,ZO⟩|⟨rfl,rfl,Y0⟩)
 ·refine Yn 3 12 (.agg [Zd n.decls,Xn n]) 13 (.b (XI n)) (iA [nl,nl] ?_)
  intro b3
  refine ZF 0 b3 [Zd n.decls,Xn n] (Z1 1 8 (.b (XI n)) (ie (aq (ar (XS 9 [(1,Z0 us),(5,.p b2 0),(7,.p b3 0),(22,.b ((!XI n)||(!YZ n.decls.length us)))] [.obj b3 [Zd n.decls,Xn n],.obj b2 (Y9 b),.obj b1 (ZP n)] ?_ (fun hj1=>?_))))))
  ·refine Xm [(1,Z0 us),(5,.p b2 0),(7,.p b3 0),(27,.b (((!XI n)||(!YZ n.decls.length us))||(decide ((V4 b)<0))))] [.obj b3 [Zd n.decls,Xn n],.obj b2 (Y9 b),.obj b1 (ZP n)] ?_ ?_
   ·refine ir 1 [(1,Z0 us),(5,.p b2 0),(7,.p b3 0),(23,.b ((!XI n)||(!YZ n.decls.length us)))] (ib (b:=((!XI n)||(!YZ n.decls.length us))) 23 (fun Zb=>?_) (fun Zb=>?_))
    ·have Yz:(¬(XI n=true))∨(¬(YZ n.decls.length us=true)):=((Yc (Yo Iff.rfl) (Yo Iff.rfl))).1 Zb
     refine Z5 4 (.n 27 (.b true) (.d (.k (.k (.k .z))))) (ie ?_)
     exact ZJ 3 (fw (fr (Zr true Zb fl)))
    have YM:¬((¬(XI n=true))∨(¬(YZ n.decls.length us=true))):=ZH (Yc (Yo Iff.rfl) (Yo Iff.rfl)) Zb
    refine Y1 1 (.n 24 (Zq b) (.w .z)) [1] [b2] (ZA [] (Z0b b) (Z1 2 27 (.b (decide ((V4 b)<0))) (ie ?_)))
    exact ZJ 3 (fw (fr (Zr (decide ((V4 b)<0)) Zb fl)))
   refine ac (((!XI n)||(!YZ n.decls.length us))||(decide ((V4 b)<0))) (p:=((¬(XI n=true))∨(¬(YZ n.decls.length us=true)))∨((V4 b)<0)) (Yc (Yc (Yo Iff.rfl) (Yo Iff.rfl)) dq) (fun Ze=>?_) (fun Ze=>?_)
   ·refine ar (ir 1 [(6,.i (-1))] (ie ?_))
    exact Zc (r2 [] [.i (-1)] ⟨rfl,rfl⟩ (li (by first|rw [Xq,Za (fun z=>Ze.elim (fun h=>h.elim (fun q=>q z.1.1) (fun q=>q z.1.2)) z.2)]|(rw [Xq,Za (fun z=>by have h:=z.1.1;rw [‹XI n=false›] at h;cases h)])|rw [Xq,Zk (And.intro (And.intro hsg hat) hst)])))
   have hsg:XI n=true:=B3 fun z=>Ze (.inl (.inl z))
   have hat:YZ n.decls.length us=true:=B3 fun z=>Ze (.inl (.inr z))
   have hst:¬V4 b<0:=fun z=>Ze (.inr z)
   have hok:=E7 hz hsg
   have hty:=Z28 hsg
   refine ak (ar (iR 3 [(28,.agg [Zd n.decls,Xn n]),(29,Z0 us),(30,Zq b)] [0,1] [b3,b2] (ZA [] (Z0f n us b ob hty (fun t ht=>(BX hat t ht).1) ob hr) (ir 1 [(6,.i (YR n us b))] (ie ?_)))))
   exact Zc (r2 [] [.i (YR n us b)] ⟨rfl,rfl⟩ (li (by first|rw [Xq,Za (fun z=>Ze.elim (fun h=>h.elim (fun q=>q z.1.1) (fun q=>q z.1.2)) z.2)]|(rw [Xq,Za (fun z=>by have h:=z.1.1;rw [‹XI n=false›] at h;cases h)])|rw [Xq,Zk (And.intro (And.intro hsg hat) hst)])))
  refine ir 3 [(1,Z0 us),(3,.p b1 0),(5,.p b2 0),(7,.p b3 0),(16,.b (!XI n))] (ib (b:=(!XI n)) 16 (fun Zv=>?_) (fun Zv=>?_))
  ·have YX:¬(XI n=true):=((Yo Iff.rfl)).1 Zv
   refine Z5 6 (.n 22 (.b true) (.d (.k (.d (.k (.k .z)))))) ?_
   exact YG (ZJ 3 (fw (fr (Zr true Zv fl)))) hj1
  have Xw:¬(¬(XI n=true)):=ZH (Yo Iff.rfl) Zv
  refine Y1 3 (.n 18 (Zd n.decls) (.n 19 (Z0 us) (.k (.k (.d (.k (.k .z))))))) [2] [b1] (ZA [] (Gd n.decls us) (Z1 2 22 (.b (!YZ n.decls.length us)) ?_))
  exact YG (ZJ 3 (fw (fr (Zr (!YZ n.decls.length us) Zv fl)))) hj1
 refine Yn 3 12 (.agg [Zd [],Vh []]) 13 (.b false) (iA [nl,nl] ?_)
 intro b4
 refine ZF 0 b4 [Zd [],Vh []] (Z1 1 8 (.b false) (ie (aq (ar (Z1 14 27 (.b true) (ie (WU (ar (ir 1 [(6,.i (-1))] (ie ?_))))))))))
 exact Zc (r2 [] [.i (-1)] ⟨rfl,rfl⟩ (li (by first|rw [Xq,Za (fun z=>Ze.elim (fun h=>h.elim (fun q=>q z.1.1) (fun q=>q z.1.2)) z.2)]|(rw [Xq,Za (fun z=>by have h:=z.1.1;rw [‹XI n=false›] at h;cases h)])|rw [Xq,Zk (And.intro (And.intro hsg hat) hst)])))
theorem Z1g (code:List Int) (hcb:∀z∈code,0<=z/\z<=255):Zj Tryz.prog 3 [X8 code] [] (fun r h=>r=.b true/\h=[]):=by
 refine ZL 60 Tryz.func3 (ar (ir 1 [(0,X8 code)] (ie (aq (ar (Z1 1 8 (X8 code) (iw (Qz code) (Z1 1 10 (.b (decide ((code.length:Int)>1048576))) (ie (ZQ ((code.length:Int)>1048576) (fun Ze=>?_) (fun Ze=>?_)))))))))))
 ·refine ar (ir 1 [(2,.b true)] (ie ?_))
  exact Zc (r1 [] ⟨rfl,rfl⟩)
 have hcl:code.length<=1048576:=by omega
 refine ak (ar (ir 1 [(12,X8 code)] (ic [] (Rw code (hcl:=hcl) (hcb:=hcb)) ?_)))
 rintro _ _ ⟨n21,us1,b1,rfl,rfl,ZO⟩
 obtain ⟨hzs,husl,hbz,hbr⟩:=ZO
 have hzn:=hzs.sz om om
 refine ir 4 [(14,ZB n21),(15,Z0 us1),(16,Zq b1)] (iA [nl,nl] ?_)
 intro b2
 refine iA [nl,.i 0] ?_
 intro b3
 refine ZF 1 b2 (ZP n21) (Z1 1 4 (Z0 us1) (ZF 1 b3 (Y9 b1) (ie (ar (Y1 3 (.n 17 (ZB n21) (.n 18 (Z0 us1) (.n 19 (Zq b1) .r))) [1,0] [b2,b3] (ZA [] (Lm n21 us1 b1 (hz:=hzn) (hb:=(by first|omega|(have h:=b1.sz_eq;rw [Z6.sz];omega))) (hr:=(by first|exact hbr|(have h:=hbr;rw [Z6.rng_eq] at h;rw [Z6.rng];exact h)))) (Z1 1 6 (.i (Xq n21 us1 b1)) (ie (aq (ar (Y1 4 (.n 21 (.i (Xq n21 us1 b1)) (.n 22 (ZB n21) (.n 23 (Z0 us1) (.n 24 (Zq b1) .r)))) [1,0] [b2,b3] (ZA [] (Nb n21 us1 b1 (hz:=hzn)) (Xm [(3,.p b2 0),(4,Z0 us1),(5,.p b3 0),(6,.i (Xq n21 us1 b1)),(30,.b (((Xq n21 us1 b1) != (Xq n21 us1 b1))||(decide ((Xq n21 us1 b1)<0))))] [.obj b3 (Y9 b1),.obj b2 (ZP n21)] ?_ ?_)))))))))))))
 ·refine ir 2 [(3,.p b2 0),(4,Z0 us1),(5,.p b3 0),(6,.i (Xq n21 us1 b1)),(27,.b ((Xq n21 us1 b1) != (Xq n21 us1 b1)))] (ib (b:=((Xq n21 us1 b1) != (Xq n21 us1 b1))) 27 (fun Zb=>?_) (fun Zb=>?_))
  ·have Y0:(Xq n21 us1 b1)≠(Xq n21 us1 b1):=(Yg).1 Zb
   refine Z5 3 (.n 30 (.b true) (.d (.w .z))) (ie ?_)
   exact wk [0,0] (fq (Zr true Zb fl))
  have Yz:¬((Xq n21 us1 b1)≠(Xq n21 us1 b1)):=ZH Yg Zb
  refine Z5 3 (.n 30 (.b (decide ((Xq n21 us1 b1)<0))) (.d (.w .z))) (ie ?_)
  exact wk [0,0] (fq (Zr (decide ((Xq n21 us1 b1)<0)) Zb fl))
 refine ac (((Xq n21 us1 b1) != (Xq n21 us1 b1))||(decide ((Xq n21 us1 b1)<0))) (p:=((Xq n21 us1 b1)≠(Xq n21 us1 b1))∨((Xq n21 us1 b1)<0)) (Yc Yg dq) (fun Zm=>?_) (fun Zm=>?_)
 ·refine ar (iR 4 [(31,.i (Xq n21 us1 b1)),(32,ZB n21),(33,Z0 us1),(34,Zq b1)] [1,0] [b2,b3] (ZA [] (Nb n21 us1 b1 (hz:=hzn)) (ir 2 [(2,.b ((Xq n21 us1 b1)==(Xq n21 us1 b1)))] (ie ?_))))
  exact Zc (r2 [] [.b ((Xq n21 us1 b1)==(Xq n21 us1 b1))] ⟨rfl,rfl⟩ (lb (by simp)))
 have hbn:¬Xq n21 us1 b1<0:=fun z=>Zm (.inr z)
 refine ak (aq (ar (ir 1 [(3,.p b2 0),(4,Z0 us1),(5,.p b3 0),(6,.i (Xq n21 us1 b1)),(7,.i 0)] (ie (ab 0 (al (fun m F h=>∃(k:Nat),(k<=us1.length)/\F=[(3,.p b2 0),(4,Z0 us1),(5,.p b3 0),(6,.i (Xq n21 us1 b1)),(7,.i k)]/\h=[.obj b3 (Y9 b1),.obj b2 (ZP n21)]/\m=us1.length-k) _ _ _ ⟨0,ob,rfl,rfl,rfl⟩ (wk [0,0] (fq (Yf fl))) ?_))))))
 rintro m F h ⟨k,Ym,rfl,rfl,rfl⟩
 refine aq (ar (Yn 2 37 (.i k) 38 (Z0 us1) (iw (Yd us1) (Z1 1 40 (.b (decide ((k:Int)<(us1.length:Int)))) (ie (ZQ ((k:Int)<(us1.length:Int)) (fun ZI=>?_) (fun ZI=>?_)))))))
 ·refine ak (aq (ab 1 (aD 12 (Y5 4 12 [0,1,2,3,4,5,7,8] (.n 43 (ZB n21) (.n 44 (Z0 us1) (.n 48 (.agg [Yi b1.steps,.i k]) (.n 50 (Z0 us1) (.n 51 (.i k) .r))))) [1,0] [b2,b3] ?_))))
  obtain ⟨x1,Z3⟩:=Zt (xs:=us1) (j:=k) om
  refine dx 9 (Zn none (k:Int) 1 (Y3 Z3)) (ZX 2 3 [10] 53 (.i x1) (Z9 6 (Yt 6 [] [] [] (Lm n21 us1 (Z6.mk b1.steps (k:Int)) (hz:=hzn) (hb:=(by first|omega|(have h:=b1.sz_eq;rw [Z6.sz];omega))) (hr:=(by first|exact hbr|(have h:=hbr;rw [Z6.rng_eq] at h;rw [Z6.rng];exact h)))) (ZX 0 1 [11] 54 (.b ((Xq n21 us1 (Z6.mk b1.steps (k:Int))) != x1)) (de (ac ((Xq n21 us1 (Z6.mk b1.steps (k:Int))) != x1) Yg (fun Yh=>?_) (fun Yh=>?_)))))))
  ·refine ar (ir 1 [(2,.b false)] (ie ?_))
   exact Zc (r2 [] [.b false] ⟨rfl,rfl⟩ (lb (absurd (ON hbn Z3) Yh)))
  refine ak (az (Z1 1 41 (.i k) (ZM k (ir 1 [(3,.p b2 0),(4,Z0 us1),(5,.p b3 0),(6,.i (Xq n21 us1 b1)),(7,.i (k+1:Nat))] (ie ?_)))))
  exact ZT ⟨k+1,ob,rfl,rfl,rfl⟩ (wk [0,0] (fq (ZW k fl)))
 refine ax 0 (ar (iR 3 [(55,.i (Xq n21 us1 b1)),(57,Zd n21.decls)] [1] [b2] (iw (VL n21.decls) (ir 2 [(2,.b (decide ((Xq n21 us1 b1)<=(n21.decls.length:Int))))] (ie ?_)))))
 exact Zc (r2 [] [.b (decide ((Xq n21 us1 b1)<=(n21.decls.length:Int)))] ⟨rfl,rfl⟩ (lb (by first|exact decide_eq_true (I5 _ _ _)|exact (decide_eq_true (I5 _ _ _)).symm)))
end Go.Abs
section
namespace Go.Proofs.YthllacimcjakdaaGreat.fnBlockType
open Go.ChangeShapes Go.WideShapes Go.ChangeAt Go.RowKit Go.Abs
theorem own:ownKnob Tryz.prog.godebug=none:=by kernel_rfl
theorem kids:Kids Tryz.prog (·<Tryz.prog.types.size):=kids_rows kr kr
theorem Rv:∀t e,t<Tryz.prog.types.size->Tryz.prog.underlying t=some (.slice e)->0<Tryz.prog.cellsOf e:=slices_full_of Tryz.prog kr
theorem MV {w w':World} {G G':Ya} {h':List Res} (hx:YT w G [] w' G' h'):∀b,b<w.heap.size->w'.heap[b]? = w.heap[b]?:=
 fun b hb=>(hx.same b hb).eq fun o ⟨r,hr,_⟩=>by cases hr
theorem OX {w w':World} {b o:Nat} (h:w'.heap[b]? = w.heap[b]?):w'.cell? ⟨b,o,none⟩=w.cell? ⟨b,o,none⟩:=by simp [World.cell?,h]
theorem Z1y {t:Nat} (h:Nat.blt t Tryz.prog.types.size=true):t<Tryz.prog.types.size:=Nat.le_of_ble_eq_true h
set_option maxRecDepth 100000 in
theorem Pj (H:Type) (enc:TypeId × Value->H) (W:World) (base:Nat) (args:Array Value) (ds gs:List (DataW H)) (before:List MemPlace) (hval:∀(j:Nat) t v,Tryz.f3.params[j]? = some t->args[j]? = some v->Value.okWide Tryz.prog W .any base t v)
  (hW:DataW.Whole enc Tryz.prog Tryz.f3.params.toList Rows.fnBlockTypeSpec.vars false W args.toList ds gs before) :
  Calls Tryz.prog 3 args W fun e W'=>∃v,e=.returned v/\Rows.fnBlockTypeSpec.post enc Tryz.prog Tryz.f3 false true false false W args v W':=by
 have hW':=hW
 obtain ⟨p,q,hA0,hV,rfl,hfz,hnd⟩:=hW
 have hA:DataW.TrodAll enc Tryz.prog W 0 (fun _=>true) true Tryz.f3.params.toList args.toList ds p:=hA0
 rw [Tryz.params3] at hA
 obtain ⟨v0,vs0,d0,ds0,p0,q0,hargs,rfl,rfl,h0,r0⟩:=trodAll_cons hA
 obtain ⟨rfl,rfl,rfl⟩:=trodAll_nil r0
 obtain rfl:args=#[v0]:=by cases args;simp_all
 obtain ⟨rfl,rfl⟩:=trodVars_none hV
 obtain ⟨fuel,htr⟩:=h0
 obtain ⟨qa,ql,qc,rfl⟩:=okWide_slice Tryz.underlying22 (hval 0 22 v0 kr rfl)
 obtain ⟨v1,code,hv1,hrv,hcb⟩:=Z36 htr
 have hv1:[Value.slice qa ql qc]=[v1]:=hv1
 cases hv1
 have hh:Yy W (GA W) []:=⟨(fun r hr=>by cases hr),List.Pairwise.nil,(fun r hr=>by cases hr),fun b o hg=>hg⟩
 refine (Z1g code hcb W (GA W) [.slice qa ql qc] (.cons hrv .nil) hh).mono ?_
 rintro e W' ⟨v,r,h',G',rfl,⟨rfl,rfl⟩,hv,hh',hx⟩
 have hvb:=hv.val_inv
 subst hvb
 refine ⟨_,rfl,[d0],[],p0++[]++[],[],p0++[],[],hW',?_,?_,rfl,?_,(fun h=>by cases h)⟩
 ·exact trodAll_cons_mk (shut_bool Tryz.underlying4 _) trodAll_mk0
 ·have hold:∀b,b<W.heap.size->W'.heap[b]? = W.heap[b]?:=MV hx
  have hlt:=hW'.lt
  have hcar:DataW.TrodAll enc Tryz.prog W' 0 (fun _=>true) true Tryz.f3.params.toList [.slice qa ql qc] [d0] (p0++[]):=by
   rw [Tryz.params3]
   refine ⟨p0,[],⟨fuel,DataW.trod_carry fuel 22 _ _ htr fun y hy=>?_⟩,rfl,rfl⟩
   have hyl:=hlt y (by simpa using hy)
   cases y with
   | cell b o=>exact OX (hold b hyl)
   | map b=>exact hold b hyl
  exact DataW.TrodAll.respare kids Rv (by rw [Tryz.params3];intro t ht;rw [List.mem_singleton.1 ht];exact Z1y kr) hcar (fun y hy=>by have:=hlt y (by simpa using hy);simpa using this)
 ·refine ⟨hx.os,hx.output,fun i hi=>?_⟩
  rw [MV hx i hi]
  cases W.heap[i]? with
  | none=>rfl
  | some o=>cases o<;>first | rfl | exact ⟨rfl,rfl,rfl,fun _ _=>rfl⟩ | exact .inr ⟨rfl,rfl⟩
set_option maxRecDepth 100000 in
theorem Z1w (os:Os) (started:os.Started) (H:Type) (enc:TypeId × Value->H) (F:Stop.Interp) :
  ReturnsInHanded {} Tryz.checked os 3 .any ((Rows.OpenSpec.upto Rows.fnBlockTypeSpec).pre6 enc Tryz.prog Tryz.f3 Rows.fnBlockTypeUptoRow.domain false) (((Rows.OpenSpec.upto Rows.fnBlockTypeSpec).at F).post enc Tryz.prog Tryz.f3 false true false false):=by
 refine returnsInHanded_of_cond (C:=Tryz.checked) (s:=Rows.OpenSpec.upto Rows.fnBlockTypeSpec) (k:=Rows.uptoSmall) rfl own started kr Tryz.func3
  (OpenSpec.witness (enc:=enc) (C:=Tryz.checked) (s:=Rows.OpenSpec.upto Rows.fnBlockTypeSpec) (k:=Rows.uptoSmall) rfl false ⟨#[],#[.slice none 0 0],[]⟩ 8 kr kr kr
   (x:=([.nil],[],[])) kr rfl kr) ?_
 intro W base args ds gs before hval hW _ hk _
 exact Pj H enc W base args ds gs before hval hW
theorem Om {a b:Bool} (ha:a=true) (hb:b=true):(a&&b)=true:=by rw [ha,hb];rfl
set_option maxHeartbeats 4000000 in
theorem P0:joinedFacts Tryz.pinned.checked.prog 3 Tryz.f3 (Rows.OpenSpec.upto Rows.fnBlockTypeSpec).bare Rows.fnBlockTypeUptoRow=true:=by
 unfold joinedFacts
 iterate 31 refine Om ?_ (by as_aux_lemma=>kernel_rfl)
 as_aux_lemma=>kernel_rfl
theorem Z32:Rows.fnBlockTypeUptoRow.holds Tryz.pinned (Rows.OpenSpec.upto Rows.fnBlockTypeSpec):=
 OpenClaim.holds_of_cond 3 Tryz.f3 rfl rfl rfl rfl rfl rfl rfl ⟨rfl,rfl,rfl,rfl,rfl⟩ rfl rfl rfl rfl rfl (by as_aux_lemma=>kernel_rfl) Tryz.func3 P0
  (of_decide_eq_true kr) (by unfold Func.isWrapper;first|(rw [if_pos (by decide +kernel)];kernel_rfl)|(rw [if_neg (by decide +kernel)];exact ⟨rfl,rfl⟩))
  (fun os started H enc _ F=>Z1w os started H enc F)
theorem proved:Rows.FnBlockTypeUptoSaid:=
 Z32
#print axioms proved
end Go.Proofs.YthllacimcjakdaaGreat.fnBlockType
end
