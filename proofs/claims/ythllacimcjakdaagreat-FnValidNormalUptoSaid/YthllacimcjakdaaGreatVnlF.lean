/-
  FnValidNormalUptoSaid: the law FnValidNormal returns true at every argument of bulk at most 1048576, and the argument reads behind the call as it read before.
-/
import Derived.Test.YthllacimcjakdaaGreatVnlE
import Derived.Test.YthllacimcjakdaaGreatRows
import Derived.WalkKit
import Derived.ProofKit
import Derived.OpenShut
import Derived.JoinedCond
import Derived.ReadAgain
set_option linter.all false
set_option linter.unusedVariables false
set_option linter.unusedSimpArgs false
set_option linter.unusedSectionVars false
set_option maxRecDepth 10000
set_option maxHeartbeats 4000000
namespace Go.Abs
open Go.Proofs
theorem Z0l (n:Zy) (t:Int) (hn:Xe n:=by exact ob):Zj Tryz.prog 131 [.agg [Zd n.decls,Xb n],.i t] [] (fun r h=>r=WD ((Zu n.decls t).map (ZB n.decls))/\h=[]):=by
 have Xu:=hn.decls
 have hcl:=Gr Xu t
 refine ZK 26 Tryz.func131 (ar (iA [Zd n.decls,Xb n] ?_))
 intro b1
 refine ir 1 [(1,.i t),(2,.p b1 0)] (ie (ar (Z1 1 5 (nl) (ie (aq (ar (Y1 3 9 (Zd n.decls) 10 (.i t) [0] [b1] (ZA [] (Z0h n.decls t) (io (.i (((Zu n.decls t).length:Nat):Int)) (.i (((Z8 (Zu n.decls t)).length:Nat):Int)) (li (by rw [Yd])) (Z1 1 13 (.i 0) (ie (ab 0 (CY 1 (al (fun m F h=>∃(k:Nat) (v:Value),(k<=(Zu n.decls t).length)/\F=[(2,.p b1 0),(5,UT (((Zu n.decls t).take k).map (ZB n.decls)) v),(11,Z0 (Zu n.decls t)),(12,.i (((Zu n.decls t).length:Nat):Int)),(13,.i k)]/\h=[.obj b1 [Zd n.decls,Xb n],.tail v 1]/\m=(Zu n.decls t).length-k) _ _ _ ⟨0,(.slice none 0 0),ob,rfl,rfl,rfl⟩ (wk [1,0] (fr (fc (x:=nl) (Zg.slh _ rfl) (fw (Ye fl))))) ?_))))))))))))))
 rintro m F h ⟨k,v,Ym,rfl,rfl,rfl⟩
 refine ar (Z1 1 14 (.b (decide ((k:Int)<(((Zu n.decls t).length:Nat):Int)))) (ie (aq (ZM ((k:Int)<(((Zu n.decls t).length:Nat):Int)) (fun Ze=>?_) (fun Ze=>?_)))))
 ·refine ak (aq (ab 1 (ar ?_)))
  obtain ⟨x1,Z3⟩:=Zs (xs:=Zu n.decls t) (j:=k) om
  refine Zq (Zo none (k:Int) 1 (Y3 Z3)) (Z1 2 7 (.i x1) (ie (az (Y2 4 (.n 17 (UT (((Zu n.decls t).take k).map (ZB n.decls)) v) (.n 19 (Zd n.decls) (.n 20 (.i x1) .r))) [0] [b1] (ZA [] (Z0k n.decls x1 (hc:=(by have:=Pf Xu Z3;omega))) (iL (W7 [ZB n.decls x1]) 1 1 ?_))))))
  intro v1
  refine Z5 0 (.n 22 (WD [ZB n.decls x1]) (.p .r)) (ip 2 (W7 (((Zu n.decls t).take (k+1)).map (ZB n.decls))) (W7 (((Zu n.decls t).take k).map (ZB n.decls))) (W7 [ZB n.decls x1]) v none 1 (JL _) (JL _) (Dl _) (by simp;omega) (by rw [WO Z3];simp [W7]) ?_)
  intro v2
  refine Z5 1 (.n 5 (UT (((Zu n.decls t).take (k+1)).map (ZB n.decls)) v2) (.p (.d (.p (.d (.d (.d (.d (.p (.d (.k (.d .r)))))))))))) (ie (az (ZO k (Z5 1 (.n 13 (.i (k+1:Nat)) (.p (.w .z))) (ie ?_)))))
  have hdr:=Yb Z3
  exact ZQ ⟨k+1,v2,ob,rfl,rfl,rfl⟩ (wk [2,0] (fq (ZW k fl)))
 refine ax 0 (ar (ir 2 [(4,UT (((Zu n.decls t).take k).map (ZB n.decls)) v)] (ie ?_)))
 exact Zc (r2 [] [UT (((Zu n.decls t).take k).map (ZB n.decls)) v] ⟨rfl,rfl⟩ (Zg.sl _ (Yv W7 (by rw [Ve om]))))
theorem Z0m (n:Zy) (op:Int) (num:Int) (ts:List Int) (hn:Xe n:=by exact ob) (hl_ts:ts.length<=4294967296:=by exact ob) (hnum:-9223372036854775808<=num/\num<=9223372036854775807:=by exact ob):Zj Tryz.prog 132 [.agg [Zd n.decls,Xb n],.i op,.i num,Z0 ts] [] (fun r h=>∃(t:Int),r=.tup [.i t,.b ((Xv n op num ts).isSome)]/\h=[]/\∀x,Xv n op num ts=some x->t=x):=by
 have Xu:=hn.decls
 have hrl:=hn.len
 have hcfl:(ZB n.decls num).length<=4294967296:=by have:=VH Xu num;omega
 have hdl:n.decls.length<=4294967296:=by have:=Xu.len;omega
 refine ZK 149 Tryz.func132 (ar (iA [Zd n.decls,Xb n] ?_))
 intro b1
 refine ir 2 [(1,.i op),(2,.i num),(3,Z0 ts),(4,.p b1 0)] (ie (ar (Z1 2 11 (.i 0) (ie (aq (ar (Z1 1 18 (.i op) (ie (ab 0 (ar (Z1 2 19 (.b (op==0)) (ie (ac (op==0) Zh (fun Ze=>?_) (fun Ze=>?_))))))))))))))
 ·refine ar (XP 6 [(3,Z0 ts),(26,.b ((decide (num>=(-999)))&&(decide (num<=999))))] [.obj b1 [Zd n.decls,Xb n]] ?_ (fun hj1=>?_))
  ·refine XP 11 [(31,.b (((decide (num>=(-999)))&&(decide (num<=999)))&&((ts.length:Int)==0)))] [.obj b1 [Zd n.decls,Xb n]] ?_ (fun hj2=>?_)
   ·refine ir 2 [(8,.i 0),(9,.b (((decide (num>=(-999)))&&(decide (num<=999)))&&((ts.length:Int)==0)))] (ie ?_)
    have hF:=sf0 (n:=n) (num:=num) (ts:=ts) Ze
    exact Zc (r2 [] [.i 0,.b (((decide (num>=(-999)))&&(decide (num<=999)))&&((ts.length:Int)==0))] ⟨0,rfl,rfl,(A5 hF)⟩ (Zg.tup (.cons (lr _) (.cons (lb (A4 hF (by simp [*];try omega))) .nil))))
   refine ir 1 [(3,Z0 ts),(27,.b ((decide (num>=(-999)))&&(decide (num<=999))))] (ib (b:=((decide (num>=(-999)))&&(decide (num<=999)))) 27 (fun Za=>?_) (fun Za=>?_))
   ·have ZP:(num>=(-999))/\(num<=999):=((YE dq dq)).1 Za
    refine Z5 1 (.n 28 (Z0 ts) (.k .z)) (iw (Yd ts) (ir 2 [(31,.b ((ts.length:Int)==0))] ?_))
    exact YG (wk [0] (Zr ((ts.length:Int)==0) Za fl)) hj2
   have Y0:¬((num>=(-999))/\(num<=999)):=ZG (YE dq dq) Za
   refine ir 4 [(31,.b false)] ?_
   exact YG (wk [0] (Zr false Za fl)) hj2
  refine ir 3 [(2,.i num),(3,Z0 ts),(23,.b (decide (num>=(-999))))] (ib (b:=(decide (num>=(-999)))) 23 (fun Zw=>?_) (fun Zw=>?_))
  ·have YB:num>=(-999):=(dq).1 Zw
   refine ir 3 [(3,Z0 ts),(26,.b (decide (num<=999)))] ?_
   exact YG (wk [0] (fr (Zr (decide (num<=999)) Zw fl))) hj1
  have YN:¬(num>=(-999)):=ZG dq Zw
  refine ir 3 [(3,Z0 ts),(26,.b false)] ?_
  exact YG (wk [0] (fr (Zr false Zw fl))) hj1
 refine aq (ar (Z1 2 32 (.b (op==1)) (ie (XI (fun F h=>F=[(1,.i op),(2,.i num),(3,Z0 ts),(4,.p b1 0),(11,.i 0),(18,.i op),(32,.b ((op==1)||((op==2)||((op==3)||(op==4)))))]/\h=[.obj b1 [Zd n.decls,Xb n]]) ?_ ?_))))
 ·refine ac (op==1) Zh (fun Zk=>?_) (fun Zk=>?_)
  ·refine ak ?_
   exact ZV ⟨rfl,rfl⟩ (wk [0] (fq (fw (fc (x:=.b (op==1)) (lb (by first|rfl|(rw [Zm Zk])|(rw [Zb Zk])|(simp [Zk];done)|(rw [Xm];simp [Zk];done)|omega)) fl))))
  refine ar (ir 2 [(1,.i op),(2,.i num),(3,Z0 ts),(4,.p b1 0),(11,.i 0),(18,.i op),(32,.b (op==2))] (ie (ac (op==2) Zh (fun ZI=>?_) (fun ZI=>?_))))
  ·refine ak ?_
   exact ZV ⟨rfl,rfl⟩ (wk [0] (fq (fw (fc (x:=.b (op==2)) (lb (by first|rfl|(rw [Zm Zk])|(rw [Zb Zk])|(simp [Zk,ZI];done)|(rw [Xm];simp [Zk,ZI];done)|omega)) fl))))
  refine ar (Z5 2 (.n 32 (.b (op==3)) (.w (.k (.k .z)))) (ie (ac (op==3) Zh (fun Yi=>?_) (fun Yi=>?_))))
  ·refine ak ?_
   exact ZV ⟨rfl,rfl⟩ (wk [0] (fq (fw (fc (x:=.b (op==3)) (lb (by first|rfl|(rw [Zm Zk])|(rw [Zb Zk])|(simp [Zk,ZI,Yi];done)|(rw [Xm];simp [Zk,ZI,Yi];done)|omega)) fl))))
  refine az (Z5 2 (.n 32 (.b (op==4)) (.d .r)) (ie ?_))
  exact ZV ⟨rfl,rfl⟩ (wk [0] (fq (fw (fc (x:=.b (op==4)) (lb (by first|rfl|(rw [Zm Zk])|(rw [Zb Zk])|(simp [Zk,ZI,Yi];done)|(rw [Xm];simp [Zk,ZI,Yi];done)|omega)) fl))))
 rintro F h ⟨rfl,rfl⟩
 refine ac ((op==1)||((op==2)||((op==3)||(op==4)))) (p:=(op=1)∨((op=2)∨((op=3)∨(op=4)))) (Yh Zh (Yh Zh (Yh Zh Zh))) (fun Xk=>?_) (fun Xk=>?_)
 ·refine az (iL (Z8 [0,0]) 2 1 ?_)
  intro v1
  refine ir 1 [(2,.i num),(3,Z0 ts),(10,Z6 [0,0] v1),(11,.i 0)] (ie (ar (XP 8 [(141,.i 0),(148,.b ((num==0)&&(decide (ts=[0,0]))))] [.tail v1 1,.obj b1 [Zd n.decls,Xb n]] ?_ (fun hj3=>?_))))
  ·refine ir 2 [(8,.i 0),(9,.b ((num==0)&&(decide (ts=[0,0]))))] (ie ?_)
   have hF:=sf1 (n:=n) (num:=num) (ts:=ts) Xk
   exact Zc (r2 [] [.i 0,.b ((num==0)&&(decide (ts=[0,0])))] ⟨0,rfl,rfl,(A5 hF)⟩ (Zg.tup (.cons (lr _) (.cons (lb (A4 hF (by simp [*];try omega))) .nil))))
  refine ir 4 [(3,Z0 ts),(10,Z6 [0,0] v1),(141,.i 0),(144,.b (num==0))] (ib (b:=(num==0)) 144 (fun Yw=>?_) (fun Yw=>?_))
  ·have YX:num=0:=(Zh).1 Yw
   refine Z5 2 (.n 145 (Z0 ts) (.n 146 (Z0 [0,0]) (.k (.d (.d (.k .z)))))) (ZA [] (CI ts [0,0]) (Z1 1 148 (.b (decide (ts=[0,0]))) ?_))
   exact YG (wk [0,0] (fr (Zr (decide (ts=[0,0])) Yw fl))) hj3
  have Xy:¬(num=0):=ZG Zh Yw
  refine ir 4 [(141,.i 0),(148,.b false)] ?_
  exact YG (wk [0,0] (fr (Zr false Yw fl))) hj3
 refine ar (ir 2 [(1,.i op),(2,.i num),(3,Z0 ts),(4,.p b1 0),(11,.i 0),(18,.i op),(38,.b (op==5))] (ie (ac (op==5) Zh (fun Xl=>?_) (fun Xl=>?_))))
 ·refine az (iL (Z8 [0]) 1 1 ?_)
  intro v2
  refine Z1 1 10 (Z6 [0] v2) (ie (ar (XP 8 [(141,.i 0),(148,.b ((num==0)&&(decide (ts=[0]))))] [.tail v2 1,.obj b1 [Zd n.decls,Xb n]] ?_ (fun hj4=>?_))))
  ·refine ir 2 [(8,.i 0),(9,.b ((num==0)&&(decide (ts=[0]))))] (ie ?_)
   have hF:=sf5 (n:=n) (num:=num) (ts:=ts) Xl
   exact Zc (r2 [] [.i 0,.b ((num==0)&&(decide (ts=[0])))] ⟨0,rfl,rfl,(A5 hF)⟩ (Zg.tup (.cons (lr _) (.cons (lb (A4 hF (by simp [*];try omega))) .nil))))
  refine ir 4 [(3,Z0 ts),(10,Z6 [0] v2),(141,.i 0),(144,.b (num==0))] (ib (b:=(num==0)) 144 (fun Xg=>?_) (fun Xg=>?_))
  ·have Wh:num=0:=(Zh).1 Xg
   refine Z5 2 (.n 145 (Z0 ts) (.n 146 (Z0 [0]) (.k (.d (.d (.k .z)))))) (ZA [] (CI ts [0]) (Z1 1 148 (.b (decide (ts=[0]))) ?_))
   exact YG (wk [0,0] (fr (Zr (decide (ts=[0])) Xg fl))) hj4
  have WJ:¬(num=0):=ZG Zh Xg
  refine ir 4 [(141,.i 0),(148,.b false)] ?_
  exact YG (wk [0,0] (fr (Zr false Xg fl))) hj4
 refine ar (Z1 2 41 (.b (op==11)) (ie (ac (op==11) Zh (fun Vu=>?_) (fun Vu=>?_))))
 ·refine aq (ar (Z1 1 43 (Z0 ts) (iw (Yd ts) (Z1 1 45 (.b ((ts.length:Int) != 2)) (ie (ac ((ts.length:Int) != 2) Yc (fun Vm=>?_) (fun Vm=>?_)))))))
  ·refine ar (ir 2 [(8,.i (-1)),(9,.b false)] (ie ?_))
   have hF:=Z4i (n:=n) (num:=num) Vu Vm
   exact Zc (r2 [] [.i (-1),.b false] ⟨(-1),rfl,rfl,(CH hF)⟩ (Zg.tup (.cons (lr _) (.cons (lb (CG hF)) .nil))))
  refine ak (aD 12 (Y6 9 12 [0,1,2] (.n 48 (Zd n.decls) (.n 49 (Z0 ts) .r)) [0] [b1] ?_))
  obtain ⟨x1,Z3⟩:=Zs (xs:=ts) (j:=0) om
  refine dx 3 (Zo none 0 1 (Y3 Z3)) (ZY 7 8 [4] 51 (.i x1) (dK (fun F h=>∃(b2:Nat),F=[(2,.i num),(3,Z0 ts),(12,.p b2 0),(13,.b (X5 n.decls x1))]/\h=[.obj b2 (Ws (Wr n.decls x1)),.obj b1 [Zd n.decls,Xb n]]) ?_ ?_))
  ·refine Vh 5 9 ?_ ?_
   ·refine Ys 5 [] [] [] (DJ n.decls x1) (Xa 3 6 [6,7,8] [(2,.i num),(3,Z0 ts),(53,Ui (Wr n.decls x1)),(54,.b (X5 n.decls x1))] (Z9 9 (dA 9 [] [] [.i 0,.i 0,nl] ?_)))
    intro b2
    refine Z9 10 (YK 10 0 [] [] b2 (Ws (Wr n.decls x1)) (ZY 0 1 [11] 13 (.b (X5 n.decls x1)) (de ?_)))
    exact ZV ⟨b2,rfl,rfl⟩ (wk [0,0] fl)
   refine dA 9 [0] [b1] [.i 0,.i 0,nl] ?_
   intro b3
   refine Z9 5 (Ys 5 [] [] [] (DJ n.decls x1) (Xa 2 5 [6,7,8] [(2,.i num),(3,Z0 ts),(12,.p b3 0),(53,Ui (Wr n.decls x1)),(54,.b (X5 n.decls x1))] (Z9 10 (YK 10 0 [] [] b3 (Ws (Wr n.decls x1)) (ZY 0 1 [11] 13 (.b (X5 n.decls x1)) (de ?_))))))
   exact ZV ⟨b3,rfl,rfl⟩ (wk [0,0] fl)
  rintro F h ⟨b2,rfl,rfl⟩
  refine aD 17 (W2 13 17 [0,1,2,3] [(2,.i num),(3,Z0 ts),(12,.p b2 0),(56,.i ((Wr n.decls x1).to_)),(58,.b (X5 n.decls x1))] [0] [b2] (db (b:=X5 n.decls x1) 58 (fun W9=>?_) (fun W9=>?_)))
  ·have V2:X5 n.decls x1=true:=(Iff.rfl).1 W9
   refine ZZ 12 13 [4] (.n 59 (Z0 ts) (.k (.k (.d (.k (.k .z)))))) ?_
   obtain ⟨x2,Zv⟩:=Zs (xs:=ts) (j:=1) om
   refine dx 5 (Zo none 1 1 (Y3 Zv)) (Y6 4 11 [6,7,8,9,10,11,15] (.n 8 (.i ((Wr n.decls x1).to_)) (.n 66 (.b (x2==((Wr n.decls x1).frm))) .r)) [0] [b2] (db (b:=(x2==((Wr n.decls x1).frm))) 66 (fun WC=>?_) (fun WC=>?_)))
   ·have Ua:x2=((Wr n.decls x1).frm):=(Zh).1 WC
    refine ZZ 0 4 [12,13,14,16] (.n 9 (.b (num==0)) (.d (.k .z))) (de ?_)
    have hF:=GR (n:=n) (num:=num) Vu Vm Z3 Zv
    exact Zc (r2 [] [.i ((Wr n.decls x1).to_),.b (num==0)] ⟨(Wr n.decls x1).to_,rfl,rfl,(A5 hF)⟩ (Zg.tup (.cons (lr _) (.cons (lb (A4 hF (by simp [*];try omega))) .nil))))
   have UE:¬(x2=((Wr n.decls x1).frm)):=ZG Zh WC
   refine ZZ 0 4 [12,13,14,16] (.n 9 (.b false) (.d (.k .z))) (de ?_)
   have hF:=GR (n:=n) (num:=num) Vu Vm Z3 Zv
   exact Zc (r2 [] [.i ((Wr n.decls x1).to_),.b false] ⟨(Wr n.decls x1).to_,rfl,rfl,(A5 hF)⟩ (Zg.tup (.cons (lr _) (.cons (lb (A4 hF (by simp [*]))) .nil))))
  have Ur:¬(X5 n.decls x1=true):=ZG Iff.rfl W9
  refine Xa 0 13 [4,5,6,7,8,9,10,11,12,13,14,15,16] [(8,.i ((Wr n.decls x1).to_)),(9,.b false)] (de ?_)
  have hF:=Z4h (n:=n) (num:=num) Vu Vm Z3 (by assumption)
  exact Zc (r2 [] [.i ((Wr n.decls x1).to_),.b false] ⟨(Wr n.decls x1).to_,rfl,rfl,(CH hF)⟩ (Zg.tup (.cons (lr _) (.cons (lb (CG hF)) .nil))))
 refine ar (Z1 2 70 (.b (op==6)) (ie (ac (op==6) Zh (fun VF=>?_) (fun VF=>?_))))
 ·refine ar (Y1 3 74 (Zd n.decls) 75 (.i num) [0] [b1] (ZA [] (Li n.decls num) (Yo 3 77 (.i (Xt n.decls num)) 78 (.agg [Z0 (ZB n.decls num)]) (iA [nl] ?_))))
  intro b4
  refine Z1 1 14 (.i (Xt n.decls num)) (ZH 0 b4 [Z0 (ZB n.decls num)] (ie (ar (XP 9 [(79,.i (Xt n.decls num)),(87,.b ((decide ((Xt n.decls num)>=0))&&(decide (ts=(ZB n.decls num)))))] [.obj b4 [Z0 (ZB n.decls num)],.obj b1 [Zd n.decls,Xb n]] ?_ (fun hj5=>?_)))))
  ·refine ir 2 [(8,.i (Xt n.decls num)),(9,.b ((decide ((Xt n.decls num)>=0))&&(decide (ts=(ZB n.decls num)))))] (ie ?_)
   have hF:=sf6 (n:=n) (num:=num) (ts:=ts) VF
   exact Zc (r2 [] [.i (Xt n.decls num),.b ((decide ((Xt n.decls num)>=0))&&(decide (ts=(ZB n.decls num))))] ⟨Xt n.decls num,rfl,rfl,(A5 hF)⟩ (Zg.tup (.cons (lr _) (.cons (lb (A4 hF (by simp [*];try omega))) .nil))))
  refine ir 4 [(3,Z0 ts),(15,.p b4 0),(79,.i (Xt n.decls num)),(82,.b (decide ((Xt n.decls num)>=0)))] (ib (b:=(decide ((Xt n.decls num)>=0))) 82 (fun WU=>?_) (fun WU=>?_))
  ·have Tm:(Xt n.decls num)>=0:=(dq).1 WU
   refine Y2 3 (.n 83 (Z0 ts) (.n 85 (Z0 (ZB n.decls num)) (.k (.d (.d (.k .z)))))) [0] [b4] (ZA [] (CI ts (ZB n.decls num)) (Z1 1 87 (.b (decide (ts=(ZB n.decls num)))) ?_))
   exact YG (wk [0,0] (fr (Zr (decide (ts=(ZB n.decls num))) WU fl))) hj5
  have T5:¬((Xt n.decls num)>=0):=ZG dq WU
  refine Z5 5 (.n 87 (.b false) (.d (.d (.d (.k .z))))) ?_
  exact YG (wk [0,0] (fr (Zr false WU fl))) hj5
 refine aq (ar (Z1 2 88 (.b (op==9)) (ie (XI (fun F h=>F=[(1,.i op),(2,.i num),(3,Z0 ts),(4,.p b1 0),(88,.b ((op==9)||(op==10)))]/\h=[.obj b1 [Zd n.decls,Xb n]]) ?_ ?_))))
 ·refine ac (op==9) Zh (fun UD=>?_) (fun UD=>?_)
  ·refine ak ?_
   exact ZV ⟨rfl,rfl⟩ (wk [0] (fq (fc (x:=.b (op==9)) (lb (by first|rfl|(rw [Zm UD])|(rw [Zb UD])|(simp [UD];done)|(rw [Xm];simp [UD];done)|omega)) fl)))
  refine az (ir 2 [(1,.i op),(2,.i num),(3,Z0 ts),(4,.p b1 0),(88,.b (op==10))] (ie ?_))
  exact ZV ⟨rfl,rfl⟩ (wk [0] (fq (fc (x:=.b (op==10)) (lb (by first|rfl|(rw [Zm UD])|(rw [Zb UD])|(simp [UD];done)|(rw [Xm];simp [UD];done)|omega)) fl)))
 rintro F h ⟨rfl,rfl⟩
 refine ac ((op==9)||(op==10)) (p:=(op=9)∨(op=10)) (Yh Zh Zh) (fun K1=>?_) (fun K1=>?_)
 ·refine aq (ar (Xp [(1,.i op),(2,.i num),(3,Z0 ts),(4,.p b1 0),(99,.b ((decide (num<0))||(decide (num>=(((n.routines.map XD).length:Nat):Int)))))] [.obj b1 [Zd n.decls,Xb n]] ?_ ?_))
  ·refine ir 3 [(1,.i op),(2,.i num),(3,Z0 ts),(4,.p b1 0),(93,.b (decide (num<0)))] (ib (b:=(decide (num<0))) 93 (fun WH=>?_) (fun WH=>?_))
   ·have Qz:num<0:=(dq).1 WH
    refine Z5 6 (.n 99 (.b true) (.d (.w .z))) (ie ?_)
    exact wk [0] (fq (Zr true WH fl))
   have QA:¬(num<0):=ZG dq WH
   refine Y2 3 (.n 94 (.i num) (.n 96 (Xb n) (.w (.k .z)))) [0] [b1] (io (.i (((n.routines.map XD).length:Nat):Int)) (.i (((UB (n.routines.map XD)).length:Nat):Int)) (li (by rw [C0])) (Z1 2 99 (.b (decide (num>=(((n.routines.map XD).length:Nat):Int)))) (ie ?_)))
   exact wk [0] (fq (Zr (decide (num>=(((n.routines.map XD).length:Nat):Int))) WH fl))
  refine ac ((decide (num<0))||(decide (num>=(((n.routines.map XD).length:Nat):Int)))) (p:=(num<0)∨(num>=(((n.routines.map XD).length:Nat):Int))) (Yh dq dq) (fun T4=>?_) (fun T4=>?_)
  ·refine ar (ir 2 [(8,.i (-1)),(9,.b false)] (ie ?_))
   have hF:=Z4j (n:=n) (ts:=ts) K1 T4
   exact Zc (r2 [] [.i (-1),.b false] ⟨(-1),rfl,rfl,(CH hF)⟩ (Zg.tup (.cons (lr _) (.cons (lb (CG hF)) .nil))))
  refine ak (aD 14 (W2 11 14 [0,1,2] [(1,.i op),(2,.i num),(3,Z0 ts),(4,.p b1 0),(101,Xb n),(102,.i num)] [0] [b1] ?_))
  obtain ⟨x3,YT⟩:=Zs (xs:=(n.routines.map XD)) (j:=num.toNat) om
  obtain ⟨r,hr,hrx⟩:=Eh YT
  have hrp:=hn.params_at hr
  have hpx:x3.pms=r.params:=by rw [hrx];rfl
  have hpl:x3.pms.length<=3:=by rw [hpx];exact hrp
  refine dx 3 (Zo none num 3 (Bh YT)) (Y6 5 10 [4,5,6,7,8] (.n 105 (Z0 x3.pms) (.n 107 (Xb n) (.n 108 (.i num) .r))) [0] [b1] (dx 9 (Zo none num 3 (Bh YT)) (ZZ 0 4 [10,11,12,13] (.n 10 (Z0 x3.pms) (.n 11 (.i x3.res) .r)) (de (aq (ar (Z1 2 113 (.b (op==9)) (ie (ac (op==9) Zh (fun Qy=>?_) (fun Qy=>?_))))))))))
  ·refine ar (ir 3 [(114,.i x3.res),(115,Z0 ts),(116,Z0 x3.pms)] (ZA [] (CI ts x3.pms) (ir 2 [(8,.i x3.res),(9,.b (decide (ts=x3.pms)))] (ie ?_))))
   have hF:=sf9 (ts:=ts) Qy T4 YT
   exact Zc (r2 [] [.i x3.res,.b (decide (ts=x3.pms))] ⟨x3.res,rfl,rfl,(A5 hF)⟩ (Zg.tup (.cons (lr _) (.cons (lb (A4 hF (by simp [*];try omega))) .nil))))
  refine ak (ar (Z1 1 118 (Z0 x3.pms) (iw (Yd x3.pms) (ia (((x3.pms.length:Int)-1)) (((x3.pms.length:Int))-(1)) (Z1 1 16 (.i ((x3.pms.length:Int)-1)) (ie (aq (ar (Z1 2 122 (.b (decide (((x3.pms.length:Int)-1)<0))) (ie (ZM (((x3.pms.length:Int)-1)<0) (fun AG=>?_) (fun AG=>?_))))))))))))
  ·refine ar (ir 2 [(8,.i (-1)),(9,.b false)] (ie ?_))
   have hF:=Z4g (ts:=ts) (K1.resolve_left Qy) T4 YT AG
   exact Zc (r2 [] [.i (-1),.b false] ⟨(-1),rfl,rfl,(CH hF)⟩ (Zg.tup (.cons (lr _) (.cons (lb (CG hF)) .nil))))
  refine ak (aD 9 (Y6 5 9 [0,1,2,3] (.n 124 (Zd n.decls) (.n 125 (Z0 x3.pms) (.n 126 (.i ((x3.pms.length:Int)-1)) .r))) [0] [b1] ?_))
  obtain ⟨x4,Ub⟩:=Zs (xs:=x3.pms) (j:=((x3.pms.length:Int)-1).toNat) om
  refine dx 4 (Zo none ((x3.pms.length:Int)-1) 1 (Y3 Ub)) (ZZ 2 4 [5,6] (.n 128 (.i x4) (.n 129 (.i x3.res) .r)) (Z9 7 (Ys 7 [] [] [] (Z0d n.decls x4 x3.res) (ZY 0 1 [8] 17 (.i (WT n.decls x4 x3.res)) (de (ar (XP 10 [(131,.i (WT n.decls x4 x3.res)),(140,.b ((decide ((WT n.decls x4 x3.res)>=0))&&(decide (ts=(x3.pms.take (((x3.pms.length:Int)-1).toNat))))))] [.obj b1 [Zd n.decls,Xb n]] ?_ (fun hj6=>?_))))))))
  ·refine ir 2 [(8,.i (WT n.decls x4 x3.res)),(9,.b ((decide ((WT n.decls x4 x3.res)>=0))&&(decide (ts=(x3.pms.take (((x3.pms.length:Int)-1).toNat))))))] (ie ?_)
   have hF:=Z4f (ts:=ts) (K1.resolve_left Qy) T4 YT AG Ub
   exact Zc (r2 [] [.i (WT n.decls x4 x3.res),.b ((decide ((WT n.decls x4 x3.res)>=0))&&(decide (ts=(x3.pms.take (((x3.pms.length:Int)-1).toNat)))))] ⟨WT n.decls x4 x3.res,rfl,rfl,(A5 hF)⟩ (Zg.tup (.cons (lr _) (.cons (lb (A4 hF (by rw [Xm];simp))) .nil))))
  refine ir 4 [(3,Z0 ts),(10,Z0 x3.pms),(16,.i ((x3.pms.length:Int)-1)),(131,.i (WT n.decls x4 x3.res)),(134,.b (decide ((WT n.decls x4 x3.res)>=0)))] (ib (b:=(decide ((WT n.decls x4 x3.res)>=0))) 134 (fun WI=>?_) (fun WI=>?_))
  ·have Je:(WT n.decls x4 x3.res)>=0:=(dq).1 WI
   refine Z5 3 (.n 135 (Z0 ts) (.n 136 (Z0 x3.pms) (.n 137 (.i ((x3.pms.length:Int)-1)) (.k (.d (.d (.d (.k .z)))))))) (Zq (K9 (es:=Z8 x3.pms) (hv:=none) (l:=0) (m:=((x3.pms.length:Int)-1)) (sz:=1) (es':=Z8 (x3.pms.take (((x3.pms.length:Int)-1).toNat))) kr om (by simp<;>omega) (by simp<;>omega) (YD _) (by first|(simp only [VL,Vl,Kr,J1];done)|(simp only [VL,Vl,Kr,J1];rfl)|(simp [Kr,J1];done))) (ZA [] (CI ts (x3.pms.take (((x3.pms.length:Int)-1).toNat))) (Z1 1 140 (.b (decide (ts=(x3.pms.take (((x3.pms.length:Int)-1).toNat))))) ?_)))
   exact YG (wk [0] (fr (Zr (decide (ts=(x3.pms.take (((x3.pms.length:Int)-1).toNat)))) WI fl))) hj6
  have QB:¬((WT n.decls x4 x3.res)>=0):=ZG dq WI
  refine Z5 6 (.n 140 (.b false) (.d (.d (.d (.d (.k .z)))))) ?_
  exact YG (wk [0] (fr (Zr false WI fl))) hj6
 refine ar (ir 2 [(8,.i (-1)),(9,.b false)] (ie ?_))
 have hF:=sfd (n:=n) (num:=num) (ts:=ts) Ze Xk Xl Vu VF K1
 exact Zc (r2 [] [.i (-1),.b false] ⟨(-1),rfl,rfl,(CH hF)⟩ (Zg.tup (.cons (lr _) (.cons (lb (CG hF)) .nil))))
theorem Ll (n:Zy) (us:List Int) (ks:List Z7) (ms:List (List Int)) (hn:Xe n:=by exact ob) (hnn:∀t∈us,0<=t) (hk:0<ks.length:=by exact ob) (hl:ks.length=ms.length:=by exact ob) (hb:us.length+3+4*YY ks<=1000000000:=by exact ob) (hr:TO ks:=by exact ob) (hm3:∀m∈ms,m.length<=3) (hmn:∀m∈ms,∀f∈m,0<=f) (ih:∀(b:Z7) (us:List Int),(b.sz<=YY ks)->(us.length+4*b.sz<=1000000000)->(b.rng)->(∀t∈us,0<=t)->Zj Tryz.prog 56 [.agg [Zd n.decls,Xb n],Z0 us,Zx b] [] (fun r h=>r=.i (YR n us b)/\h=[])):Zj Tryz.prog 130 [.agg [Zd n.decls,Xb n],Z0 us,Yz ks,WD ms] [] (fun r h=>r=.tup [.i (Wi n us ks ms true 0),.b (decide (0<=Wi n us ks ms true 0))]/\h=[]):=by
 have hkl:=HQ ks
 refine ZK 45 Tryz.func130 (ar (iA [Zd n.decls,Xb n] ?_))
 intro b1
 refine ir 2 [(1,Z0 us),(2,Yz ks),(3,WD ms),(4,.p b1 0)] (ie (ar (Z1 1 10 (.i (-1)) (ie (aq (ar (Z1 1 14 (Yz ks) (iw (VX ks) (Z1 1 16 (.i 0) (ie (ab 0 (al (fun m F h=>∃(k:Nat) (t:Int),(k<=ks.length)/\(0<k->0<=t)/\(Wi n us (ks.drop k) (ms.drop k) (decide (k=0)) t=Wi n us ks ms true 0)/\F=[(1,Z0 us),(3,WD ms),(4,.p b1 0),(10,.i t),(14,Yz ks),(15,.i ks.length),(16,.i k)]/\h=[.obj b1 [Zd n.decls,Xb n]]/\m=ks.length-k) _ _ _ ⟨0,(-1),ob,ob,(Z1f hk (-1)),rfl,rfl,rfl⟩ (wk [0] (fq (fw (Ye fl)))) ?_))))))))))))
 rintro m F h ⟨k,t,Ym,Zp,Zz,rfl,rfl,rfl⟩
 refine ar (Z1 1 17 (.b (decide ((k:Int)<(ks.length:Int)))) (ie (aq (ZM ((k:Int)<(ks.length:Int)) (fun Ze=>?_) (fun Ze=>?_)))))
 ·refine ak (aq (ab 1 (ar (Z1 1 18 (.i k) ?_))))
  obtain ⟨x1,Z3⟩:=Zs (xs:=ks) (j:=k) om
  have ZD:=HR Z3
  have hbr:=HP hr Z3
  refine Zq (Zo none (k:Int) 2 (UA Z3)) (Z1 1 20 (Zx x1) (iA [nl,.i 0] ?_))
  intro b2
  refine Z1 1 11 (.i k) (ZH 0 b2 (Yn x1) (ie (aD 11 (Y6 7 11 [0,1,2,3] (.n 21 (.agg [Zd n.decls,Xb n]) (.n 22 (Z0 us) (.n 23 (WD ms) (.n 24 (.i k) .r)))) [1] [b1] ?_))))
  obtain ⟨x2,Zv⟩:=Zs (xs:=ms) (j:=k) om
  have hxl:=hm3 x2 (Y7 Zv)
  have hxn:=hmn x2 (Y7 Zv)
  refine dx 4 (Zo none (k:Int) 1 (Dj Zv)) (Y6 4 6 [5,8] (.n 26 (Z0 x2) (.n 29 (Zx x1) .r)) [0] [b2] (Z9 6 (dL 6 [0,1] [b2,b1] (W7 [us,x2]) 2 1 ?_)))
  intro v1
  refine ZZ 3 3 [] (.n 27 (WD [us,x2]) (.p .r)) (Z9 7 (dc 7 [] [0,1] [b2,b1] (Z4n [us,x2] (hf:=(by simp only [CN,Yx];omega))) ?_))
  rintro _ _ ⟨v2,rfl,rfl⟩
  refine ZZ 2 2 [] (.n 28 (Z0 ([us,x2].flatten)) (.p .r)) (Z9 9 (Ys 9 [] [] [] (ih x1 ([us,x2].flatten) ob (by simp only [CN,Yx];omega) ob (by rw [CN];exact LX hnn hxn)) (ZY 0 1 [10] 13 (.i (YR n ([us,x2].flatten) x1)) (de (aq (ar (Xp [(1,Z0 us),(3,WD ms),(4,.p b1 0),(13,.i (YR n ([us,x2].flatten) x1)),(14,Yz ks),(15,.i ks.length),(16,.i k),(41,.b ((decide ((YR n ([us,x2].flatten) x1)<0))||((decide ((k:Int)>0))&&((YR n ([us,x2].flatten) x1) != t))))] [.tail v2 1,.tail v1 1,.obj b2 (Yn x1),.obj b1 [Zd n.decls,Xb n]] ?_ ?_)))))))
  ·refine ir 3 [(1,Z0 us),(3,WD ms),(4,.p b1 0),(10,.i t),(11,.i k),(13,.i (YR n ([us,x2].flatten) x1)),(14,Yz ks),(15,.i ks.length),(16,.i k),(33,.b (decide ((YR n ([us,x2].flatten) x1)<0)))] (ib (b:=(decide ((YR n ([us,x2].flatten) x1)<0))) 33 (fun Za=>?_) (fun Za=>?_))
   ·have ZP:(YR n ([us,x2].flatten) x1)<0:=(dq).1 Za
    refine Z5 8 (.n 41 (.b true) (.d (.k (.k (.k (.d (.d (.w .z)))))))) (ie ?_)
    exact ZL 4 (fq (fw (fr (Zr true Za fl))))
   have Y0:¬((YR n ([us,x2].flatten) x1)<0):=ZG dq Za
   refine Z5 3 (.n 36 (.b (decide ((k:Int)>0))) (.w (.k (.d (.w .z))))) (ib (b:=(decide ((k:Int)>0))) 36 (fun Zw=>?_) (fun Zw=>?_))
   ·have YB:(k:Int)>0:=(dq).1 Zw
    refine Z5 5 (.n 41 (.b ((YR n ([us,x2].flatten) x1) != t)) (.k (.d .r))) (ie ?_)
    exact ZL 4 (fq (fw (fr (Zr ((YR n ([us,x2].flatten) x1) != t) (And.intro Za Zw) fl))))
   have YN:¬((k:Int)>0):=ZG dq Zw
   refine Z5 5 (.n 41 (.b false) (.k (.d .r))) (ie ?_)
   exact ZL 4 (fq (fw (fr (Zr false (And.intro Za Zw) fl))))
  refine ac ((decide ((YR n ([us,x2].flatten) x1)<0))||((decide ((k:Int)>0))&&((YR n ([us,x2].flatten) x1) != t))) (p:=((YR n ([us,x2].flatten) x1)<0)∨(((k:Int)>0)/\((YR n ([us,x2].flatten) x1)≠t))) (Yh dq (YE dq Yc)) (fun Zk=>?_) (fun Zk=>?_)
  ·refine ar (ir 2 [(8,.i (-1)),(9,.b false)] (ie ?_))
   have hK:Wi n us ks ms true 0=-1:=by rw [<-Zz];rw [CN] at Zk;exact LE Z3 Zv Zk
   exact Zc (r2 [] [.i (-1),.b false] ⟨rfl,rfl⟩ (Zg.tup (.cons (li (by rw [hK])) (.cons (lb (by rw [hK];rfl)) .nil))))
  refine ak (az (ir 2 [(1,Z0 us),(3,WD ms),(4,.p b1 0),(10,.i (YR n ([us,x2].flatten) x1)),(14,Yz ks),(15,.i ks.length),(16,.i k)] (ie (az (ZO k (Z5 1 (.n 16 (.i (k+1:Nat)) (.p (.w (.k (.k .z))))) (ie ?_)))))))
  exact ZQ ⟨k+1,YR n ([us,x2].flatten) x1,ob,(by intro _;omega),(by rw [CN] at Zk ⊢;rw [<-Zz];exact (LG Z3 Zv Zk).symm),rfl,rfl,rfl⟩ (wk [3] (fq (fw (ZW k fl))))
 refine ax 0 (ar (ir 3 [(8,.i t),(9,.b true)] (ie ?_)))
 have hK:Wi n us ks ms true 0=t:=by rw [<-Zz];exact LF om
 exact Zc (r2 [] [.i t,.b true] ⟨rfl,rfl⟩ (Zg.tup (.cons (li (by rw [hK])) (.cons (lb (by rw [hK];exact (decide_eq_true (Zp om)).symm)) .nil))))
theorem Z0n (n:Zy) (us:List Int) (s:Z4) (hn:Xe n) (hty:B4 n) (hnn:∀t∈us,0<=t) (hb:us.length+4*s.sz<=1000000000) (hr:s.rng) (ih:∀(b:Z7) (us:List Int),(b.sz<s.sz)->(us.length+4*b.sz<=1000000000)->(b.rng)->(∀t∈us,0<=t)->Zj Tryz.prog 56 [.agg [Zd n.decls,Xb n],Z0 us,Zx b] [] (fun r h=>r=.i (YR n us b)/\h=[])):Zj Tryz.prog 93 [.agg [Zd n.decls,Xb n],Z0 us,Y4 s] [] (fun r h=>∃(t:Int),r=.tup [.i t,.b (decide (0<=ZT n us s))]/\h=[]/\(¬YF s.op=true->0<=ZT n us s->t=ZT n us s)):=by
 have Xu:=hn.decls
 have hkz:=T8 s
 have haz:=Q7 s
 have hse:=s.sz_eq
 rw [s.rng_eq] at hr
 obtain ⟨hnum,hkr⟩:=hr
 refine ZK 233 Tryz.func93 (ar (iA [Zd n.decls,Xb n] ?_))
 intro b1
 refine iA (Yg s) ?_
 intro b2
 refine ir 2 [(1,Z0 us),(3,.p b1 0),(5,.p b2 0)] (ie (ar (Yk 2 16 (Z0 s.args) [0] [b2] (iw (Yd s.args) (iM 0 s.args.length ?_)))))
 intro v1
 refine Z1 1 8 (Z6 [] v1) (ie (aq (ar (Yk 2 20 (Z0 s.args) [1] [b2] (iw (Yd s.args) (Z1 1 22 (.i 0) (ie (ab 0 (al (fun m F h=>∃(k:Nat) (ts:List Int) (v:Value),(k<=s.args.length)/\(ts.length=k)/\(W0 us (s.args.take k)=some ts)/\F=[(1,Z0 us),(3,.p b1 0),(5,.p b2 0),(8,Z6 ts v),(20,Z0 s.args),(21,.i s.args.length),(22,.i k)]/\h=[.obj b2 (Yg s),.obj b1 [Zd n.decls,Xb n],.tail v 1]/\m=s.args.length-k) _ _ _ ⟨0,[],v1,ob,ob,ob,rfl,rfl,rfl⟩ (wk [1,1,0] (fq (fw (Ye fl)))) ?_)))))))))
 rintro m F h ⟨k,ts,v,Ym,Zp,Zz,rfl,rfl,rfl⟩
 refine ar (Z1 1 23 (.b (decide ((k:Int)<(s.args.length:Int)))) (ie (aq (ZM ((k:Int)<(s.args.length:Int)) (fun Ze=>?_) (fun Ze=>?_)))))
 ·refine ak (aq (ab 1 (ar ?_)))
  obtain ⟨x1,Z3⟩:=Zs (xs:=s.args) (j:=k) om
  refine Zq (Zo none (k:Int) 1 (Y3 Z3)) (Z1 2 10 (.i x1) (ie (aq (ar (Xp [(1,Z0 us),(3,.p b1 0),(5,.p b2 0),(8,Z6 ts v),(10,.i x1),(20,Z0 s.args),(21,.i s.args.length),(22,.i k),(33,.b ((decide (x1<0))||(decide (x1>=(us.length:Int)))))] [.obj b2 (Yg s),.obj b1 [Zd n.decls,Xb n],.tail v 1] ?_ ?_)))))
  ·refine ir 3 [(1,Z0 us),(3,.p b1 0),(5,.p b2 0),(8,Z6 ts v),(10,.i x1),(20,Z0 s.args),(21,.i s.args.length),(22,.i k),(28,.b (decide (x1<0)))] (ib (b:=(decide (x1<0))) 28 (fun Za=>?_) (fun Za=>?_))
   ·have ZP:x1<0:=(dq).1 Za
    refine Z5 5 (.n 33 (.b true) (.d (.w (.w .z)))) (ie ?_)
    exact ZL 3 (fq (fq (Zr true Za fl)))
   have Y0:¬(x1<0):=ZG dq Za
   refine Z5 2 (.n 29 (.i x1) (.n 30 (Z0 us) (.w (.w (.k .z))))) (iw (Yd us) (Z1 2 33 (.b (decide (x1>=(us.length:Int)))) (ie ?_)))
   exact ZL 3 (fq (fq (Zr (decide (x1>=(us.length:Int))) Za fl)))
  refine ac ((decide (x1<0))||(decide (x1>=(us.length:Int)))) (p:=(x1<0)∨(x1>=(us.length:Int))) (Yh dq dq) (fun Zk=>?_) (fun Zk=>?_)
  ·refine ar (ir 2 [(6,.i (-1)),(7,.b false)] (ie ?_))
   have hS:ZT n us s=-1:=Z6h (Hz Z3 (Q9 om))
   exact Zc (r2 [] [.i (-1),.b false] ⟨(-1),rfl,rfl,(by intro _ h;rw [hS] at h;omega)⟩ (Zg.tup (.cons (lr _) (.cons (lb (by rw [hS];rfl)) .nil))))
  refine ak (az (ir 3 [(1,Z0 us),(3,.p b1 0),(5,.p b2 0),(20,Z0 s.args),(21,.i s.args.length),(22,.i k),(34,Z6 ts v),(35,Z0 us),(36,.i x1)] ?_))
  obtain ⟨x2,Zv⟩:=Zs (xs:=us) (j:=x1.toNat) om
  refine Zq (Zo none x1 1 (Y3 Zv)) (Z1 1 38 (.i x2) (iL (Z8 [x2]) 1 1 ?_))
  intro v2
  refine Z5 0 (.n 39 (Z0 [x2]) (.p .r)) (ip 3 (Z8 (ts++[x2])) (Z8 ts) (Z8 [x2]) v none 1 (YD _) (YD _) (XY _) (by simp<;>omega) (by simp [XX,Z8]) ?_)
  intro v3
  refine Z1 1 8 (Z6 (ts++[x2]) v3) (ie (az (ZO k (Z5 1 (.n 22 (.i (k+1:Nat)) (.p (.k (.p (.d (.d (.p (.w (.k .z))))))))) (ie ?_)))))
  exact ZQ ⟨k+1,(ts++[x2]),v3,ob,ob,(Oz Zz Z3 (by rw [Tw om Zv])),rfl,rfl,rfl⟩ (wk [2,2,0] (fq (fw (ZW k fl))))
 refine ax 0 (aq (ar (Xp [(1,Z0 us),(3,.p b1 0),(5,.p b2 0),(8,Z6 ts v),(70,.b ((s.into != 0)&&((s.op != 6)||((decide (s.into<1))||((decide (s.into>(us.length:Int)))||((gI us (s.into-1))==0))))))] [.obj b2 (Yg s),.obj b1 [Zd n.decls,Xb n],.tail v 1] ?_ ?_)))
 ·refine iR 4 [(1,Z0 us),(3,.p b1 0),(5,.p b2 0),(8,Z6 ts v),(45,.b (s.into != 0))] [0] [b2] (ib (b:=(s.into != 0)) 45 (fun Zw=>?_) (fun Zw=>?_))
  ·have YB:s.into≠0:=(Yc).1 Zw
   refine Y2 4 (.n 49 (.b (s.op != 6)) (.w (.k .z))) [0] [b2] (ib (b:=(s.op != 6)) 49 (fun Yw=>?_) (fun Yw=>?_))
   ·have YN:s.op≠6:=(Yc).1 Yw
    refine Z5 21 (.n 70 (.b true) (.k (.d .r))) (ie ?_)
    exact ZL 3 (fq (Zr true (And.intro Zw Yw) fl))
   have YX:¬(s.op≠6):=ZG Yc Yw
   refine Y2 5 (.n 54 (.b (decide (s.into<1))) (.d (.d .r))) [0] [b2] (ib (b:=(decide (s.into<1))) 54 (fun Xg=>?_) (fun Xg=>?_))
   ·have Xy:s.into<1:=(dq).1 Xg
    refine Z5 16 (.n 70 (.b true) (.k (.d .r))) (ie ?_)
    exact ZL 3 (fq (Zr true (And.intro Zw (And.intro Yw Xg)) fl))
   have Wh:¬(s.into<1):=ZG dq Xg
   refine Y2 3 (.n 56 (.i s.into) (.n 57 (Z0 us) (.k (.d .r)))) [0] [b2] (iw (Yd us) (Z1 3 61 (.b (decide (s.into>(us.length:Int)))) (ib (b:=(decide (s.into>(us.length:Int)))) 61 (fun W9=>?_) (fun W9=>?_))))
   ·have WJ:s.into>(us.length:Int):=(dq).1 W9
    refine Z5 9 (.n 70 (.b true) (.k (.d .r))) (ie ?_)
    exact ZL 3 (fq (Zr true (And.intro Zw (And.intro Yw (And.intro Xg W9))) fl))
   have V2:¬(s.into>(us.length:Int)):=ZG dq W9
   refine Y2 3 (.n 62 (Z0 us) (.n 64 (.i s.into) (.k (.d .r)))) [0] [b2] (ia ((s.into-1)) ((s.into)-(1)) (Zq (A8 (es:=Z8 us) (hv:=none) (j:=(s.into-1)) (sz:=1) (y:=.i (gI us (s.into-1))) kr om (Y3 (IG om)) rfl) (Z1 4 70 (.b ((gI us (s.into-1))==0)) (ie ?_))))
   exact ZL 3 (fq (Zr ((gI us (s.into-1))==0) (And.intro Zw (And.intro Yw (And.intro Xg W9))) fl))
  have Ua:¬(s.into≠0):=ZG Yc Zw
  refine Z5 25 (.n 70 (.b false) (.d (.w .z))) (ie ?_)
  exact ZL 3 (fq (Zr false Zw fl))
 refine ac ((s.into != 0)&&((s.op != 6)||((decide (s.into<1))||((decide (s.into>(us.length:Int)))||((gI us (s.into-1))==0))))) (p:=(s.into≠0)/\((s.op≠6)∨((s.into<1)∨((s.into>(us.length:Int))∨((gI us (s.into-1))=0))))) (YE Yc (Yh Yc (Yh dq (Yh dq Zh)))) (fun ZI=>?_) (fun ZI=>?_)
 ·refine ar (ir 2 [(6,.i (-1)),(7,.b false)] (ie ?_))
  have hS:ZT n us s=-1:=Z6i (Jf.1 ZI)
  exact Zc (r2 [] [.i (-1),.b false] ⟨(-1),rfl,rfl,(by intro _ h;rw [hS] at h;omega)⟩ (Zg.tup (.cons (lr _) (.cons (lb (by rw [hS];rfl)) .nil))))
 refine ak (aq (ab 2 (ar (iR 2 [(1,Z0 us),(3,.p b1 0),(5,.p b2 0),(8,Z6 ts v),(73,.i s.op)] [0] [b2] (ZA [] (Lj s.op) (Z1 1 71 (.b (YF s.op)) (ie (ac (YF s.op) Iff.rfl (fun Yi=>?_) (fun Yi=>?_)))))))))
 ·refine ar (Z1 1 75 (Z6 ts v) (iw (Yd ts) (XP 9 [(3,.p b1 0),(5,.p b2 0),(8,Z6 ts v),(83,.b (((ts.length:Int)==1)&&((gI ts 0) != 0)))] [.obj b2 (Yg s),.obj b1 [Zd n.decls,Xb n],.tail v 1] ?_ (fun hj1=>?_))))
  ·refine XP 14 [(3,.p b1 0),(5,.p b2 0),(8,Z6 ts v),(88,.b ((((ts.length:Int)==1)&&((gI ts 0) != 0))&&(s.num==0)))] [.obj b2 (Yg s),.obj b1 [Zd n.decls,Xb n],.tail v 1] ?_ (fun hj2=>?_)
   ·refine XP 20 [(3,.p b1 0),(5,.p b2 0),(8,Z6 ts v),(94,.b (((((ts.length:Int)==1)&&((gI ts 0) != 0))&&(s.num==0))&&((s.kids.length:Int)==0)))] [.obj b2 (Yg s),.obj b1 [Zd n.decls,Xb n],.tail v 1] ?_ (fun hj3=>?_)
    ·refine ir 1 [(3,.p b1 0),(5,.p b2 0),(8,Z6 ts v),(11,.b (((((ts.length:Int)==1)&&((gI ts 0) != 0))&&(s.num==0))&&((s.kids.length:Int)==0)))] (ie (aq (ar (Xp [(3,.p b1 0),(8,Z6 ts v),(11,.b (((((ts.length:Int)==1)&&((gI ts 0) != 0))&&(s.num==0))&&((s.kids.length:Int)==0))),(105,.b ((((((ts.length:Int)==1)&&((gI ts 0) != 0))&&(s.num==0))&&((s.kids.length:Int)==0))&&((s.op==16)||(s.op==17))))] [.obj b2 (Yg s),.obj b1 [Zd n.decls,Xb n],.tail v 1] ?_ ?_))))
     ·refine ir 2 [(3,.p b1 0),(5,.p b2 0),(8,Z6 ts v),(11,.b (((((ts.length:Int)==1)&&((gI ts 0) != 0))&&(s.num==0))&&((s.kids.length:Int)==0))),(96,.b (((((ts.length:Int)==1)&&((gI ts 0) != 0))&&(s.num==0))&&((s.kids.length:Int)==0)))] (ib (b:=(((((ts.length:Int)==1)&&((gI ts 0) != 0))&&(s.num==0))&&((s.kids.length:Int)==0))) 96 (fun WC=>?_) (fun WC=>?_))
      ·have UE:((((ts.length:Int)=1)/\((gI ts 0)≠0))/\(s.num=0))/\((s.kids.length:Int)=0):=((YE (YE (YE Zh Yc) Zh) Zh)).1 WC
       refine Y2 4 (.n 100 (.b (s.op==16)) (.w (.k .z))) [0] [b2] (ib (b:=(s.op==16)) 100 (fun WU=>?_) (fun WU=>?_))
       ·have Ur:s.op=16:=(Zh).1 WU
        refine Z5 5 (.n 105 (.b true) (.k (.d .r))) (ie ?_)
        exact ZL 3 (fw (fr (Zr true (And.intro WC WU) fl)))
       have Tm:¬(s.op=16):=ZG Zh WU
       refine Y2 5 (.n 105 (.b (s.op==17)) (.k (.d .r))) [0] [b2] (ie ?_)
       exact ZL 3 (fw (fr (Zr (s.op==17) (And.intro WC WU) fl)))
      have T5:¬(((((ts.length:Int)=1)/\((gI ts 0)≠0))/\(s.num=0))/\((s.kids.length:Int)=0)):=ZG (YE (YE (YE Zh Yc) Zh) Zh) WC
      refine Z5 9 (.n 105 (.b false) (.d (.k (.d (.k (.k .z)))))) (ie ?_)
      exact ZL 3 (fw (fr (Zr false WC fl)))
     refine ac ((((((ts.length:Int)==1)&&((gI ts 0) != 0))&&(s.num==0))&&((s.kids.length:Int)==0))&&((s.op==16)||(s.op==17))) (p:=(((((ts.length:Int)=1)/\((gI ts 0)≠0))/\(s.num=0))/\((s.kids.length:Int)=0))/\((s.op=16)∨(s.op=17))) (YE (YE (YE (YE Zh Yc) Zh) Zh) (Yh Zh Zh)) (fun Xk=>?_) (fun Xk=>?_)
     ·refine aD 12 (W2 9 12 [0,1,2] [(108,Zd n.decls),(109,Z6 ts v)] [1] [b1] (dx 3 (A8 (es:=Z8 ts) (hv:=some v) (j:=0) (sz:=1) (y:=.i (gI ts 0)) kr om (Y3 (Dw om)) rfl) (ZY 7 8 [4] 111 (.i (gI ts 0)) (dK (fun F h=>F=[(13,.b (X5 n.decls (gI ts 0)))]/\h=[.obj b2 (Yg s),.obj b1 [Zd n.decls,Xb n],.tail v 1]) ?_ ?_))))
      ·refine Vh 5 9 ?_ ?_
       ·refine Ys 5 [] [] [] (DJ n.decls (gI ts 0)) (Xa 3 6 [6,7,8] [(113,Ui (Wr n.decls (gI ts 0))),(114,.b (X5 n.decls (gI ts 0)))] (Z9 9 (dA 9 [] [] [.i 0,.i 0,nl] ?_)))
        intro b3
        refine Z9 10 (YK 10 0 [] [] b3 (Ws (Wr n.decls (gI ts 0))) (Xa 0 1 [11] [(13,.b (X5 n.decls (gI ts 0)))] (de ?_)))
        exact ZV ⟨rfl,rfl⟩ (wk [1,1,1] fl)
       refine dA 9 [1] [b1] [.i 0,.i 0,nl] ?_
       intro b4
       refine Z9 5 (Ys 5 [] [] [] (DJ n.decls (gI ts 0)) (Xa 2 5 [6,7,8] [(12,.p b4 0),(113,Ui (Wr n.decls (gI ts 0))),(114,.b (X5 n.decls (gI ts 0)))] (Z9 10 (YK 10 0 [] [] b4 (Ws (Wr n.decls (gI ts 0))) (Xa 0 1 [11] [(13,.b (X5 n.decls (gI ts 0)))] (de ?_))))))
       exact ZV ⟨rfl,rfl⟩ (wk [1,1,1] fl)
      rintro F h ⟨rfl,rfl⟩
      refine az (ir 3 [(11,.b (!X5 n.decls (gI ts 0)))] (ie (ar (ir 3 [(6,.i (-1)),(7,.b (!X5 n.decls (gI ts 0)))] (ie ?_)))))
      have hS0:=Aa (n:=n) hnn (JE Zz om) (fun q=>ZI (Jf.2 q))
      exact Zc (r2 [] [.i (-1),.b (!X5 n.decls (gI ts 0))] ⟨(-1),rfl,rfl,(fun q=>absurd Yi q)⟩ (Zg.tup (.cons (lr _) (.cons (lb (Z5z hS0 Yi Xk)) .nil))))
     refine ak (ar (ir 3 [(6,.i (-1)),(7,.b (((((ts.length:Int)==1)&&((gI ts 0) != 0))&&(s.num==0))&&((s.kids.length:Int)==0)))] (ie ?_)))
     have hS0:=Aa (n:=n) hnn (JE Zz om) (fun q=>ZI (Jf.2 q))
     exact Zc (r2 [] [.i (-1),.b (((((ts.length:Int)==1)&&((gI ts 0) != 0))&&(s.num==0))&&((s.kids.length:Int)==0))] ⟨(-1),rfl,rfl,(fun q=>absurd Yi q)⟩ (Zg.tup (.cons (lr _) (.cons (lb (Z60 hS0 Yi Xk)) .nil))))
    refine ir 1 [(3,.p b1 0),(5,.p b2 0),(8,Z6 ts v),(89,.b ((((ts.length:Int)==1)&&((gI ts 0) != 0))&&(s.num==0)))] (ib (b:=((((ts.length:Int)==1)&&((gI ts 0) != 0))&&(s.num==0))) 89 (fun WH=>?_) (fun WH=>?_))
    ·have Qz:(((ts.length:Int)=1)/\((gI ts 0)≠0))/\(s.num=0):=((YE (YE Zh Yc) Zh)).1 WH
     refine Y2 2 (.n 91 (Yz s.kids) (.w .z)) [0] [b2] (iw (VX s.kids) (Z1 2 94 (.b ((s.kids.length:Int)==0)) ?_))
     exact YG (ZL 3 (fw (fr (Zr ((s.kids.length:Int)==0) WH fl)))) hj3
    have QA:¬((((ts.length:Int)=1)/\((gI ts 0)≠0))/\(s.num=0)):=ZG (YE (YE Zh Yc) Zh) WH
    refine Z5 5 (.n 94 (.b false) (.d (.k (.k (.k .z))))) ?_
    exact YG (ZL 3 (fw (fr (Zr false WH fl)))) hj3
   refine ir 1 [(3,.p b1 0),(5,.p b2 0),(8,Z6 ts v),(84,.b (((ts.length:Int)==1)&&((gI ts 0) != 0)))] (ib (b:=(((ts.length:Int)==1)&&((gI ts 0) != 0))) 84 (fun WI=>?_) (fun WI=>?_))
   ·have Je:((ts.length:Int)=1)/\((gI ts 0)≠0):=((YE Zh Yc)).1 WI
    refine Y2 4 (.n 88 (.b (s.num==0)) (.d (.k (.k (.k .z))))) [0] [b2] ?_
    exact YG (ZL 3 (fw (fr (Zr (s.num==0) WI fl)))) hj2
   have QB:¬(((ts.length:Int)=1)/\((gI ts 0)≠0)):=ZG (YE Zh Yc) WI
   refine Z5 4 (.n 88 (.b false) (.d (.k (.k (.k .z))))) ?_
   exact YG (ZL 3 (fw (fr (Zr false WI fl)))) hj2
  refine ir 2 [(3,.p b1 0),(5,.p b2 0),(8,Z6 ts v),(78,.b ((ts.length:Int)==1))] (ib (b:=((ts.length:Int)==1)) 78 (fun Ty=>?_) (fun Ty=>?_))
  ·have Lb:(ts.length:Int)=1:=(Zh).1 Ty
   refine Z5 1 (.n 79 (Z6 ts v) (.w .z)) (Zq (A8 (es:=Z8 ts) (hv:=some v) (j:=0) (sz:=1) (y:=.i (gI ts 0)) kr om (Y3 (Dw om)) rfl) (Z1 3 83 (.b ((gI ts 0) != 0)) ?_))
   exact YG (ZL 3 (fw (fr (Zr ((gI ts 0) != 0) Ty fl)))) hj1
  have Lc:¬((ts.length:Int)=1):=ZG Zh Ty
  refine Z5 5 (.n 83 (.b false) (.d (.k (.k (.k .z))))) ?_
  exact YG (ZL 3 (fw (fr (Zr false Ty fl)))) hj1
 refine ar (Yk 4 118 (.b (s.op==7)) [0] [b2] (ie (ac (s.op==7) Zh (fun Xl=>?_) (fun Xl=>?_))))
 ·refine aq (ar (Z1 1 122 (Z6 ts v) (iw (Yd ts) (XP 9 [(1,Z0 us),(3,.p b1 0),(5,.p b2 0),(130,.b (((ts.length:Int) != 1)||((gI ts 0) != 0)))] [.obj b2 (Yg s),.obj b1 [Zd n.decls,Xb n],.tail v 1] ?_ (fun hj4=>?_)))))
  ·refine XP 14 [(1,Z0 us),(3,.p b1 0),(5,.p b2 0),(135,.b ((((ts.length:Int) != 1)||((gI ts 0) != 0))||(s.num != 0)))] [.obj b2 (Yg s),.obj b1 [Zd n.decls,Xb n],.tail v 1] ?_ (fun hj5=>?_)
   ·refine Xp [(1,Z0 us),(3,.p b1 0),(5,.p b2 0),(141,.b (((((ts.length:Int) != 1)||((gI ts 0) != 0))||(s.num != 0))||((s.kids.length:Int) != 2)))] [.obj b2 (Yg s),.obj b1 [Zd n.decls,Xb n],.tail v 1] ?_ ?_
    ·refine ir 1 [(1,Z0 us),(3,.p b1 0),(5,.p b2 0),(136,.b ((((ts.length:Int) != 1)||((gI ts 0) != 0))||(s.num != 0)))] (ib (b:=((((ts.length:Int) != 1)||((gI ts 0) != 0))||(s.num != 0))) 136 (fun Jb=>?_) (fun Jb=>?_))
     ·have FZ:(((ts.length:Int)≠1)∨((gI ts 0)≠0))∨(s.num≠0):=((Yh (Yh Yc Yc) Yc)).1 Jb
      refine Z5 5 (.n 141 (.b true) (.d (.k (.k (.k .z))))) (ie ?_)
      exact ZL 3 (fw (fr (Zr true Jb fl)))
     have SK:¬((((ts.length:Int)≠1)∨((gI ts 0)≠0))∨(s.num≠0)):=ZG (Yh (Yh Yc Yc) Yc) Jb
     refine Y2 2 (.n 138 (Yz s.kids) (.w .z)) [0] [b2] (iw (VX s.kids) (Z1 2 141 (.b ((s.kids.length:Int) != 2)) (ie ?_)))
     exact ZL 3 (fw (fr (Zr ((s.kids.length:Int) != 2) Jb fl)))
    refine ac (((((ts.length:Int) != 1)||((gI ts 0) != 0))||(s.num != 0))||((s.kids.length:Int) != 2)) (p:=((((ts.length:Int)≠1)∨((gI ts 0)≠0))∨(s.num≠0))∨((s.kids.length:Int)≠2)) (Yh (Yh (Yh Yc Yc) Yc) Yc) (fun Vu=>?_) (fun Vu=>?_)
    ·refine ar (ir 2 [(6,.i (-1)),(7,.b false)] (ie ?_))
     have hS0:=Aa (n:=n) hnn (JE Zz om) (fun q=>ZI (Jf.2 q))
     have hS:=Z5v hS0 Yi Xl Vu
     exact Zc (r2 [] [.i (-1),.b false] ⟨(-1),rfl,rfl,(by intro _ h;rw [hS] at h;omega)⟩ (Zg.tup (.cons (lr _) (.cons (lb (by rw [hS];rfl)) .nil))))
    refine ak (aD 10 (W2 6 10 [0,1,2,3] [(142,.agg [Zd n.decls,Xb n]),(143,Z0 us),(145,Yz s.kids)] [1,0] [b1,b2] (Z9 4 (Pq 4 [0,1] [b2,b1] 2 2 ?_))))
    intro v4
    refine ZZ 5 5 [] (.n 146 (WD (List.replicate 2 [])) (.p .r)) (Z9 5 (Ys 5 [] [] [] (Ll n us s.kids (List.replicate 2 []) (hnn:=hnn) (hm3:=(by intro m hm;first|(rw [EC hm];simp;done)|(obtain ⟨c,_,rfl⟩:=W3.1 hm;exact VH Xu c))) (hmn:=(by intro m hm f hf;first|(rw [EC hm] at hf;simp at hf;done)|(obtain ⟨c,_,rfl⟩:=W3.1 hm;exact hty.fields c f hf))) (ih:=(fun b us2 h1 h2 h3 h4=>ih b us2 om h2 h3 h4))) (Xa 0 4 [6,7,8,9] [(6,.i (Wi n us s.kids (List.replicate 2 []) true 0)),(7,.b (decide (0<=Wi n us s.kids (List.replicate 2 []) true 0)))] (de ?_))))
    have hS0:=Aa (n:=n) hnn (JE Zz om) (fun q=>ZI (Jf.2 q))
    have hS:=Z5w hS0 Yi Xl Vu
    exact Zc (r2 [] [.i (Wi n us s.kids (List.replicate 2 []) true 0),.b (decide (0<=Wi n us s.kids (List.replicate 2 []) true 0))] ⟨Wi n us s.kids (List.replicate 2 []) true 0,rfl,rfl,(fun _ _=>hS.symm)⟩ (Zg.tup (.cons (lr _) (.cons (lb (by rw [hS])) .nil))))
   refine ir 1 [(1,Z0 us),(3,.p b1 0),(5,.p b2 0),(131,.b (((ts.length:Int) != 1)||((gI ts 0) != 0)))] (ib (b:=(((ts.length:Int) != 1)||((gI ts 0) != 0))) 131 (fun Jc=>?_) (fun Jc=>?_))
   ·have SM:((ts.length:Int)≠1)∨((gI ts 0)≠0):=((Yh Yc Yc)).1 Jc
    refine Z5 4 (.n 135 (.b true) (.d (.k (.k (.k .z))))) ?_
    exact YG (ZL 3 (fw (fr (Zr true Jc fl)))) hj5
   have SN:¬(((ts.length:Int)≠1)∨((gI ts 0)≠0)):=ZG (Yh Yc Yc) Jc
   refine Y2 4 (.n 135 (.b (s.num != 0)) (.d (.k (.k (.k .z))))) [0] [b2] ?_
   exact YG (ZL 3 (fw (fr (Zr (s.num != 0) Jc fl)))) hj5
  refine ir 2 [(1,Z0 us),(3,.p b1 0),(5,.p b2 0),(8,Z6 ts v),(125,.b ((ts.length:Int) != 1))] (ib (b:=((ts.length:Int) != 1)) 125 (fun Cc=>?_) (fun Cc=>?_))
  ·have SO:(ts.length:Int)≠1:=(Yc).1 Cc
   refine Z5 5 (.n 130 (.b true) (.d (.k (.k (.k .z))))) ?_
   exact YG (ZL 3 (fw (fr (Zr true Cc fl)))) hj4
  have SP:¬((ts.length:Int)≠1):=ZG Yc Cc
  refine Z5 1 (.n 126 (Z6 ts v) (.w .z)) (Zq (A8 (es:=Z8 ts) (hv:=some v) (j:=0) (sz:=1) (y:=.i (gI ts 0)) kr om (Y3 (Dw om)) rfl) (Z1 3 130 (.b ((gI ts 0) != 0)) ?_))
  exact YG (ZL 3 (fw (fr (Zr ((gI ts 0) != 0) Cc fl)))) hj4
 refine ar (Yk 4 150 (.b (s.op==8)) [0] [b2] (ie (ac (s.op==8) Zh (fun Vm=>?_) (fun Vm=>?_))))
 ·refine ar (Y1 3 154 (.agg [Zd n.decls,Xb n]) 156 (.i s.num) [1,0] [b1,b2] (ZA [] (Z0l _ s.num) (Z1 1 14 (WD ((Zu n.decls s.num).map (ZB n.decls))) (ie (aq (aD 24 (ZY 23 24 [0] 158 (Z6 ts v) (dw 1 (Yd ts) (KY [(1,Z0 us),(3,.p b1 0),(5,.p b2 0),(14,WD ((Zu n.decls s.num).map (ZB n.decls))),(181,.b (((ts.length:Int) != 1)||(((gI ts 0) != s.num)||((((((Zu n.decls s.num).map (ZB n.decls)).length:Nat):Int)==0)||((s.kids.length:Int) != ((((Zu n.decls s.num).map (ZB n.decls)).length:Nat):Int))))))] [.obj b2 (Yg s),.obj b1 [Zd n.decls,Xb n],.tail v 1] ?_ ?_)))))))))
  ·refine Xa 20 22 [2,3] [(1,Z0 us),(3,.p b1 0),(5,.p b2 0),(8,Z6 ts v),(14,WD ((Zu n.decls s.num).map (ZB n.decls))),(161,.b ((ts.length:Int) != 1))] (db (b:=((ts.length:Int) != 1)) 161 (fun AE=>?_) (fun AE=>?_))
   ·have SQ:(ts.length:Int)≠1:=(Yc).1 AE
    refine ZZ 0 20 [4,5,6,7,8,9,10,11,12,13,14,15,16,17,18,19,20,21,22,23] (.n 181 (.b true) (.d (.k (.k (.k (.d (.k .z))))))) (de ?_)
    exact ZL 3 (fq (Zr true AE fl))
   have SR:¬((ts.length:Int)≠1):=ZG Yc AE
   refine ZZ 19 20 [4] (.n 162 (Z6 ts v) (.w (.d (.k .z)))) (dx 5 (A8 (es:=Z8 ts) (hv:=some v) (j:=0) (sz:=1) (y:=.i (gI ts 0)) kr om (Y3 (Dw om)) rfl) (Y6 12 18 [6,7,8,9,10,11] (.n 169 (.b ((gI ts 0) != s.num)) .r) [0] [b2] (db (b:=((gI ts 0) != s.num)) 169 (fun Bp=>?_) (fun Bp=>?_))))
   ·have SS:(gI ts 0)≠s.num:=(Yc).1 Bp
    refine ZZ 0 12 [12,13,14,15,16,17,18,19,20,21,22,23] (.n 181 (.b true) (.k (.d .r))) (de ?_)
    exact ZL 3 (fq (Zr true (And.intro AE Bp) fl))
   have G0:¬((gI ts 0)≠s.num):=ZG Yc Bp
   refine ZZ 11 12 [12] (.n 170 (WD ((Zu n.decls s.num).map (ZB n.decls))) (.k (.d .r))) (dn 13 (.i ((((Zu n.decls s.num).map (ZB n.decls)).length:Nat):Int)) (.i (((W7 ((Zu n.decls s.num).map (ZB n.decls))).length:Nat):Int)) (li (by rw [Dk])) (ZY 7 10 [14,15,16] 174 (.b (((((Zu n.decls s.num).map (ZB n.decls)).length:Nat):Int)==0)) (db (b:=(((((Zu n.decls s.num).map (ZB n.decls)).length:Nat):Int)==0)) 174 (fun Cd=>?_) (fun Cd=>?_))))
   ·have G3:((((Zu n.decls s.num).map (ZB n.decls)).length:Nat):Int)=0:=(Zh).1 Cd
    refine ZZ 0 7 [17,18,19,20,21,22,23] (.n 181 (.b true) (.k (.d .r))) (de ?_)
    exact ZL 3 (fq (Zr true (And.intro AE (And.intro Bp Cd)) fl))
   have Ld:¬(((((Zu n.decls s.num).map (ZB n.decls)).length:Nat):Int)=0):=ZG Zh Cd
   refine Y6 5 7 [17,18] (.n 176 (Yz s.kids) (.k (.d .r))) [0] [b2] (dw 19 (VX s.kids) (ZY 3 4 [20] 178 (WD ((Zu n.decls s.num).map (ZB n.decls))) (dn 21 (.i ((((Zu n.decls s.num).map (ZB n.decls)).length:Nat):Int)) (.i (((W7 ((Zu n.decls s.num).map (ZB n.decls))).length:Nat):Int)) (li (by rw [Dk])) (ZY 0 2 [22,23] 181 (.b ((s.kids.length:Int) != ((((Zu n.decls s.num).map (ZB n.decls)).length:Nat):Int))) (de ?_)))))
   exact ZL 3 (fq (Zr ((s.kids.length:Int) != ((((Zu n.decls s.num).map (ZB n.decls)).length:Nat):Int)) (And.intro AE (And.intro Bp Cd)) fl))
  refine ac (((ts.length:Int) != 1)||(((gI ts 0) != s.num)||((((((Zu n.decls s.num).map (ZB n.decls)).length:Nat):Int)==0)||((s.kids.length:Int) != ((((Zu n.decls s.num).map (ZB n.decls)).length:Nat):Int))))) (p:=((ts.length:Int)≠1)∨(((gI ts 0)≠s.num)∨((((((Zu n.decls s.num).map (ZB n.decls)).length:Nat):Int)=0)∨((s.kids.length:Int)≠((((Zu n.decls s.num).map (ZB n.decls)).length:Nat):Int))))) (Yh Yc (Yh Yc (Yh Zh Yc))) (fun VF=>?_) (fun VF=>?_)
  ·refine ar (ir 2 [(6,.i (-1)),(7,.b false)] (ie ?_))
   have hS0:=Aa (n:=n) hnn (JE Zz om) (fun q=>ZI (Jf.2 q))
   have hS:=Z5x hS0 Yi Xl Vm VF
   exact Zc (r2 [] [.i (-1),.b false] ⟨(-1),rfl,rfl,(by intro _ h;rw [hS] at h;omega)⟩ (Zg.tup (.cons (lr _) (.cons (lb (by rw [hS];rfl)) .nil))))
  refine ak (ar (iR 5 [(182,.agg [Zd n.decls,Xb n]),(183,Z0 us),(185,Yz s.kids),(186,WD ((Zu n.decls s.num).map (ZB n.decls)))] [1,0] [b1,b2] (ZA [] (Ll n us s.kids ((Zu n.decls s.num).map (ZB n.decls)) (hnn:=hnn) (hm3:=(by intro m hm;first|(rw [EC hm];simp;done)|(obtain ⟨c,_,rfl⟩:=W3.1 hm;exact VH Xu c))) (hmn:=(by intro m hm f hf;first|(rw [EC hm] at hf;simp at hf;done)|(obtain ⟨c,_,rfl⟩:=W3.1 hm;exact hty.fields c f hf))) (ih:=(fun b us2 h1 h2 h3 h4=>ih b us2 om h2 h3 h4))) (ir 4 [(6,.i (Wi n us s.kids ((Zu n.decls s.num).map (ZB n.decls)) true 0)),(7,.b (decide (0<=Wi n us s.kids ((Zu n.decls s.num).map (ZB n.decls)) true 0)))] (ie ?_)))))
  have hS0:=Aa (n:=n) hnn (JE Zz om) (fun q=>ZI (Jf.2 q))
  have hS:=Z5y hS0 Yi Xl Vm VF
  exact Zc (r2 [] [.i (Wi n us s.kids ((Zu n.decls s.num).map (ZB n.decls)) true 0),.b (decide (0<=Wi n us s.kids ((Zu n.decls s.num).map (ZB n.decls)) true 0))] ⟨Wi n us s.kids ((Zu n.decls s.num).map (ZB n.decls)) true 0,rfl,rfl,(fun _ _=>hS.symm)⟩ (Zg.tup (.cons (lr _) (.cons (lb (by rw [hS])) .nil))))
 refine ar (Yk 2 192 (Yz s.kids) [0] [b2] (iw (VX s.kids) (XP 33 [(3,.p b1 0),(5,.p b2 0),(8,Z6 ts v),(223,.b ((decide ((s.kids.length:Int)>0))||((s.op==10)&&((decide (s.num>=0))&&((decide (s.num<(((n.routines.map XD).length:Nat):Int)))&&(decide (((((Tc n s.num).lnt).length:Nat):Int)>0)))))))] [.obj b2 (Yg s),.obj b1 [Zd n.decls,Xb n],.tail v 1] ?_ (fun hj6=>?_))))
 ·refine ir 1 [(3,.p b1 0),(5,.p b2 0),(8,Z6 ts v),(190,.b ((decide ((s.kids.length:Int)>0))||((s.op==10)&&((decide (s.num>=0))&&((decide (s.num<(((n.routines.map XD).length:Nat):Int)))&&(decide (((((Tc n s.num).lnt).length:Nat):Int)>0)))))))] (ie (ac ((decide ((s.kids.length:Int)>0))||((s.op==10)&&((decide (s.num>=0))&&((decide (s.num<(((n.routines.map XD).length:Nat):Int)))&&(decide (((((Tc n s.num).lnt).length:Nat):Int)>0)))))) (p:=((s.kids.length:Int)>0)∨((s.op=10)/\((s.num>=0)/\((s.num<(((n.routines.map XD).length:Nat):Int))/\(((((Tc n s.num).lnt).length:Nat):Int)>0))))) (Yh dq (YE Zh (YE dq (YE dq dq)))) (fun UD=>?_) (fun UD=>?_)))
  ·refine ar (ir 2 [(6,.i (-1)),(7,.b false)] (ie ?_))
   have hS0:=Aa (n:=n) hnn (JE Zz om) (fun q=>ZI (Jf.2 q))
   have hS:=stB hS0 Yi Xl Vm UD
   exact Zc (r2 [] [.i (-1),.b false] ⟨(-1),rfl,rfl,(by intro _ h;rw [hS] at h;omega)⟩ (Zg.tup (.cons (lr _) (.cons (lb (by rw [hS];rfl)) .nil))))
  refine ak (ar (iR 6 [(224,.agg [Zd n.decls,Xb n]),(226,.i s.op),(228,.i s.num),(229,Z0 ts)] [1,0,0] [b1,b2,b2] (ic [] (Z0m _ s.op s.num ts) ?_)))
  rintro _ _ ⟨t1,rfl,rfl,DD⟩
  refine ir 4 [(6,.i t1),(7,.b ((Xv n s.op s.num ts).isSome))] (ie ?_)
  have hS0:=Aa (n:=n) hnn (JE Zz om) (fun q=>ZI (Jf.2 q))
  have hS:=stS hS0 Yi Xl Vm UD
  exact Zc (r2 [] [.i t1,.b ((Xv n s.op s.num ts).isSome)] ⟨t1,rfl,rfl,(Z62 hS DD)⟩ (Zg.tup (.cons (lr _) (.cons (lb (Z61 hty hS)) .nil))))
 refine ir 2 [(3,.p b1 0),(5,.p b2 0),(8,Z6 ts v),(195,.b (decide ((s.kids.length:Int)>0)))] (ib (b:=(decide ((s.kids.length:Int)>0))) 195 (fun JR=>?_) (fun JR=>?_))
 ·have Z7r:(s.kids.length:Int)>0:=(dq).1 JR
  refine Z5 28 (.n 223 (.b true) (.d (.k (.k (.k .z))))) ?_
  exact YG (ZL 3 (fw (fr (Zr true JR fl)))) hj6
 have Z7s:¬((s.kids.length:Int)>0):=ZG dq JR
 refine Y2 4 (.n 199 (.b (s.op==10)) (.w .z)) [0] [b2] (ib (b:=(s.op==10)) 199 (fun AF=>?_) (fun AF=>?_))
 ·have Z7t:s.op=10:=(Zh).1 AF
  refine Y2 5 (.n 204 (.b (decide (s.num>=0))) (.d (.d .r))) [0] [b2] (ib (b:=(decide (s.num>=0))) 204 (fun Bq=>?_) (fun Bq=>?_))
  ·have Z7u:s.num>=0:=(dq).1 Bq
   refine Y2 4 (.n 206 (.i s.num) (.n 208 (Xb n) (.k (.d .r)))) [0,1] [b2,b1] (io (.i (((n.routines.map XD).length:Nat):Int)) (.i (((UB (n.routines.map XD)).length:Nat):Int)) (li (by rw [C0])) (Z1 3 212 (.b (decide (s.num<(((n.routines.map XD).length:Nat):Int)))) (ib (b:=(decide (s.num<(((n.routines.map XD).length:Nat):Int)))) 212 (fun Br=>?_) (fun Br=>?_))))
   ·have Z7v:s.num<(((n.routines.map XD).length:Nat):Int):=(dq).1 Br
    refine Y2 4 (.n 214 (Xb n) (.n 216 (.i s.num) (.k (.d .r)))) [1,0] [b1,b2] (Zq (A8 (es:=UB (n.routines.map XD)) (hv:=none) (j:=s.num) (sz:=3) (y:=CW (Tc n s.num)) kr om (Bh (Z4k om)) rfl) (Z1 2 219 (Z0 ((Tc n s.num).lnt)) (io (.i ((((Tc n s.num).lnt).length:Nat):Int)) (.i (((Z8 ((Tc n s.num).lnt)).length:Nat):Int)) (li (by rw [Yd])) (Z1 3 223 (.b (decide (((((Tc n s.num).lnt).length:Nat):Int)>0))) ?_))))
    exact YG (ZL 3 (fw (fr (Zr (decide (((((Tc n s.num).lnt).length:Nat):Int)>0)) (And.intro JR (And.intro AF (And.intro Bq Br))) fl)))) hj6
   have Z7w:¬(s.num<(((n.routines.map XD).length:Nat):Int)):=ZG dq Br
   refine Z5 11 (.n 223 (.b false) (.k (.d .r))) ?_
   exact YG (ZL 3 (fw (fr (Zr false (And.intro JR (And.intro AF (And.intro Bq Br))) fl)))) hj6
  have Z7x:¬(s.num>=0):=ZG dq Bq
  refine Z5 19 (.n 223 (.b false) (.k (.d .r))) ?_
  exact YG (ZL 3 (fw (fr (Zr false (And.intro JR (And.intro AF Bq)) fl)))) hj6
 have Z7y:¬(s.op=10):=ZG Zh AF
 refine Z5 24 (.n 223 (.b false) (.k (.d .r))) ?_
 exact YG (ZL 3 (fw (fr (Zr false (And.intro JR AF) fl)))) hj6
theorem Z0f (n:Zy) (us:List Int) (b:Z7) (hn:Xe n) (hnn:∀t∈us,0<=t) (hb:us.length+4*b.sz<=1000000000) (hr:b.rng) (ih:∀(s:Z4) (us:List Int),(s.sz<b.sz)->(us.length+4*s.sz<=1000000000)->(s.rng)->(∀t∈us,0<=t)->Zj Tryz.prog 93 [.agg [Zd n.decls,Xb n],Z0 us,Y4 s] [] (fun r h=>∃(t:Int),r=.tup [.i t,.b (decide (0<=ZT n us s))]/\h=[]/\(¬YF s.op=true->0<=ZT n us s->t=ZT n us s))):Zj Tryz.prog 56 [.agg [Zd n.decls,Xb n],Z0 us,Zx b] [] (fun r h=>r=.i (YR n us b)/\h=[]):=by
 have hbz:=Vx b
 have hbe:=D4 n us b
 rw [b.rng_eq] at hr
 refine ZK 54 Tryz.func56 (ar (iA [Zd n.decls,Xb n] ?_))
 intro b1
 refine iA (Yn b) ?_
 intro b2
 refine ir 1 [(1,Z0 us),(3,.p b1 0),(5,.p b2 0)] (ie (ar (Z1 1 12 (Z0 us) (ic [] (OX us) ?_))))
 rintro _ _ ⟨v1,rfl,rfl⟩
 refine Z1 1 7 (Z6 us v1) (ie (aq (ar (Yk 2 15 (Yj b.steps) [1] [b2] (iw (VE b.steps) (Z1 1 17 (.i 0) (ie (ab 0 (al (fun m F h=>∃(k:Nat) (vs:List Int) (v:Value),(k<=b.steps.length)/\(vs.length<=us.length+k)/\(∀t∈vs,0<=t)/\(V7 n (b.steps.drop k) vs=V7 n b.steps us)/\F=[(3,.p b1 0),(5,.p b2 0),(7,Z6 vs v),(15,Yj b.steps),(16,.i b.steps.length),(17,.i k)]/\h=[.obj b2 (Yn b),.obj b1 [Zd n.decls,Xb n],.tail v 1]/\m=b.steps.length-k) _ _ _ ⟨0,us,v1,ob,ob,ob,ob,rfl,rfl,rfl⟩ (wk [1,1,0] (fq (fr (Ye fl)))) ?_)))))))))
 rintro m F h ⟨k,vs,v,Ym,Zp,Zz,YJ,rfl,rfl,rfl⟩
 refine ar (Z1 1 18 (.b (decide ((k:Int)<(b.steps.length:Int)))) (ie (aq (ZM ((k:Int)<(b.steps.length:Int)) (fun Ze=>?_) (fun Ze=>?_)))))
 ·refine ak (aq (ab 1 (ar ?_)))
  obtain ⟨x1,Z3⟩:=Zs (xs:=b.steps) (j:=k) om
  have hss:=AS Z3
  have hsr:=Ns hr Z3
  refine Zq (Zo none (k:Int) 5 (Wy Z3)) (Z1 1 20 (Y4 x1) (iA [.i 0,.i 0,.i 0,nl,nl] ?_))
  intro b3
  refine ZH 0 b3 (Yg x1) (ie (ar (Y2 3 (.n 22 (.agg [Zd n.decls,Xb n]) (.n 23 (Z0 vs) (.n 24 (Y4 x1) .r))) [2,0] [b1,b3] (ic [] (ih x1 vs ob ob ob ob) ?_))))
  rintro _ _ ⟨t1,rfl,rfl,ZP⟩
  refine Yo 5 10 (.i t1) 11 (.b (decide (0<=ZT n vs x1))) (ie (aq (ar (Z1 2 29 (.b (!decide (0<=ZT n vs x1))) (ie (ac (!decide (0<=ZT n vs x1)) (p:=¬(decide (0<=ZT n vs x1)=true)) (Yt Iff.rfl) (fun Zk=>?_) (fun Zk=>?_)))))))
  ·refine ar (ir 1 [(6,.i (-1))] (ie ?_))
   exact Zc (r2 [] [.i (-1)] ⟨rfl,rfl⟩ (li (by rw [hbe,<-YJ,Z6k Z3 (fun q=>Zk (decide_eq_true q)) rfl])))
  refine ak (ar (Yk 2 31 (.i x1.op) [0] [b3] (ZA [] (Lj x1.op) (Z1 1 33 (.b (!YF x1.op)) (ie (JB (fun F h=>∃(w:Value),F=[(3,.p b1 0),(5,.p b2 0),(7,Z6 (if YF x1.op=true then vs else vs++[t1]) w),(15,Yj b.steps),(16,.i b.steps.length),(17,.i k)]/\h=[.obj b2 (Yn b),.obj b1 [Zd n.decls,Xb n],.tail w 1]) (fun _ _=>rfl) ?_ ?_))))))
  ·refine ac (!YF x1.op) (p:=¬(YF x1.op=true)) (Yt Iff.rfl) (fun ZI=>?_) (fun ZI=>?_)
   ·refine az (ir 2 [(3,.p b1 0),(5,.p b2 0),(15,Yj b.steps),(16,.i b.steps.length),(17,.i k),(34,Z6 vs v),(35,.i t1)] (iL (Z8 [t1]) 1 1 ?_))
    intro v2
    refine Z5 0 (.n 36 (Z0 [t1]) (.p .r)) (ip 4 (Z8 (vs++[t1])) (Z8 vs) (Z8 [t1]) v none 1 (YD _) (YD _) (XY _) (by simp<;>omega) (by simp [XX,Z8]) ?_)
    intro v3
    refine Z1 1 7 (Z6 (vs++[t1]) v3) (ie ?_)
    exact ZV ⟨v3,rfl,rfl⟩ (wk [3,3,0] (fw (fc (x:=Z6 (vs++[t1]) v3) (Zg.slh _ (Yv Z8 (by first|rfl|(rw [Zm ZI])|(rw [Zb ZI])|(simp [ZI];done)|(rw [Xm];simp [ZI];done)|omega))) fl)))
   refine ak ?_
   exact ZV ⟨v,rfl,rfl⟩ (wk [1,1,1] (fw (fc (x:=Z6 vs v) (Zg.slh _ (Yv Z8 (by first|rfl|(rw [Zm ZI])|(rw [Zb ZI])|(simp [ZI];done)|(rw [Xm];simp [ZI];done)|omega))) fl)))
  rintro F h ⟨w,rfl,rfl⟩
  refine az (ZO k (ir 1 [(3,.p b1 0),(5,.p b2 0),(7,Z6 (if YF x1.op=true then vs else vs++[t1]) w),(15,Yj b.steps),(16,.i b.steps.length),(17,.i (k+1:Nat))] (ie ?_)))
  have h0:0<=ZT n vs x1:=of_decide_eq_true (U2.1 Zk)
  exact ZQ ⟨k+1,(if YF x1.op=true then vs else vs++[t1]),w,ob,(by split<;>(try simp)<;>omega),(Z27 Zz (fun q=>by rw [ZP q h0];exact h0)),(Z6j Z3 h0 ZP YJ),rfl,rfl,rfl⟩ (ZL 3 (fq (fr (ZW k fl))))
 refine ax 0 (aq (ar (Xp [(5,.p b2 0),(7,Z6 vs v),(48,.b ((decide (b.result<0))||(decide (b.result>=(vs.length:Int)))))] [.obj b2 (Yn b),.obj b1 [Zd n.decls,Xb n],.tail v 1] ?_ ?_)))
 ·refine iR 4 [(5,.p b2 0),(7,Z6 vs v),(42,.b (decide (b.result<0)))] [0] [b2] (ib (b:=(decide (b.result<0))) 42 (fun Za=>?_) (fun Za=>?_))
  ·have Y0:b.result<0:=(dq).1 Za
   refine Z5 6 (.n 48 (.b true) (.d (.k (.k .z)))) (ie ?_)
   exact ZL 3 (fw (Zr true Za fl))
  have YB:¬(b.result<0):=ZG dq Za
  refine Y2 3 (.n 44 (.i b.result) (.n 45 (Z6 vs v) (.k (.k (.k .z))))) [0] [b2] (iw (Yd vs) (Z1 2 48 (.b (decide (b.result>=(vs.length:Int)))) (ie ?_)))
  exact ZL 3 (fw (Zr (decide (b.result>=(vs.length:Int))) Za fl))
 refine ac ((decide (b.result<0))||(decide (b.result>=(vs.length:Int)))) (p:=(b.result<0)∨(b.result>=(vs.length:Int))) (Yh dq dq) (fun Yi=>?_) (fun Yi=>?_)
 ·refine ar (ir 1 [(6,.i (-1))] (ie ?_))
  exact Zc (r2 [] [.i (-1)] ⟨rfl,rfl⟩ (li (by rw [hbe,<-YJ,Xx om];show _=(Xw vs b.result).getD (-1);rw [Q9 om];rfl)))
 refine ak (ar (iR 3 [(49,Z6 vs v),(51,.i b.result)] [0] [b2] ?_))
 obtain ⟨x2,Zv⟩:=Zs (xs:=vs) (j:=b.result.toNat) om
 refine Zq (Zo (some v) b.result 1 (Y3 Zv)) (ir 2 [(6,.i x2)] (ie ?_))
 exact Zc (r2 [] [.i x2] ⟨rfl,rfl⟩ (li (by rw [hbe,<-YJ,Xx om];show _=(Xw vs b.result).getD (-1);rw [Tw om Zv];rfl)))
theorem Z0e (n:Zy) (hn:Xe n) (hty:B4 n) (m:Nat):∀(b:Z7) (us:List Int),(b.sz<=m)->(us.length+4*b.sz<=1000000000)->(b.rng)->(∀t∈us,0<=t)->Zj Tryz.prog 56 [.agg [Zd n.decls,Xb n],Z0 us,Zx b] [] (fun r h=>r=.i (YR n us b)/\h=[]):=by
 induction m with
 | zero=>intro b us h;have:=b.sz_pos;omega
 | succ m ih=>intro b us h1 h2 h3 h4;exact Z0f n us b hn h4 h2 h3 fun s us2 k1 k2 k3 k4=>Z0n n us2 s hn hty k4 k2 k3 fun b2 us3 q1 q2 q3 q4=>ih b2 us3 om q2 q3 q4
theorem Lh (n:Zy) (us:List Int) (b:Z7) (hn:Xe n) (hty:B4 n) (hnn:∀t∈us,0<=t) (hb:us.length+4*b.sz<=1000000000) (hr:b.rng):Zj Tryz.prog 56 [.agg [Zd n.decls,Xb n],Z0 us,Zx b] [] (fun r h=>r=.i (YR n us b)/\h=[]):=
 Z0e n hn hty b.sz b us (X7 _) hb hr hnn
theorem Z0b (n:Zy) (hz:Q5 n:=by exact ob) (hr:∀r∈n.routines,r.body.rng):Zj Tryz.prog 19 [ZE n] [] (fun r h=>r=.b (Xd n)/\h=[]):=by
 have hzl:=hz.len
 refine ZK 37 Tryz.func19 (ar (iA (ZU n) ?_))
 intro b1
 refine ir 1 [(1,.p b1 0)] (ie (ar (Yk 1 8 (ZE n) [0] [b1] (ic [] (Lk n) ?_))))
 rintro _ _ (⟨rfl,rfl,ZP⟩|⟨rfl,rfl,Y0⟩)
 ·refine Yo 3 10 (.agg [Zd n.decls,Xb n]) 11 (.b (XV n)) (iA [nl,nl] ?_)
  intro b2
  refine ZH 0 b2 [Zd n.decls,Xb n] (Z1 1 4 (.b (XV n)) (ie (aq (ar (Z1 2 13 (.b (!XV n)) (ie (ac (!XV n) (p:=¬(XV n=true)) (Yt Iff.rfl) (fun Ze=>?_) (fun Ze=>?_))))))))
  ·refine ar (ir 1 [(2,.b false)] (ie ?_))
   exact Zc (r2 [] [.b false] ⟨rfl,rfl⟩ (lb (by rw [Xd,Kd.2 Ze];rfl)))
  have hsg:XV n=true:=by simpa using Ze
  have hok:=DZ hz hsg
  have hty:=LZ hsg
  refine ak (aq (ar (Yk 2 15 (YZ n.routines) [1] [b1] (iw (U8 n.routines) (Z1 1 17 (.i 0) (ie (ab 0 (al (fun m F h=>∃(k:Nat),(k<=n.routines.length)/\(TZ n (n.routines.drop k)=TZ n n.routines)/\F=[(3,.p b2 0),(15,YZ n.routines),(16,.i n.routines.length),(17,.i k)]/\h=[.obj b2 [Zd n.decls,Xb n]]/\m=n.routines.length-k) _ _ _ ⟨0,ob,ob,rfl,rfl,rfl⟩ (wk [0] (fw (fr (Ye fl)))) ?_))))))))
  rintro m F h ⟨k,Ym,Zp,rfl,rfl,rfl⟩
  refine ar (Z1 1 18 (.b (decide ((k:Int)<(n.routines.length:Int)))) (ie (aq (ZM ((k:Int)<(n.routines.length:Int)) (fun Zk=>?_) (fun Zk=>?_)))))
  ·refine ak (aq (ab 1 (ar ?_)))
   obtain ⟨x1,Z3⟩:=Zs (xs:=n.routines) (j:=k) om
   have hrm:=Y7 Z3
   have ZD:=hz.body _ hrm
   have hps:=hok.params_at Z3
   refine Zq (Zo none (k:Int) 5 (WB Z3)) (Z1 1 20 (WZ x1) (iA [nl,nl,.i 0,nl,.i 0] ?_))
   intro b3
   refine ZH 0 b3 (VO x1) (ie (aD 15 (Y6 13 15 [0,1] (.n 22 (Zx x1.body) .r) [0] [b3] (Z9 2 (Ys 2 [] [] [] (Lg x1.body) (KY [(3,.p b2 0),(15,YZ n.routines),(16,.i n.routines.length),(17,.i k),(35,.b ((decide ((Vd x1.body)<0))||((YR n x1.params x1.body) != x1.result)))] [.obj b3 (VO x1),.obj b2 [Zd n.decls,Xb n]] ?_ ?_))))))
   ·refine Xa 10 12 [3,4] [(3,.p b2 0),(6,.p b3 0),(15,YZ n.routines),(16,.i n.routines.length),(17,.i k),(25,.b (decide ((Vd x1.body)<0)))] (db (b:=(decide ((Vd x1.body)<0))) 25 (fun Za=>?_) (fun Za=>?_))
    ·have YB:(Vd x1.body)<0:=(dq).1 Za
     refine ZZ 0 10 [5,6,7,8,9,10,11,12,13,14] (.n 35 (.b true) (.d (.k (.d (.k (.k (.k .z))))))) (de ?_)
     exact wk [0,0] (fq (Zr true Za fl))
    have YN:¬((Vd x1.body)<0):=ZG dq Za
    refine Y6 3 10 [5,6,7,8,9,11,12] (.n 26 (.agg [Zd n.decls,Xb n]) (.n 28 (Z0 x1.params) (.n 30 (Zx x1.body) (.n 33 (.i x1.result) (.k (.k (.d (.k (.k (.k .z)))))))))) [1,0,0,0] [b2,b3,b3,b3] (Z9 10 (Ys 10 [] [0] [b3] (Lh n x1.params x1.body ob hty (hty.params _ hrm) ob (hr _ hrm)) (ZY 0 2 [13,14] 35 (.b ((YR n x1.params x1.body) != x1.result)) (de ?_))))
    exact wk [0,0] (fq (Zr ((YR n x1.params x1.body) != x1.result) Za fl))
   refine ac ((decide ((Vd x1.body)<0))||((YR n x1.params x1.body) != x1.result)) (p:=((Vd x1.body)<0)∨((YR n x1.params x1.body)≠x1.result)) (Yh dq Yc) (fun ZI=>?_) (fun ZI=>?_)
   ·refine ar (ir 1 [(2,.b false)] (ie ?_))
    rw [Yb Z3] at Zp
    exact Zc (r2 [] [.b false] ⟨rfl,rfl⟩ (lb (by clear Z3;first|rfl|omega|grind [TZ,Xd])))
   refine ak (az (ZO k (ir 1 [(3,.p b2 0),(15,YZ n.routines),(16,.i n.routines.length),(17,.i (k+1:Nat))] (ie ?_))))
   have hdr:=Yb Z3
   exact ZQ ⟨k+1,ob,(by rw [hdr] at Zp;clear hdr Z3;grind [TZ]),rfl,rfl,rfl⟩ (wk [1] (fw (fr (ZW k fl))))
  refine ax 0 (ar (ir 1 [(2,.b true)] (ie ?_)))
  try rw [Xx (xs:=n.routines) (k:=k) om] at Zp
  exact Zc (r2 [] [.b true] ⟨rfl,rfl⟩ (lb (by first|rfl|omega|grind [TZ,Xd])))
 refine Yo 3 10 (.agg [Zd [],V4 []]) 11 (.b false) (iA [nl,nl] ?_)
 intro b4
 refine ZH 0 b4 [Zd [],V4 []] (Z1 1 4 (.b false) (ie (aq (ar (Z1 2 13 (.b true) (ie (WL (ar (ir 1 [(2,.b false)] (ie ?_))))))))))
 exact Zc (r2 [] [.b false] ⟨rfl,rfl⟩ (lb (by rw [Xd,‹XV n=false›];rfl)))
theorem Z0a (n:Zy) (us:List Int) (b:Z7) (hz:Q5 n:=by exact ob) (hul:us.length<=1000000:=by exact ob) (hb:b.sz<=20000000:=by exact ob) (hr:b.rng:=by exact ob):Zj Tryz.prog 16 [ZE n,Z0 us,Zx b] [] (fun r h=>r=.i (UM n us b)/\h=[]):=by
 have hdl:=hz.decls.len
 refine ZK 32 Tryz.func16 (ar (iA (ZU n) ?_))
 intro b1
 refine iA (Yn b) ?_
 intro b2
 refine ir 1 [(1,Z0 us),(3,.p b1 0),(5,.p b2 0)] (ie (ar (Yk 1 10 (ZE n) [1] [b1] (ic [] (Lk n) ?_))))
 rintro _ _ (⟨rfl,rfl,ZP⟩|⟨rfl,rfl,Y0⟩)
 ·refine Yo 3 12 (.agg [Zd n.decls,Xb n]) 13 (.b (XV n)) (iA [nl,nl] ?_)
  intro b3
  refine ZH 0 b3 [Zd n.decls,Xb n] (Z1 1 8 (.b (XV n)) (ie (aq (ar (XP 9 [(1,Z0 us),(5,.p b2 0),(7,.p b3 0),(22,.b ((!XV n)||(!Xi n.decls.length us)))] [.obj b3 [Zd n.decls,Xb n],.obj b2 (Yn b),.obj b1 (ZU n)] ?_ (fun hj1=>?_))))))
  ·refine Xp [(1,Z0 us),(5,.p b2 0),(7,.p b3 0),(27,.b (((!XV n)||(!Xi n.decls.length us))||(decide ((Vd b)<0))))] [.obj b3 [Zd n.decls,Xb n],.obj b2 (Yn b),.obj b1 (ZU n)] ?_ ?_
   ·refine ir 1 [(1,Z0 us),(5,.p b2 0),(7,.p b3 0),(23,.b ((!XV n)||(!Xi n.decls.length us)))] (ib (b:=((!XV n)||(!Xi n.decls.length us))) 23 (fun Za=>?_) (fun Za=>?_))
    ·have YB:(¬(XV n=true))∨(¬(Xi n.decls.length us=true)):=((Yh (Yt Iff.rfl) (Yt Iff.rfl))).1 Za
     refine Z5 4 (.n 27 (.b true) (.d (.k (.k (.k .z))))) (ie ?_)
     exact ZL 3 (fw (fr (Zr true Za fl)))
    have YN:¬((¬(XV n=true))∨(¬(Xi n.decls.length us=true))):=ZG (Yh (Yt Iff.rfl) (Yt Iff.rfl)) Za
    refine Y2 1 (.n 24 (Zx b) (.w .z)) [1] [b2] (ZA [] (Lg b) (Z1 2 27 (.b (decide ((Vd b)<0))) (ie ?_)))
    exact ZL 3 (fw (fr (Zr (decide ((Vd b)<0)) Za fl)))
   refine ac (((!XV n)||(!Xi n.decls.length us))||(decide ((Vd b)<0))) (p:=((¬(XV n=true))∨(¬(Xi n.decls.length us=true)))∨((Vd b)<0)) (Yh (Yh (Yt Iff.rfl) (Yt Iff.rfl)) dq) (fun Ze=>?_) (fun Ze=>?_)
   ·refine ar (ir 1 [(6,.i (-1))] (ie ?_))
    exact Zc (r2 [] [.i (-1)] ⟨rfl,rfl⟩ (li (by first|rw [UM,Zb (fun z=>Ze.elim (fun h=>h.elim (fun q=>q z.1.1) (fun q=>q z.1.2)) z.2)]|(rw [UM,Zb (fun z=>by have h:=z.1.1;rw [‹XV n=false›] at h;cases h)])|rw [UM,Zm (And.intro (And.intro hsg hat) hst)])))
   have hsg:XV n=true:=BN fun z=>Ze (.inl (.inl z))
   have hat:Xi n.decls.length us=true:=BN fun z=>Ze (.inl (.inr z))
   have hst:¬Vd b<0:=fun z=>Ze (.inr z)
   have hok:=DZ hz hsg
   have hty:=LZ hsg
   refine ak (ar (iR 3 [(28,.agg [Zd n.decls,Xb n]),(29,Z0 us),(30,Zx b)] [0,1] [b3,b2] (ZA [] (Lh n us b ob hty (fun t ht=>(EU hat t ht).1) ob hr) (ir 1 [(6,.i (YR n us b))] (ie ?_)))))
   exact Zc (r2 [] [.i (YR n us b)] ⟨rfl,rfl⟩ (li (by first|rw [UM,Zb (fun z=>Ze.elim (fun h=>h.elim (fun q=>q z.1.1) (fun q=>q z.1.2)) z.2)]|(rw [UM,Zb (fun z=>by have h:=z.1.1;rw [‹XV n=false›] at h;cases h)])|rw [UM,Zm (And.intro (And.intro hsg hat) hst)])))
  refine ir 3 [(1,Z0 us),(3,.p b1 0),(5,.p b2 0),(7,.p b3 0),(16,.b (!XV n))] (ib (b:=(!XV n)) 16 (fun Zw=>?_) (fun Zw=>?_))
  ·have YX:¬(XV n=true):=((Yt Iff.rfl)).1 Zw
   refine Z5 6 (.n 22 (.b true) (.d (.k (.d (.k (.k .z)))))) ?_
   exact YG (ZL 3 (fw (fr (Zr true Zw fl)))) hj1
  have Xy:¬(¬(XV n=true)):=ZG (Yt Iff.rfl) Zw
  refine Y2 3 (.n 18 (Zd n.decls) (.n 19 (Z0 us) (.k (.k (.d (.k (.k .z))))))) [2] [b1] (ZA [] (G4 n.decls us) (Z1 2 22 (.b (!Xi n.decls.length us)) ?_))
  exact YG (ZL 3 (fw (fr (Zr (!Xi n.decls.length us) Zw fl)))) hj1
 refine Yo 3 12 (.agg [Zd [],V4 []]) 13 (.b false) (iA [nl,nl] ?_)
 intro b4
 refine ZH 0 b4 [Zd [],V4 []] (Z1 1 8 (.b false) (ie (aq (ar (Z1 14 27 (.b true) (ie (WL (ar (ir 1 [(6,.i (-1))] (ie ?_))))))))))
 exact Zc (r2 [] [.i (-1)] ⟨rfl,rfl⟩ (li (by first|rw [UM,Zb (fun z=>Ze.elim (fun h=>h.elim (fun q=>q z.1.1) (fun q=>q z.1.2)) z.2)]|(rw [UM,Zb (fun z=>by have h:=z.1.1;rw [‹XV n=false›] at h;cases h)])|rw [UM,Zm (And.intro (And.intro hsg hat) hst)])))
theorem N7 (n:Zy) (hz:Q5 n:=by exact ob):Zj Tryz.prog 20 [ZE n] [] (fun r h=>r=.b (Xd n)/\h=[]):=by
 refine ZK 5 Tryz.func20 (ar (iA (ZU n) ?_))
 intro b1
 refine ir 1 [(1,.p b1 0)] (ie (ar (iR 1 [(3,ZE n)] [0] [b1] (ZA [] (Nq n) (ir 1 [(2,.b (Xd n))] (ie ?_))))))
 exact Zc (r1 [] ⟨rfl,rfl⟩)
theorem Z1h (xs:List Int) (hxl:xs.length<=1000000:=by exact ob) (hasc:∀(k:Nat) (x y:Int),xs[k]? = some x->xs[k+1]? = some y->x<y):Zj Tryz.prog 21 [Z0 xs] [] (fun r h=>r=.b true/\h=[]):=by
 refine ZK 20 Tryz.func21 (ar (ir 1 [(0,Z0 xs)] (ie (aq (ar (Z1 1 3 (.i 1) (ie (ab 0 (al (fun m F h=>∃(k:Nat),(1<=k)/\F=[(0,Z0 xs),(3,.i k)]/\h=[]/\m=xs.length-k) _ _ _ ⟨1,ob,rfl,rfl,rfl⟩ (wk [] (fr (fc (x:=.i 1) li fl))) ?_)))))))))
 rintro m F h ⟨k,Ym,rfl,rfl,rfl⟩
 refine aq (ar (Yo 2 4 (.i k) 5 (Z0 xs) (iw (Yd xs) (Z1 1 7 (.b (decide ((k:Int)<(xs.length:Int)))) (ie (ZM ((k:Int)<(xs.length:Int)) (fun Ze=>?_) (fun Ze=>?_)))))))
 ·refine ak (aq (ab 1 (aD 10 (ZZ 8 10 [0,1] (.n 10 (Z0 xs) (.n 11 (.i k) .r)) ?_))))
  obtain ⟨x1,Z3⟩:=Zs (xs:=xs) (j:=k) om
  refine dx 2 (Zo none (k:Int) 1 (Y3 Z3)) (ZZ 4 7 [3,4,5] (.n 13 (.i x1) (.n 14 (Z0 xs) (.n 15 (.i k) .r))) (da 6 (((k:Int)-1)) (((k:Int))-(1)) ?_))
  obtain ⟨x2,Zv⟩:=Zs (xs:=xs) (j:=((k:Int)-1).toNat) om
  refine dx 7 (Zo none ((k:Int)-1) 1 (Y3 Zv)) (ZY 0 2 [8,9] 19 (.b (decide (x1<=x2))) (de (ZM (x1<=x2) (fun Zk=>?_) (fun Zk=>?_))))
  ·refine ar (ir 1 [(2,.b false)] (ie ?_))
   exact Zc (r2 [] [.b false] ⟨rfl,rfl⟩ (lb (absurd (hasc (k-1) x2 x1 (by have h:=Zv;rwa [show ((k:Int)-1).toNat=k-1 by omega] at h) (by rw [show k-1+1=k by omega];exact Z3)) om)))
  refine ak (az (Z1 1 8 (.i k) (ZO k (ir 1 [(0,Z0 xs),(3,.i (k+1:Nat))] (ie ?_)))))
  exact ZQ ⟨k+1,ob,rfl,rfl,rfl⟩ (wk [] (fr (ZW k fl)))
 refine ax 0 (ar (ir 1 [(2,.b true)] (ie ?_)))
 exact Zc (r1 [] ⟨rfl,rfl⟩)
theorem Z1g (code:List Int) (hcb:∀z∈code,0<=z/\z<=255):Zj Tryz.prog 4 [X9 code] [] (fun r h=>r=.b true/\h=[]):=by
 refine ZK 68 Tryz.func4 (ar (ir 1 [(0,X9 code)] (ie (aq (ar (Z1 1 7 (X9 code) (iw (Qw code) (Z1 1 9 (.b (decide ((code.length:Int)>1048576))) (ie (ZM ((code.length:Int)>1048576) (fun Ze=>?_) (fun Ze=>?_)))))))))))
 ·refine ar (ir 1 [(2,.b true)] (ie ?_))
  exact Zc (r1 [] ⟨rfl,rfl⟩)
 have hcl:code.length<=1048576:=by omega
 refine ak (ar (ir 1 [(10,X9 code)] (ic [] (Rs code (hcl:=hcl) (hcb:=hcb)) ?_)))
 rintro _ _ ⟨n21,rfl,rfl,ZP⟩
 have hzs:=ZP
 have hzn:=hzs.sz om om
 have hln:=hzs.len
 refine iA [nl,nl] ?_
 intro b1
 refine ZH 0 b1 (ZU n21) (ie (ar (Yk 1 12 (ZE n21) [0] [b1] (ZA [] (Z0b n21 (hr:=(fun r hr=>(hzs.rt r hr).2.2.2))) (Z1 1 4 (.b (Xd n21)) (ie (aq (ar (Y1 2 14 (.b (Xd n21)) 15 (ZE n21) [0] [b1] (ZA [] (N7 n21) (Zq (Z14 (Xd n21) (Xd n21)) (Xp [(3,.p b1 0),(4,.b (Xd n21)),(21,.b (((Xd n21) != (Xd n21))||(!Xd n21)))] [.obj b1 (ZU n21)] ?_ ?_))))))))))))
 ·refine ir 1 [(3,.p b1 0),(4,.b (Xd n21)),(18,.b ((Xd n21) != (Xd n21)))] (ib (b:=((Xd n21) != (Xd n21))) 18 (fun Za=>?_) (fun Za=>?_))
  ·have Y0:(Xd n21)≠(Xd n21):=(Yc).1 Za
   refine Z5 3 (.n 21 (.b true) (.d (.k (.k .z)))) (ie ?_)
   exact wk [0] (fw (Zr true Za fl))
  have YB:¬((Xd n21)≠(Xd n21)):=ZG Yc Za
  refine Z5 3 (.n 21 (.b (!Xd n21)) (.d (.k (.k .z)))) (ie ?_)
  exact wk [0] (fw (Zr (!Xd n21) Za fl))
 refine ac (((Xd n21) != (Xd n21))||(!Xd n21)) (p:=((Xd n21)≠(Xd n21))∨(¬(Xd n21=true))) (Yh Yc (Yt Iff.rfl)) (fun Zk=>?_) (fun Zk=>?_)
 ·refine ar (iR 2 [(22,.b (Xd n21)),(23,ZE n21)] [0] [b1] (ZA [] (N7 n21) (Zq (Z13 (Xd n21) (Xd n21)) (ir 1 [(2,.b ((Xd n21)==(Xd n21)))] (ie ?_)))))
  exact Zc (r2 [] [.b ((Xd n21)==(Xd n21))] ⟨rfl,rfl⟩ (lb (by simp)))
 have hvn:Xd n21=true:=BN fun z=>Zk (.inr z)
 refine ak (aq (ar (ir 1 [(3,.p b1 0),(5,.i 0)] (ie (ab 0 (al (fun m F h=>∃(k:Nat),(k<=n21.routines.length)/\F=[(3,.p b1 0),(5,.i k)]/\h=[.obj b1 (ZU n21)]/\m=n21.routines.length-k) _ _ _ ⟨0,ob,rfl,rfl,rfl⟩ (wk [0] (fr (Ye fl))) ?_))))))
 rintro m F h ⟨k,Ym,rfl,rfl,rfl⟩
 refine aq (ar (Y1 3 26 (.i k) 28 (YZ n21.routines) [0] [b1] (iw (U8 n21.routines) (Z1 1 30 (.b (decide ((k:Int)<(n21.routines.length:Int)))) (ie (ZM ((k:Int)<(n21.routines.length:Int)) (fun ZI=>?_) (fun ZI=>?_)))))))
 ·refine ak (aq (ab 1 (ar (Y1 3 34 (YZ n21.routines) 35 (.i k) [0] [b1] ?_))))
  obtain ⟨x1,Z3⟩:=Zs (xs:=n21.routines) (j:=k) om
  have hrm:=Y7 Z3
  obtain ⟨hr1,hr2,hr3,hr4⟩:=hzs.rt _ hrm
  have hbt:=Z7a hvn hrm
  refine Zq (Zo none (k:Int) 5 (WB Z3)) (Z1 1 37 (WZ x1) (iA [nl,nl,.i 0,nl,.i 0] ?_))
  intro b2
  refine ZH 0 b2 (VO x1) (ie (aD 15 (Y6 8 15 [0,1,2,3,4,6,7] (.n 38 (ZE n21) (.n 40 (Z0 x1.params) (.n 42 (Zx x1.body) (.n 45 (.i x1.result) .r)))) [1,0,0,0] [b1,b2,b2,b2] (Z9 5 (Ys 5 [] [0] [b2] (Z0a n21 x1.params x1.body) (KY [(3,.p b1 0),(5,.i k),(52,.b ((UM n21 x1.params x1.body) != x1.result))] [.obj b2 (VO x1),.obj b1 (ZU n21)] ?_ ?_))))))
  ·refine Xa 5 7 [8,9] [(3,.p b1 0),(5,.i k),(6,.p b2 0),(47,.b ((UM n21 x1.params x1.body) != x1.result))] (db (b:=((UM n21 x1.params x1.body) != x1.result)) 47 (fun Zw=>?_) (fun Zw=>?_))
   ·have YN:(UM n21 x1.params x1.body)≠x1.result:=(Yc).1 Zw
    refine ZZ 0 5 [10,11,12,13,14] (.n 52 (.b true) (.d (.k (.k .z)))) (de ?_)
    exact wk [0,0] (fw (fc (x:=.b true) (lb Zw.symm) fl))
   have YX:¬((UM n21 x1.params x1.body)≠x1.result):=ZG Yc Zw
   refine Y6 3 5 [10,11] (.n 49 (Z0 x1.lent) (.k (.k (.k .z)))) [0] [b2] (Z9 12 (Ys 12 [] [] [] (Z1h x1.lent (hasc:=(Z79 hvn hrm))) (ZY 0 2 [13,14] 52 (.b false) (de ?_))))
   exact wk [0,0] (fw (fc (x:=.b false) (lb Zw.symm) fl))
  refine ac ((UM n21 x1.params x1.body) != x1.result) Yc (fun Yi=>?_) (fun Yi=>?_)
  ·refine ar (ir 1 [(2,.b false)] (ie ?_))
   exact Zc (r2 [] [.b false] ⟨rfl,rfl⟩ (lb (absurd hbt Yi)))
  refine ak (az (ir 1 [(3,.p b1 0),(31,.i k)] (ZO k (Z1 1 5 (.i (k+1:Nat)) (ie ?_)))))
  exact ZQ ⟨k+1,ob,rfl,rfl,rfl⟩ (wk [1] (fr (ZW k fl)))
 refine ax 0 (ar (Yk 2 54 (YZ n21.routines) [0] [b1] ?_))
 obtain ⟨x2,Zv⟩:=Zs (xs:=n21.routines) (j:=0) om
 have hf:=Z7b hvn Zv
 refine Zq (Zo none 0 5 (WB Zv)) (Z1 2 57 (Z0 x2.params) (iw (Yd x2.params) (XP 15 [(67,.b (((x2.params.length:Int)==0)&&(x2.result==0)))] [.obj b1 (ZU n21)] ?_ (fun hj1=>?_))))
 ·refine ir 1 [(2,.b (((x2.params.length:Int)==0)&&(x2.result==0)))] (ie ?_)
  exact Zc (r2 [] [.b (((x2.params.length:Int)==0)&&(x2.result==0))] ⟨rfl,rfl⟩ (lb (by rw [show (x2.params.length:Int)=0 by omega,hf.2];rfl)))
 refine ir 2 [(3,.p b1 0),(60,.b ((x2.params.length:Int)==0))] (ib (b:=((x2.params.length:Int)==0)) 60 (fun Yw=>?_) (fun Yw=>?_))
 ·have Xy:(x2.params.length:Int)=0:=(Zh).1 Yw
  refine Y2 2 (.n 62 (YZ n21.routines) (.k .z)) [0] [b1] (Zq (Zo none 0 5 (WB Zv)) (ir 4 [(67,.b (x2.result==0))] ?_))
  exact YG (wk [0] (Zr (x2.result==0) Yw fl)) hj1
 have Wh:¬((x2.params.length:Int)=0):=ZG Zh Yw
 refine ir 7 [(67,.b false)] ?_
 exact YG (wk [0] (Zr false Yw fl)) hj1
end Go.Abs
section
namespace Go.Proofs.YthllacimcjakdaaGreat.fnValidNormal
open Go.ChangeShapes Go.WideShapes Go.ChangeAt Go.RowKit Go.Abs
theorem own:ownKnob Tryz.prog.godebug=none:=by kernel_rfl
theorem kids:Kids Tryz.prog (·<Tryz.prog.types.size):=kids_rows kr kr
theorem Rr:∀t e,t<Tryz.prog.types.size->Tryz.prog.underlying t=some (.slice e)->0<Tryz.prog.cellsOf e:=slices_full_of Tryz.prog kr
theorem MR {w w':World} {G G':Y9} {h':List Res} (hx:YU w G [] w' G' h'):∀b,b<w.heap.size->w'.heap[b]? = w.heap[b]?:=
 fun b hb=>(hx.same b hb).eq fun o ⟨r,hr,_⟩=>by cases hr
theorem OV {w w':World} {b o:Nat} (h:w'.heap[b]? = w.heap[b]?):w'.cell? ⟨b,o,none⟩=w.cell? ⟨b,o,none⟩:=by simp [World.cell?,h]
theorem Z1z {t:Nat} (h:Nat.blt t Tryz.prog.types.size=true):t<Tryz.prog.types.size:=Nat.le_of_ble_eq_true h
set_option maxRecDepth 100000 in
theorem Pg (H:Type) (enc:TypeId × Value->H) (W:World) (base:Nat) (args:Array Value) (ds gs:List (DataW H)) (before:List MemPlace) (hval:∀(j:Nat) t v,Tryz.f4.params[j]? = some t->args[j]? = some v->Value.okWide Tryz.prog W .any base t v)
  (hW:DataW.Whole enc Tryz.prog Tryz.f4.params.toList Rows.fnValidNormalSpec.vars false W args.toList ds gs before) :
  Calls Tryz.prog 4 args W fun e W'=>∃v,e=.returned v/\Rows.fnValidNormalSpec.post enc Tryz.prog Tryz.f4 false true false false W args v W':=by
 have hW':=hW
 obtain ⟨p,q,hA0,hV,rfl,hfz,hnd⟩:=hW
 have hA:DataW.TrodAll enc Tryz.prog W 0 (fun _=>true) true Tryz.f4.params.toList args.toList ds p:=hA0
 rw [Tryz.params4] at hA
 obtain ⟨v0,vs0,d0,ds0,p0,q0,hargs,rfl,rfl,h0,r0⟩:=trodAll_cons hA
 obtain ⟨rfl,rfl,rfl⟩:=trodAll_nil r0
 obtain rfl:args=#[v0]:=by cases args;simp_all
 obtain ⟨rfl,rfl⟩:=trodVars_none hV
 obtain ⟨fuel,htr⟩:=h0
 obtain ⟨qa,ql,qc,rfl⟩:=okWide_slice Tryz.underlying22 (hval 0 22 v0 kr rfl)
 obtain ⟨v1,code,hv1,hrv,hcb⟩:=Z34 htr
 have hv1:[Value.slice qa ql qc]=[v1]:=hv1
 cases hv1
 have hh:YA W (GA W) []:=⟨(fun r hr=>by cases hr),List.Pairwise.nil,(fun r hr=>by cases hr),fun b o hg=>hg⟩
 refine (Z1g code hcb W (GA W) [.slice qa ql qc] (.cons hrv .nil) hh).mono ?_
 rintro e W' ⟨v,r,h',G',rfl,⟨rfl,rfl⟩,hv,hh',hx⟩
 have hvb:=hv.val_inv
 subst hvb
 refine ⟨_,rfl,[d0],[],p0++[]++[],[],p0++[],[],hW',?_,?_,rfl,?_,(fun h=>by cases h)⟩
 ·exact trodAll_cons_mk (shut_bool Tryz.underlying4 _) trodAll_mk0
 ·have DC:∀b,b<W.heap.size->W'.heap[b]? = W.heap[b]?:=MR hx
  have hlt:=hW'.lt
  have hcar:DataW.TrodAll enc Tryz.prog W' 0 (fun _=>true) true Tryz.f4.params.toList [.slice qa ql qc] [d0] (p0++[]):=by
   rw [Tryz.params4]
   refine ⟨p0,[],⟨fuel,DataW.trod_carry fuel 22 _ _ htr fun y hy=>?_⟩,rfl,rfl⟩
   have hyl:=hlt y (by simpa using hy)
   cases y with
   | cell b o=>exact OV (DC b hyl)
   | map b=>exact DC b hyl
  exact DataW.TrodAll.respare kids Rr (by rw [Tryz.params4];intro t ht;rw [List.mem_singleton.1 ht];exact Z1z kr) hcar (fun y hy=>by have:=hlt y (by simpa using hy);simpa using this)
 ·refine ⟨hx.os,hx.output,fun i hi=>?_⟩
  rw [MR hx i hi]
  cases W.heap[i]? with
  | none=>rfl
  | some o=>cases o<;>first | rfl | exact ⟨rfl,rfl,rfl,fun _ _=>rfl⟩ | exact .inr ⟨rfl,rfl⟩
set_option maxRecDepth 100000 in
theorem Z1x (os:Os) (started:os.Started) (H:Type) (enc:TypeId × Value->H) (F:Stop.Interp) :
  ReturnsInHanded {} Tryz.checked os 4 .any ((Rows.OpenSpec.upto Rows.fnValidNormalSpec).pre6 enc Tryz.prog Tryz.f4 Rows.fnValidNormalUptoRow.domain false) (((Rows.OpenSpec.upto Rows.fnValidNormalSpec).at F).post enc Tryz.prog Tryz.f4 false true false false):=by
 refine returnsInHanded_of_cond (C:=Tryz.checked) (s:=Rows.OpenSpec.upto Rows.fnValidNormalSpec) (k:=Rows.uptoSmall) rfl own started kr Tryz.func4
  (OpenSpec.witness (enc:=enc) (C:=Tryz.checked) (s:=Rows.OpenSpec.upto Rows.fnValidNormalSpec) (k:=Rows.uptoSmall) rfl false ⟨#[],#[.slice none 0 0],[]⟩ 8 kr kr kr
   (x:=([.nil],[],[])) kr rfl kr) ?_
 intro W base args ds gs before hval hW _ hk _
 exact Pg H enc W base args ds gs before hval hW
theorem Om {a b:Bool} (ha:a=true) (hb:b=true):(a&&b)=true:=by rw [ha,hb];rfl
set_option maxHeartbeats 4000000 in
theorem OY:joinedFacts Tryz.pinned.checked.prog 4 Tryz.f4 (Rows.OpenSpec.upto Rows.fnValidNormalSpec).bare Rows.fnValidNormalUptoRow=true:=by
 unfold joinedFacts
 iterate 31 refine Om ?_ (by as_aux_lemma=>kernel_rfl)
 as_aux_lemma=>kernel_rfl
theorem Z30:Rows.fnValidNormalUptoRow.holds Tryz.pinned (Rows.OpenSpec.upto Rows.fnValidNormalSpec):=
 OpenClaim.holds_of_cond 4 Tryz.f4 rfl rfl rfl rfl rfl rfl rfl ⟨rfl,rfl,rfl,rfl,rfl⟩ rfl rfl rfl rfl rfl (by as_aux_lemma=>kernel_rfl) Tryz.func4 OY
  (of_decide_eq_true kr) (by unfold Func.isWrapper;first|(rw [if_pos (by decide +kernel)];kernel_rfl)|(rw [if_neg (by decide +kernel)];exact ⟨rfl,rfl⟩))
  (fun os started H enc _ F=>Z1x os started H enc F)
theorem proved:Rows.FnValidNormalUptoSaid:=
 Z30
#print axioms proved
end Go.Proofs.YthllacimcjakdaaGreat.fnValidNormal
end
