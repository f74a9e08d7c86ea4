/-
  FnIsPlainCountsUptoSaid: the law FnIsPlainCounts returns true at every argument of bulk at most 1048576, and the argument reads behind the call as it read before.
-/
import Derived.Test.YthllacimcjakdaaGreatIpcE
import Derived.Test.YthllacimcjakdaaGreatRows
import Derived.WalkKit
import Derived.ProofKit
import Derived.OpenShut
import Derived.JoinedCond
import Derived.ReadAgain
set_option linter.all false
set_option linter.unusedVariables false
set_option linter.unusedSimpArgs false
set_option linter.unusedSectionVars false
set_option maxRecDepth 10000
set_option maxHeartbeats 4000000
namespace Go.Abs
open Go.Proofs
theorem Z1q (n:Zx) (t:Int) (hn:Xd n:=by exact ob):Zi Tryz.prog 131 [.agg [Zd n.decls,Xk n],.i t] [] (fun r h=>r=WD ((Zw n.decls t).map (ZC n.decls))/\h=[]):=by
 have Xu:=hn.decls
 have hcl:=GQ Xu t
 refine ZK 26 Tryz.func131 (ar (iA [Zd n.decls,Xk n] ?_))
 intro b1
 refine ir 1 [(1,.i t),(2,.p b1 0)] (ie (ar (Z1 1 5 (nl) (ie (aq (ar (ZY 3 9 (Zd n.decls) 10 (.i t) [0] [b1] (ZA [] (Z1j n.decls t) (io (.i (((Zw n.decls t).length:Nat):Int)) (.i (((Z8 (Zw n.decls t)).length:Nat):Int)) (li (by rw [Yh])) (Z1 1 13 (.i 0) (ie (ab 0 (Dd 1 (al (fun m F h=>∃(k:Nat) (v:Value),(k<=(Zw n.decls t).length)/\F=[(2,.p b1 0),(5,T2 (((Zw n.decls t).take k).map (ZC n.decls)) v),(11,Z0 (Zw n.decls t)),(12,.i (((Zw n.decls t).length:Nat):Int)),(13,.i k)]/\h=[.obj b1 [Zd n.decls,Xk n],.tail v 1]/\m=(Zw n.decls t).length-k) _ _ _ ⟨0,(.slice none 0 0),ob,rfl,rfl,rfl⟩ (wk [1,0] (fr (fc (x:=nl) (Zg.slh _ rfl) (fw (Ya fl))))) ?_))))))))))))))
 rintro m F h ⟨k,v,Yj,rfl,rfl,rfl⟩
 refine ar (Z1 1 14 (.b (decide ((k:Int)<(((Zw n.decls t).length:Nat):Int)))) (ie (aq (ZM ((k:Int)<(((Zw n.decls t).length:Nat):Int)) (fun Ze=>?_) (fun Ze=>?_)))))
 ·refine ak (aq (ab 1 (ar ?_)))
  obtain ⟨x1,Z3⟩:=Zr (xs:=Zw n.decls t) (j:=k) om
  refine Zq (Zm none (k:Int) 1 (Y4 Z3)) (Z1 2 7 (.i x1) (ie (az (Y2 4 (.n 17 (T2 (((Zw n.decls t).take k).map (ZC n.decls)) v) (.n 19 (Zd n.decls) (.n 20 (.i x1) .r))) [0] [b1] (ZA [] (Z1m n.decls x1 (hc:=(by have:=PN Xu Z3;omega))) (iL (W7 [ZC n.decls x1]) 1 1 ?_))))))
  intro v1
  refine Z5 0 (.n 22 (WD [ZC n.decls x1]) (.p .r)) (ip 2 (W7 (((Zw n.decls t).take (k+1)).map (ZC n.decls))) (W7 (((Zw n.decls t).take k).map (ZC n.decls))) (W7 [ZC n.decls x1]) v none 1 (JW _) (JW _) (Dx _) (by simp;omega) (by rw [WM Z3];simp [W7]) ?_)
  intro v2
  refine Z5 1 (.n 5 (T2 (((Zw n.decls t).take (k+1)).map (ZC n.decls)) v2) (.p (.d (.p (.d (.d (.d (.d (.p (.d (.k (.d .r)))))))))))) (ie (az (ZL k (Z5 1 (.n 13 (.i (k+1:Nat)) (.p (.w .z))) (ie ?_)))))
  have hdr:=Y8 Z3
  exact ZO ⟨k+1,v2,ob,rfl,rfl,rfl⟩ (wk [2,0] (fq (ZQ k fl)))
 refine ax 0 (ar (ir 2 [(4,T2 (((Zw n.decls t).take k).map (ZC n.decls)) v)] (ie ?_)))
 exact Zb (r2 [] [T2 (((Zw n.decls t).take k).map (ZC n.decls)) v] ⟨rfl,rfl⟩ (Zg.sl _ (Yx W7 (by rw [Vg om]))))
theorem Z1r (n:Zx) (op:Int) (num:Int) (ts:List Int) (hn:Xd n:=by exact ob) (hl_ts:ts.length<=4294967296:=by exact ob) (hnum:-9223372036854775808<=num/\num<=9223372036854775807:=by exact ob):Zi Tryz.prog 132 [.agg [Zd n.decls,Xk n],.i op,.i num,Z0 ts] [] (fun r h=>∃(t:Int),r=.tup [.i t,.b ((Xv n op num ts).isSome)]/\h=[]/\∀x,Xv n op num ts=some x->t=x):=by
 have Xu:=hn.decls
 have hrl:=hn.len
 have hcfl:(ZC n.decls num).length<=4294967296:=by have:=VK Xu num;omega
 have hdl:n.decls.length<=4294967296:=by have:=Xu.len;omega
 refine ZK 149 Tryz.func132 (ar (iA [Zd n.decls,Xk n] ?_))
 intro b1
 refine ir 2 [(1,.i op),(2,.i num),(3,Z0 ts),(4,.p b1 0)] (ie (ar (Z1 2 11 (.i 0) (ie (aq (ar (Z1 1 18 (.i op) (ie (ab 0 (ar (Z1 2 19 (.b (op==0)) (ie (ac (op==0) Zh (fun Ze=>?_) (fun Ze=>?_))))))))))))))
 ·refine ar (XQ 6 [(3,Z0 ts),(26,.b ((decide (num>=(-999)))&&(decide (num<=999))))] [.obj b1 [Zd n.decls,Xk n]] ?_ (fun hj1=>?_))
  ·refine XQ 11 [(31,.b (((decide (num>=(-999)))&&(decide (num<=999)))&&((ts.length:Int)==0)))] [.obj b1 [Zd n.decls,Xk n]] ?_ (fun hj2=>?_)
   ·refine ir 2 [(8,.i 0),(9,.b (((decide (num>=(-999)))&&(decide (num<=999)))&&((ts.length:Int)==0)))] (ie ?_)
    have hF:=sf0 (n:=n) (num:=num) (ts:=ts) Ze
    exact Zb (r2 [] [.i 0,.b (((decide (num>=(-999)))&&(decide (num<=999)))&&((ts.length:Int)==0))] ⟨0,rfl,rfl,(Ah hF)⟩ (Zg.tup (.cons (lr _) (.cons (lb (Ag hF (by simp [*];try omega))) .nil))))
   refine ir 1 [(3,Z0 ts),(27,.b ((decide (num>=(-999)))&&(decide (num<=999))))] (ib (b:=((decide (num>=(-999)))&&(decide (num<=999)))) 27 (fun Za=>?_) (fun Za=>?_))
   ·have ZP:(num>=(-999))/\(num<=999):=((YD dq dq)).1 Za
    refine Z5 1 (.n 28 (Z0 ts) (.k .z)) (iw (Yh ts) (ir 2 [(31,.b ((ts.length:Int)==0))] ?_))
    exact YG (wk [0] (Zu ((ts.length:Int)==0) Za fl)) hj2
   have Y1:¬((num>=(-999))/\(num<=999)):=ZI (YD dq dq) Za
   refine ir 4 [(31,.b false)] ?_
   exact YG (wk [0] (Zu false Za fl)) hj2
  refine ir 3 [(2,.i num),(3,Z0 ts),(23,.b (decide (num>=(-999))))] (ib (b:=(decide (num>=(-999)))) 23 (fun Zz=>?_) (fun Zz=>?_))
  ·have Yy:num>=(-999):=(dq).1 Zz
   refine ir 3 [(3,Z0 ts),(26,.b (decide (num<=999)))] ?_
   exact YG (wk [0] (fr (Zu (decide (num<=999)) Zz fl))) hj1
  have YK:¬(num>=(-999)):=ZI dq Zz
  refine ir 3 [(3,Z0 ts),(26,.b false)] ?_
  exact YG (wk [0] (fr (Zu false Zz fl))) hj1
 refine aq (ar (Z1 2 32 (.b (op==1)) (ie (XI (fun F h=>F=[(1,.i op),(2,.i num),(3,Z0 ts),(4,.p b1 0),(11,.i 0),(18,.i op),(32,.b ((op==1)||((op==2)||((op==3)||(op==4)))))]/\h=[.obj b1 [Zd n.decls,Xk n]]) ?_ ?_))))
 ·refine ac (op==1) Zh (fun Zk=>?_) (fun Zk=>?_)
  ·refine ak ?_
   exact ZW ⟨rfl,rfl⟩ (wk [0] (fq (fw (fc (x:=.b (op==1)) (lb (by first|rfl|(rw [Zo Zk])|(rw [Zc Zk])|(simp [Zk];done)|(rw [Xl];simp [Zk];done)|omega)) fl))))
  refine ar (ir 2 [(1,.i op),(2,.i num),(3,Z0 ts),(4,.p b1 0),(11,.i 0),(18,.i op),(32,.b (op==2))] (ie (ac (op==2) Zh (fun ZG=>?_) (fun ZG=>?_))))
  ·refine ak ?_
   exact ZW ⟨rfl,rfl⟩ (wk [0] (fq (fw (fc (x:=.b (op==2)) (lb (by first|rfl|(rw [Zo Zk])|(rw [Zc Zk])|(simp [Zk,ZG];done)|(rw [Xl];simp [Zk,ZG];done)|omega)) fl))))
  refine ar (Z5 2 (.n 32 (.b (op==3)) (.w (.k (.k .z)))) (ie (ac (op==3) Zh (fun Ym=>?_) (fun Ym=>?_))))
  ·refine ak ?_
   exact ZW ⟨rfl,rfl⟩ (wk [0] (fq (fw (fc (x:=.b (op==3)) (lb (by first|rfl|(rw [Zo Zk])|(rw [Zc Zk])|(simp [Zk,ZG,Ym];done)|(rw [Xl];simp [Zk,ZG,Ym];done)|omega)) fl))))
  refine az (Z5 2 (.n 32 (.b (op==4)) (.d .r)) (ie ?_))
  exact ZW ⟨rfl,rfl⟩ (wk [0] (fq (fw (fc (x:=.b (op==4)) (lb (by first|rfl|(rw [Zo Zk])|(rw [Zc Zk])|(simp [Zk,ZG,Ym];done)|(rw [Xl];simp [Zk,ZG,Ym];done)|omega)) fl))))
 rintro F h ⟨rfl,rfl⟩
 refine ac ((op==1)||((op==2)||((op==3)||(op==4)))) (p:=(op=1)∨((op=2)∨((op=3)∨(op=4)))) (Yo Zh (Yo Zh (Yo Zh Zh))) (fun Xi=>?_) (fun Xi=>?_)
 ·refine az (iL (Z8 [0,0]) 2 1 ?_)
  intro v1
  refine ir 1 [(2,.i num),(3,Z0 ts),(10,Z7 [0,0] v1),(11,.i 0)] (ie (ar (XQ 8 [(141,.i 0),(148,.b ((num==0)&&(decide (ts=[0,0]))))] [.tail v1 1,.obj b1 [Zd n.decls,Xk n]] ?_ (fun hj3=>?_))))
  ·refine ir 2 [(8,.i 0),(9,.b ((num==0)&&(decide (ts=[0,0]))))] (ie ?_)
   have hF:=sf1 (n:=n) (num:=num) (ts:=ts) Xi
   exact Zb (r2 [] [.i 0,.b ((num==0)&&(decide (ts=[0,0])))] ⟨0,rfl,rfl,(Ah hF)⟩ (Zg.tup (.cons (lr _) (.cons (lb (Ag hF (by simp [*];try omega))) .nil))))
  refine ir 4 [(3,Z0 ts),(10,Z7 [0,0] v1),(141,.i 0),(144,.b (num==0))] (ib (b:=(num==0)) 144 (fun YE=>?_) (fun YE=>?_))
  ·have X0:num=0:=(Zh).1 YE
   refine Z5 2 (.n 145 (Z0 ts) (.n 146 (Z0 [0,0]) (.k (.d (.d (.k .z)))))) (ZA [] (CW ts [0,0]) (Z1 1 148 (.b (decide (ts=[0,0]))) ?_))
   exact YG (wk [0,0] (fr (Zu (decide (ts=[0,0])) YE fl))) hj3
  have XB:¬(num=0):=ZI Zh YE
  refine ir 4 [(141,.i 0),(148,.b false)] ?_
  exact YG (wk [0,0] (fr (Zu false YE fl))) hj3
 refine ar (ir 2 [(1,.i op),(2,.i num),(3,Z0 ts),(4,.p b1 0),(11,.i 0),(18,.i op),(38,.b (op==5))] (ie (ac (op==5) Zh (fun Xj=>?_) (fun Xj=>?_))))
 ·refine az (iL (Z8 [0]) 1 1 ?_)
  intro v2
  refine Z1 1 10 (Z7 [0] v2) (ie (ar (XQ 8 [(141,.i 0),(148,.b ((num==0)&&(decide (ts=[0]))))] [.tail v2 1,.obj b1 [Zd n.decls,Xk n]] ?_ (fun hj4=>?_))))
  ·refine ir 2 [(8,.i 0),(9,.b ((num==0)&&(decide (ts=[0]))))] (ie ?_)
   have hF:=sf5 (n:=n) (num:=num) (ts:=ts) Xj
   exact Zb (r2 [] [.i 0,.b ((num==0)&&(decide (ts=[0])))] ⟨0,rfl,rfl,(Ah hF)⟩ (Zg.tup (.cons (lr _) (.cons (lb (Ag hF (by simp [*];try omega))) .nil))))
  refine ir 4 [(3,Z0 ts),(10,Z7 [0] v2),(141,.i 0),(144,.b (num==0))] (ib (b:=(num==0)) 144 (fun Xf=>?_) (fun Xf=>?_))
  ·have Wk:num=0:=(Zh).1 Xf
   refine Z5 2 (.n 145 (Z0 ts) (.n 146 (Z0 [0]) (.k (.d (.d (.k .z)))))) (ZA [] (CW ts [0]) (Z1 1 148 (.b (decide (ts=[0]))) ?_))
   exact YG (wk [0,0] (fr (Zu (decide (ts=[0])) Xf fl))) hj4
  have WJ:¬(num=0):=ZI Zh Xf
  refine ir 4 [(141,.i 0),(148,.b false)] ?_
  exact YG (wk [0,0] (fr (Zu false Xf fl))) hj4
 refine ar (Z1 2 41 (.b (op==11)) (ie (ac (op==11) Zh (fun Vx=>?_) (fun Vx=>?_))))
 ·refine aq (ar (Z1 1 43 (Z0 ts) (iw (Yh ts) (Z1 1 45 (.b ((ts.length:Int) != 2)) (ie (ac ((ts.length:Int) != 2) Yi (fun Vr=>?_) (fun Vr=>?_)))))))
  ·refine ar (ir 2 [(8,.i (-1)),(9,.b false)] (ie ?_))
   have hF:=Z65 (n:=n) (num:=num) Vx Vr
   exact Zb (r2 [] [.i (-1),.b false] ⟨(-1),rfl,rfl,(CV hF)⟩ (Zg.tup (.cons (lr _) (.cons (lb (CU hF)) .nil))))
  refine ak (aD 12 (Y6 9 12 [0,1,2] (.n 48 (Zd n.decls) (.n 49 (Z0 ts) .r)) [0] [b1] ?_))
  obtain ⟨x1,Z3⟩:=Zr (xs:=ts) (j:=0) om
  refine dx 3 (Zm none 0 1 (Y4 Z3)) (ZZ 7 8 [4] 51 (.i x1) (dK (fun F h=>∃(b2:Nat),F=[(2,.i num),(3,Z0 ts),(12,.p b2 0),(13,.b (X5 n.decls x1))]/\h=[.obj b2 (Wt (Ws n.decls x1)),.obj b1 [Zd n.decls,Xk n]]) ?_ ?_))
  ·refine Vj 5 9 ?_ ?_
   ·refine Yv 5 [] [] [] (DV n.decls x1) (Xa 3 6 [6,7,8] [(2,.i num),(3,Z0 ts),(53,Uo (Ws n.decls x1)),(54,.b (X5 n.decls x1))] (Z9 9 (dA 9 [] [] [.i 0,.i 0,nl] ?_)))
    intro b2
    refine Z9 10 (YL 10 0 [] [] b2 (Wt (Ws n.decls x1)) (ZZ 0 1 [11] 13 (.b (X5 n.decls x1)) (de ?_)))
    exact ZW ⟨b2,rfl,rfl⟩ (wk [0,0] fl)
   refine dA 9 [0] [b1] [.i 0,.i 0,nl] ?_
   intro b3
   refine Z9 5 (Yv 5 [] [] [] (DV n.decls x1) (Xa 2 5 [6,7,8] [(2,.i num),(3,Z0 ts),(12,.p b3 0),(53,Uo (Ws n.decls x1)),(54,.b (X5 n.decls x1))] (Z9 10 (YL 10 0 [] [] b3 (Wt (Ws n.decls x1)) (ZZ 0 1 [11] 13 (.b (X5 n.decls x1)) (de ?_))))))
   exact ZW ⟨b3,rfl,rfl⟩ (wk [0,0] fl)
  rintro F h ⟨b2,rfl,rfl⟩
  refine aD 17 (W2 13 17 [0,1,2,3] [(2,.i num),(3,Z0 ts),(12,.p b2 0),(56,.i ((Ws n.decls x1).to_)),(58,.b (X5 n.decls x1))] [0] [b2] (db (b:=X5 n.decls x1) 58 (fun Wb=>?_) (fun Wb=>?_)))
  ·have V4:X5 n.decls x1=true:=(Iff.rfl).1 Wb
   refine Y0 12 13 [4] (.n 59 (Z0 ts) (.k (.k (.d (.k (.k .z)))))) ?_
   obtain ⟨x2,Zt⟩:=Zr (xs:=ts) (j:=1) om
   refine dx 5 (Zm none 1 1 (Y4 Zt)) (Y6 4 11 [6,7,8,9,10,11,15] (.n 8 (.i ((Ws n.decls x1).to_)) (.n 66 (.b (x2==((Ws n.decls x1).frm))) .r)) [0] [b2] (db (b:=(x2==((Ws n.decls x1).frm))) 66 (fun WC=>?_) (fun WC=>?_)))
   ·have Ug:x2=((Ws n.decls x1).frm):=(Zh).1 WC
    refine Y0 0 4 [12,13,14,16] (.n 9 (.b (num==0)) (.d (.k .z))) (de ?_)
    have hF:=H8 (n:=n) (num:=num) Vx Vr Z3 Zt
    exact Zb (r2 [] [.i ((Ws n.decls x1).to_),.b (num==0)] ⟨(Ws n.decls x1).to_,rfl,rfl,(Ah hF)⟩ (Zg.tup (.cons (lr _) (.cons (lb (Ag hF (by simp [*];try omega))) .nil))))
   have UM:¬(x2=((Ws n.decls x1).frm)):=ZI Zh WC
   refine Y0 0 4 [12,13,14,16] (.n 9 (.b false) (.d (.k .z))) (de ?_)
   have hF:=H8 (n:=n) (num:=num) Vx Vr Z3 Zt
   exact Zb (r2 [] [.i ((Ws n.decls x1).to_),.b false] ⟨(Ws n.decls x1).to_,rfl,rfl,(Ah hF)⟩ (Zg.tup (.cons (lr _) (.cons (lb (Ag hF (by simp [*]))) .nil))))
  have Uw:¬(X5 n.decls x1=true):=ZI Iff.rfl Wb
  refine Xa 0 13 [4,5,6,7,8,9,10,11,12,13,14,15,16] [(8,.i ((Ws n.decls x1).to_)),(9,.b false)] (de ?_)
  have hF:=Z64 (n:=n) (num:=num) Vx Vr Z3 (by assumption)
  exact Zb (r2 [] [.i ((Ws n.decls x1).to_),.b false] ⟨(Ws n.decls x1).to_,rfl,rfl,(CV hF)⟩ (Zg.tup (.cons (lr _) (.cons (lb (CU hF)) .nil))))
 refine ar (Z1 2 70 (.b (op==6)) (ie (ac (op==6) Zh (fun VH=>?_) (fun VH=>?_))))
 ·refine ar (ZY 3 74 (Zd n.decls) 75 (.i num) [0] [b1] (ZA [] (Lz n.decls num) (Yq 3 77 (.i (Xt n.decls num)) 78 (.agg [Z0 (ZC n.decls num)]) (iA [nl] ?_))))
  intro b4
  refine Z1 1 14 (.i (Xt n.decls num)) (ZF 0 b4 [Z0 (ZC n.decls num)] (ie (ar (XQ 9 [(79,.i (Xt n.decls num)),(87,.b ((decide ((Xt n.decls num)>=0))&&(decide (ts=(ZC n.decls num)))))] [.obj b4 [Z0 (ZC n.decls num)],.obj b1 [Zd n.decls,Xk n]] ?_ (fun hj5=>?_)))))
  ·refine ir 2 [(8,.i (Xt n.decls num)),(9,.b ((decide ((Xt n.decls num)>=0))&&(decide (ts=(ZC n.decls num)))))] (ie ?_)
   have hF:=sf6 (n:=n) (num:=num) (ts:=ts) VH
   exact Zb (r2 [] [.i (Xt n.decls num),.b ((decide ((Xt n.decls num)>=0))&&(decide (ts=(ZC n.decls num))))] ⟨Xt n.decls num,rfl,rfl,(Ah hF)⟩ (Zg.tup (.cons (lr _) (.cons (lb (Ag hF (by simp [*];try omega))) .nil))))
  refine ir 4 [(3,Z0 ts),(15,.p b4 0),(79,.i (Xt n.decls num)),(82,.b (decide ((Xt n.decls num)>=0)))] (ib (b:=(decide ((Xt n.decls num)>=0))) 82 (fun WX=>?_) (fun WX=>?_))
  ·have Tu:(Xt n.decls num)>=0:=(dq).1 WX
   refine Y2 3 (.n 83 (Z0 ts) (.n 85 (Z0 (ZC n.decls num)) (.k (.d (.d (.k .z)))))) [0] [b4] (ZA [] (CW ts (ZC n.decls num)) (Z1 1 87 (.b (decide (ts=(ZC n.decls num)))) ?_))
   exact YG (wk [0,0] (fr (Zu (decide (ts=(ZC n.decls num))) WX fl))) hj5
  have Tc:¬((Xt n.decls num)>=0):=ZI dq WX
  refine Z5 5 (.n 87 (.b false) (.d (.d (.d (.k .z))))) ?_
  exact YG (wk [0,0] (fr (Zu false WX fl))) hj5
 refine aq (ar (Z1 2 88 (.b (op==9)) (ie (XI (fun F h=>F=[(1,.i op),(2,.i num),(3,Z0 ts),(4,.p b1 0),(88,.b ((op==9)||(op==10)))]/\h=[.obj b1 [Zd n.decls,Xk n]]) ?_ ?_))))
 ·refine ac (op==9) Zh (fun UL=>?_) (fun UL=>?_)
  ·refine ak ?_
   exact ZW ⟨rfl,rfl⟩ (wk [0] (fq (fc (x:=.b (op==9)) (lb (by first|rfl|(rw [Zo UL])|(rw [Zc UL])|(simp [UL];done)|(rw [Xl];simp [UL];done)|omega)) fl)))
  refine az (ir 2 [(1,.i op),(2,.i num),(3,Z0 ts),(4,.p b1 0),(88,.b (op==10))] (ie ?_))
  exact ZW ⟨rfl,rfl⟩ (wk [0] (fq (fc (x:=.b (op==10)) (lb (by first|rfl|(rw [Zo UL])|(rw [Zc UL])|(simp [UL];done)|(rw [Xl];simp [UL];done)|omega)) fl)))
 rintro F h ⟨rfl,rfl⟩
 refine ac ((op==9)||(op==10)) (p:=(op=9)∨(op=10)) (Yo Zh Zh) (fun Kc=>?_) (fun Kc=>?_)
 ·refine aq (ar (Xo [(1,.i op),(2,.i num),(3,Z0 ts),(4,.p b1 0),(99,.b ((decide (num<0))||(decide (num>=(((n.routines.map XA).length:Nat):Int)))))] [.obj b1 [Zd n.decls,Xk n]] ?_ ?_))
  ·refine ir 3 [(1,.i op),(2,.i num),(3,Z0 ts),(4,.p b1 0),(93,.b (decide (num<0)))] (ib (b:=(decide (num<0))) 93 (fun WH=>?_) (fun WH=>?_))
   ·have QJ:num<0:=(dq).1 WH
    refine Z5 6 (.n 99 (.b true) (.d (.w .z))) (ie ?_)
    exact wk [0] (fq (Zu true WH fl))
   have QK:¬(num<0):=ZI dq WH
   refine Y2 3 (.n 94 (.i num) (.n 96 (Xk n) (.w (.k .z)))) [0] [b1] (io (.i (((n.routines.map XA).length:Nat):Int)) (.i (((UI (n.routines.map XA)).length:Nat):Int)) (li (by rw [Cf])) (Z1 2 99 (.b (decide (num>=(((n.routines.map XA).length:Nat):Int)))) (ie ?_)))
   exact wk [0] (fq (Zu (decide (num>=(((n.routines.map XA).length:Nat):Int))) WH fl))
  refine ac ((decide (num<0))||(decide (num>=(((n.routines.map XA).length:Nat):Int)))) (p:=(num<0)∨(num>=(((n.routines.map XA).length:Nat):Int))) (Yo dq dq) (fun Tb=>?_) (fun Tb=>?_)
  ·refine ar (ir 2 [(8,.i (-1)),(9,.b false)] (ie ?_))
   have hF:=Z66 (n:=n) (ts:=ts) Kc Tb
   exact Zb (r2 [] [.i (-1),.b false] ⟨(-1),rfl,rfl,(CV hF)⟩ (Zg.tup (.cons (lr _) (.cons (lb (CU hF)) .nil))))
  refine ak (aD 14 (W2 11 14 [0,1,2] [(1,.i op),(2,.i num),(3,Z0 ts),(4,.p b1 0),(101,Xk n),(102,.i num)] [0] [b1] ?_))
  obtain ⟨x3,YT⟩:=Zr (xs:=(n.routines.map XA)) (j:=num.toNat) om
  obtain ⟨r,hr,hrx⟩:=Ey YT
  have hrp:=hn.params_at hr
  have hpx:x3.pms=r.params:=by rw [hrx];rfl
  have hpl:x3.pms.length<=3:=by rw [hpx];exact hrp
  refine dx 3 (Zm none num 3 (Bt YT)) (Y6 5 10 [4,5,6,7,8] (.n 105 (Z0 x3.pms) (.n 107 (Xk n) (.n 108 (.i num) .r))) [0] [b1] (dx 9 (Zm none num 3 (Bt YT)) (Y0 0 4 [10,11,12,13] (.n 10 (Z0 x3.pms) (.n 11 (.i x3.res) .r)) (de (aq (ar (Z1 2 113 (.b (op==9)) (ie (ac (op==9) Zh (fun QI=>?_) (fun QI=>?_))))))))))
  ·refine ar (ir 3 [(114,.i x3.res),(115,Z0 ts),(116,Z0 x3.pms)] (ZA [] (CW ts x3.pms) (ir 2 [(8,.i x3.res),(9,.b (decide (ts=x3.pms)))] (ie ?_))))
   have hF:=sf9 (ts:=ts) QI Tb YT
   exact Zb (r2 [] [.i x3.res,.b (decide (ts=x3.pms))] ⟨x3.res,rfl,rfl,(Ah hF)⟩ (Zg.tup (.cons (lr _) (.cons (lb (Ag hF (by simp [*];try omega))) .nil))))
  refine ak (ar (Z1 1 118 (Z0 x3.pms) (iw (Yh x3.pms) (ia (((x3.pms.length:Int)-1)) (((x3.pms.length:Int))-(1)) (Z1 1 16 (.i ((x3.pms.length:Int)-1)) (ie (aq (ar (Z1 2 122 (.b (decide (((x3.pms.length:Int)-1)<0))) (ie (ZM (((x3.pms.length:Int)-1)<0) (fun AW=>?_) (fun AW=>?_))))))))))))
  ·refine ar (ir 2 [(8,.i (-1)),(9,.b false)] (ie ?_))
   have hF:=Z63 (ts:=ts) (Kc.resolve_left QI) Tb YT AW
   exact Zb (r2 [] [.i (-1),.b false] ⟨(-1),rfl,rfl,(CV hF)⟩ (Zg.tup (.cons (lr _) (.cons (lb (CU hF)) .nil))))
  refine ak (aD 9 (Y6 5 9 [0,1,2,3] (.n 124 (Zd n.decls) (.n 125 (Z0 x3.pms) (.n 126 (.i ((x3.pms.length:Int)-1)) .r))) [0] [b1] ?_))
  obtain ⟨x4,Uh⟩:=Zr (xs:=x3.pms) (j:=((x3.pms.length:Int)-1).toNat) om
  refine dx 4 (Zm none ((x3.pms.length:Int)-1) 1 (Y4 Uh)) (Y0 2 4 [5,6] (.n 128 (.i x4) (.n 129 (.i x3.res) .r)) (Z9 7 (Yv 7 [] [] [] (Z1e n.decls x4 x3.res) (ZZ 0 1 [8] 17 (.i (WV n.decls x4 x3.res)) (de (ar (XQ 10 [(131,.i (WV n.decls x4 x3.res)),(140,.b ((decide ((WV n.decls x4 x3.res)>=0))&&(decide (ts=(x3.pms.take (((x3.pms.length:Int)-1).toNat))))))] [.obj b1 [Zd n.decls,Xk n]] ?_ (fun hj6=>?_))))))))
  ·refine ir 2 [(8,.i (WV n.decls x4 x3.res)),(9,.b ((decide ((WV n.decls x4 x3.res)>=0))&&(decide (ts=(x3.pms.take (((x3.pms.length:Int)-1).toNat))))))] (ie ?_)
   have hF:=Z62 (ts:=ts) (Kc.resolve_left QI) Tb YT AW Uh
   exact Zb (r2 [] [.i (WV n.decls x4 x3.res),.b ((decide ((WV n.decls x4 x3.res)>=0))&&(decide (ts=(x3.pms.take (((x3.pms.length:Int)-1).toNat)))))] ⟨WV n.decls x4 x3.res,rfl,rfl,(Ah hF)⟩ (Zg.tup (.cons (lr _) (.cons (lb (Ag hF (by rw [Xl];simp))) .nil))))
  refine ir 4 [(3,Z0 ts),(10,Z0 x3.pms),(16,.i ((x3.pms.length:Int)-1)),(131,.i (WV n.decls x4 x3.res)),(134,.b (decide ((WV n.decls x4 x3.res)>=0)))] (ib (b:=(decide ((WV n.decls x4 x3.res)>=0))) 134 (fun WI=>?_) (fun WI=>?_))
  ·have Jm:(WV n.decls x4 x3.res)>=0:=(dq).1 WI
   refine Z5 3 (.n 135 (Z0 ts) (.n 136 (Z0 x3.pms) (.n 137 (.i ((x3.pms.length:Int)-1)) (.k (.d (.d (.d (.k .z)))))))) (Zq (Kl (es:=Z8 x3.pms) (hv:=none) (l:=0) (m:=((x3.pms.length:Int)-1)) (sz:=1) (es':=Z8 (x3.pms.take (((x3.pms.length:Int)-1).toNat))) kr om (by simp<;>omega) (by simp<;>omega) (YF _) (by first|(simp only [VR,Vp,KD,J9];done)|(simp only [VR,Vp,KD,J9];rfl)|(simp [KD,J9];done))) (ZA [] (CW ts (x3.pms.take (((x3.pms.length:Int)-1).toNat))) (Z1 1 140 (.b (decide (ts=(x3.pms.take (((x3.pms.length:Int)-1).toNat))))) ?_)))
   exact YG (wk [0] (fr (Zu (decide (ts=(x3.pms.take (((x3.pms.length:Int)-1).toNat)))) WI fl))) hj6
  have QL:¬((WV n.decls x4 x3.res)>=0):=ZI dq WI
  refine Z5 6 (.n 140 (.b false) (.d (.d (.d (.d (.k .z)))))) ?_
  exact YG (wk [0] (fr (Zu false WI fl))) hj6
 refine ar (ir 2 [(8,.i (-1)),(9,.b false)] (ie ?_))
 have hF:=sfd (n:=n) (num:=num) (ts:=ts) Ze Xi Xj Vx VH Kc
 exact Zb (r2 [] [.i (-1),.b false] ⟨(-1),rfl,rfl,(CV hF)⟩ (Zg.tup (.cons (lr _) (.cons (lb (CU hF)) .nil))))
theorem LA (n:Zx) (us:List Int) (ks:List Z6) (ms:List (List Int)) (hn:Xd n:=by exact ob) (hnn:∀t∈us,0<=t) (hk:0<ks.length:=by exact ob) (hl:ks.length=ms.length:=by exact ob) (hb:us.length+3+4*YR ks<=1000000000:=by exact ob) (hr:TW ks:=by exact ob) (hm3:∀m∈ms,m.length<=3) (hmn:∀m∈ms,∀f∈m,0<=f) (ih:∀(b:Z6) (us:List Int),(b.sz<=YR ks)->(us.length+4*b.sz<=1000000000)->(b.rng)->(∀t∈us,0<=t)->Zi Tryz.prog 56 [.agg [Zd n.decls,Xk n],Z0 us,Zs b] [] (fun r h=>r=.i (YV n us b)/\h=[])):Zi Tryz.prog 130 [.agg [Zd n.decls,Xk n],Z0 us,Yu ks,WD ms] [] (fun r h=>r=.tup [.i (Wi n us ks ms true 0),.b (decide (0<=Wi n us ks ms true 0))]/\h=[]):=by
 have hkl:=I8 ks
 refine ZK 45 Tryz.func130 (ar (iA [Zd n.decls,Xk n] ?_))
 intro b1
 refine ir 2 [(1,Z0 us),(2,Yu ks),(3,WD ms),(4,.p b1 0)] (ie (ar (Z1 1 10 (.i (-1)) (ie (aq (ar (Z1 1 14 (Yu ks) (iw (VG ks) (Z1 1 16 (.i 0) (ie (ab 0 (al (fun m F h=>∃(k:Nat) (t:Int),(k<=ks.length)/\(0<k->0<=t)/\(Wi n us (ks.drop k) (ms.drop k) (decide (k=0)) t=Wi n us ks ms true 0)/\F=[(1,Z0 us),(3,WD ms),(4,.p b1 0),(10,.i t),(14,Yu ks),(15,.i ks.length),(16,.i k)]/\h=[.obj b1 [Zd n.decls,Xk n]]/\m=ks.length-k) _ _ _ ⟨0,(-1),ob,ob,(Z2q hk (-1)),rfl,rfl,rfl⟩ (wk [0] (fq (fw (Ya fl)))) ?_))))))))))))
 rintro m F h ⟨k,t,Yj,Zp,Zy,rfl,rfl,rfl⟩
 refine ar (Z1 1 17 (.b (decide ((k:Int)<(ks.length:Int)))) (ie (aq (ZM ((k:Int)<(ks.length:Int)) (fun Ze=>?_) (fun Ze=>?_)))))
 ·refine ak (aq (ab 1 (ar (Z1 1 18 (.i k) ?_))))
  obtain ⟨x1,Z3⟩:=Zr (xs:=ks) (j:=k) om
  have ZE:=I9 Z3
  have hbr:=I6 hr Z3
  refine Zq (Zm none (k:Int) 2 (U5 Z3)) (Z1 1 20 (Zs x1) (iA [nl,.i 0] ?_))
  intro b2
  refine Z1 1 11 (.i k) (ZF 0 b2 (Yk x1) (ie (aD 11 (Y6 7 11 [0,1,2,3] (.n 21 (.agg [Zd n.decls,Xk n]) (.n 22 (Z0 us) (.n 23 (WD ms) (.n 24 (.i k) .r)))) [1] [b1] ?_))))
  obtain ⟨x2,Zt⟩:=Zr (xs:=ms) (j:=k) om
  have hxl:=hm3 x2 (Y7 Zt)
  have hxn:=hmn x2 (Y7 Zt)
  refine dx 4 (Zm none (k:Int) 1 (Dv Zt)) (Y6 4 6 [5,8] (.n 26 (Z0 x2) (.n 29 (Zs x1) .r)) [0] [b2] (Z9 6 (dL 6 [0,1] [b2,b1] (W7 [us,x2]) 2 1 ?_)))
  intro v1
  refine Y0 3 3 [] (.n 27 (WD [us,x2]) (.p .r)) (Z9 7 (dc 7 [] [0,1] [b2,b1] (Z6a [us,x2] (hf:=(by simp only [D0,Yz];omega))) ?_))
  rintro _ _ ⟨v2,rfl,rfl⟩
  refine Y0 2 2 [] (.n 28 (Z0 ([us,x2].flatten)) (.p .r)) (Z9 9 (Yv 9 [] [] [] (ih x1 ([us,x2].flatten) ob (by simp only [D0,Yz];omega) ob (by rw [D0];exact Ma hnn hxn)) (ZZ 0 1 [10] 13 (.i (YV n ([us,x2].flatten) x1)) (de (aq (ar (Xo [(1,Z0 us),(3,WD ms),(4,.p b1 0),(13,.i (YV n ([us,x2].flatten) x1)),(14,Yu ks),(15,.i ks.length),(16,.i k),(41,.b ((decide ((YV n ([us,x2].flatten) x1)<0))||((decide ((k:Int)>0))&&((YV n ([us,x2].flatten) x1) != t))))] [.tail v2 1,.tail v1 1,.obj b2 (Yk x1),.obj b1 [Zd n.decls,Xk n]] ?_ ?_)))))))
  ·refine ir 3 [(1,Z0 us),(3,WD ms),(4,.p b1 0),(10,.i t),(11,.i k),(13,.i (YV n ([us,x2].flatten) x1)),(14,Yu ks),(15,.i ks.length),(16,.i k),(33,.b (decide ((YV n ([us,x2].flatten) x1)<0)))] (ib (b:=(decide ((YV n ([us,x2].flatten) x1)<0))) 33 (fun Za=>?_) (fun Za=>?_))
   ·have ZP:(YV n ([us,x2].flatten) x1)<0:=(dq).1 Za
    refine Z5 8 (.n 41 (.b true) (.d (.k (.k (.k (.d (.d (.w .z)))))))) (ie ?_)
    exact ZT 4 (fq (fw (fr (Zu true Za fl))))
   have Y1:¬((YV n ([us,x2].flatten) x1)<0):=ZI dq Za
   refine Z5 3 (.n 36 (.b (decide ((k:Int)>0))) (.w (.k (.d (.w .z))))) (ib (b:=(decide ((k:Int)>0))) 36 (fun Zz=>?_) (fun Zz=>?_))
   ·have Yy:(k:Int)>0:=(dq).1 Zz
    refine Z5 5 (.n 41 (.b ((YV n ([us,x2].flatten) x1) != t)) (.k (.d .r))) (ie ?_)
    exact ZT 4 (fq (fw (fr (Zu ((YV n ([us,x2].flatten) x1) != t) (And.intro Za Zz) fl))))
   have YK:¬((k:Int)>0):=ZI dq Zz
   refine Z5 5 (.n 41 (.b false) (.k (.d .r))) (ie ?_)
   exact ZT 4 (fq (fw (fr (Zu false (And.intro Za Zz) fl))))
  refine ac ((decide ((YV n ([us,x2].flatten) x1)<0))||((decide ((k:Int)>0))&&((YV n ([us,x2].flatten) x1) != t))) (p:=((YV n ([us,x2].flatten) x1)<0)∨(((k:Int)>0)/\((YV n ([us,x2].flatten) x1)≠t))) (Yo dq (YD dq Yi)) (fun Zk=>?_) (fun Zk=>?_)
  ·refine ar (ir 2 [(8,.i (-1)),(9,.b false)] (ie ?_))
   have hK:Wi n us ks ms true 0=-1:=by rw [<-Zy];rw [D0] at Zk;exact LS Z3 Zt Zk
   exact Zb (r2 [] [.i (-1),.b false] ⟨rfl,rfl⟩ (Zg.tup (.cons (li (by rw [hK])) (.cons (lb (by rw [hK];rfl)) .nil))))
  refine ak (az (ir 2 [(1,Z0 us),(3,WD ms),(4,.p b1 0),(10,.i (YV n ([us,x2].flatten) x1)),(14,Yu ks),(15,.i ks.length),(16,.i k)] (ie (az (ZL k (Z5 1 (.n 16 (.i (k+1:Nat)) (.p (.w (.k (.k .z))))) (ie ?_)))))))
  exact ZO ⟨k+1,YV n ([us,x2].flatten) x1,ob,(by intro _;omega),(by rw [D0] at Zk ⊢;rw [<-Zy];exact (LU Z3 Zt Zk).symm),rfl,rfl,rfl⟩ (wk [3] (fq (fw (ZQ k fl))))
 refine ax 0 (ar (ir 3 [(8,.i t),(9,.b true)] (ie ?_)))
 have hK:Wi n us ks ms true 0=t:=by rw [<-Zy];exact LT om
 exact Zb (r2 [] [.i t,.b true] ⟨rfl,rfl⟩ (Zg.tup (.cons (li (by rw [hK])) (.cons (lb (by rw [hK];exact (decide_eq_true (Zp om)).symm)) .nil))))
theorem Z1s (n:Zx) (us:List Int) (s:Z4) (hn:Xd n) (hty:Bg n) (hnn:∀t∈us,0<=t) (hb:us.length+4*s.sz<=1000000000) (hr:s.rng) (ih:∀(b:Z6) (us:List Int),(b.sz<s.sz)->(us.length+4*b.sz<=1000000000)->(b.rng)->(∀t∈us,0<=t)->Zi Tryz.prog 56 [.agg [Zd n.decls,Xk n],Z0 us,Zs b] [] (fun r h=>r=.i (YV n us b)/\h=[])):Zi Tryz.prog 93 [.agg [Zd n.decls,Xk n],Z0 us,Y3 s] [] (fun r h=>∃(t:Int),r=.tup [.i t,.b (decide (0<=ZV n us s))]/\h=[]/\(¬Yf s.op=true->0<=ZV n us s->t=ZV n us s)):=by
 have Xu:=hn.decls
 have hkz:=Uz s
 have haz:=Qg s
 have hse:=s.sz_eq
 rw [s.rng_eq] at hr
 obtain ⟨hnum,hkr⟩:=hr
 refine ZK 233 Tryz.func93 (ar (iA [Zd n.decls,Xk n] ?_))
 intro b1
 refine iA (Yg s) ?_
 intro b2
 refine ir 2 [(1,Z0 us),(3,.p b1 0),(5,.p b2 0)] (ie (ar (Yl 2 16 (Z0 s.args) [0] [b2] (iw (Yh s.args) (iM 0 s.args.length ?_)))))
 intro v1
 refine Z1 1 8 (Z7 [] v1) (ie (aq (ar (Yl 2 20 (Z0 s.args) [1] [b2] (iw (Yh s.args) (Z1 1 22 (.i 0) (ie (ab 0 (al (fun m F h=>∃(k:Nat) (ts:List Int) (v:Value),(k<=s.args.length)/\(ts.length=k)/\(W0 us (s.args.take k)=some ts)/\F=[(1,Z0 us),(3,.p b1 0),(5,.p b2 0),(8,Z7 ts v),(20,Z0 s.args),(21,.i s.args.length),(22,.i k)]/\h=[.obj b2 (Yg s),.obj b1 [Zd n.decls,Xk n],.tail v 1]/\m=s.args.length-k) _ _ _ ⟨0,[],v1,ob,ob,ob,rfl,rfl,rfl⟩ (wk [1,1,0] (fq (fw (Ya fl)))) ?_)))))))))
 rintro m F h ⟨k,ts,v,Yj,Zp,Zy,rfl,rfl,rfl⟩
 refine ar (Z1 1 23 (.b (decide ((k:Int)<(s.args.length:Int)))) (ie (aq (ZM ((k:Int)<(s.args.length:Int)) (fun Ze=>?_) (fun Ze=>?_)))))
 ·refine ak (aq (ab 1 (ar ?_)))
  obtain ⟨x1,Z3⟩:=Zr (xs:=s.args) (j:=k) om
  refine Zq (Zm none (k:Int) 1 (Y4 Z3)) (Z1 2 10 (.i x1) (ie (aq (ar (Xo [(1,Z0 us),(3,.p b1 0),(5,.p b2 0),(8,Z7 ts v),(10,.i x1),(20,Z0 s.args),(21,.i s.args.length),(22,.i k),(33,.b ((decide (x1<0))||(decide (x1>=(us.length:Int)))))] [.obj b2 (Yg s),.obj b1 [Zd n.decls,Xk n],.tail v 1] ?_ ?_)))))
  ·refine ir 3 [(1,Z0 us),(3,.p b1 0),(5,.p b2 0),(8,Z7 ts v),(10,.i x1),(20,Z0 s.args),(21,.i s.args.length),(22,.i k),(28,.b (decide (x1<0)))] (ib (b:=(decide (x1<0))) 28 (fun Za=>?_) (fun Za=>?_))
   ·have ZP:x1<0:=(dq).1 Za
    refine Z5 5 (.n 33 (.b true) (.d (.w (.w .z)))) (ie ?_)
    exact ZT 3 (fq (fq (Zu true Za fl)))
   have Y1:¬(x1<0):=ZI dq Za
   refine Z5 2 (.n 29 (.i x1) (.n 30 (Z0 us) (.w (.w (.k .z))))) (iw (Yh us) (Z1 2 33 (.b (decide (x1>=(us.length:Int)))) (ie ?_)))
   exact ZT 3 (fq (fq (Zu (decide (x1>=(us.length:Int))) Za fl)))
  refine ac ((decide (x1<0))||(decide (x1>=(us.length:Int)))) (p:=(x1<0)∨(x1>=(us.length:Int))) (Yo dq dq) (fun Zk=>?_) (fun Zk=>?_)
  ·refine ar (ir 2 [(6,.i (-1)),(7,.b false)] (ie ?_))
   have hS:ZV n us s=-1:=Z88 (HQ Z3 (Qi om))
   exact Zb (r2 [] [.i (-1),.b false] ⟨(-1),rfl,rfl,(by intro _ h;rw [hS] at h;omega)⟩ (Zg.tup (.cons (lr _) (.cons (lb (by rw [hS];rfl)) .nil))))
  refine ak (az (ir 3 [(1,Z0 us),(3,.p b1 0),(5,.p b2 0),(20,Z0 s.args),(21,.i s.args.length),(22,.i k),(34,Z7 ts v),(35,Z0 us),(36,.i x1)] ?_))
  obtain ⟨x2,Zt⟩:=Zr (xs:=us) (j:=x1.toNat) om
  refine Zq (Zm none x1 1 (Y4 Zt)) (Z1 1 38 (.i x2) (iL (Z8 [x2]) 1 1 ?_))
  intro v2
  refine Z5 0 (.n 39 (Z0 [x2]) (.p .r)) (ip 3 (Z8 (ts++[x2])) (Z8 ts) (Z8 [x2]) v none 1 (YF _) (YF _) (XX _) (by simp<;>omega) (by simp [XW,Z8]) ?_)
  intro v3
  refine Z1 1 8 (Z7 (ts++[x2]) v3) (ie (az (ZL k (Z5 1 (.n 22 (.i (k+1:Nat)) (.p (.k (.p (.d (.d (.p (.w (.k .z))))))))) (ie ?_)))))
  exact ZO ⟨k+1,(ts++[x2]),v3,ob,ob,(OW Zy Z3 (by rw [TF om Zt])),rfl,rfl,rfl⟩ (wk [2,2,0] (fq (fw (ZQ k fl))))
 refine ax 0 (aq (ar (Xo [(1,Z0 us),(3,.p b1 0),(5,.p b2 0),(8,Z7 ts v),(70,.b ((s.into != 0)&&((s.op != 6)||((decide (s.into<1))||((decide (s.into>(us.length:Int)))||((gI us (s.into-1))==0))))))] [.obj b2 (Yg s),.obj b1 [Zd n.decls,Xk n],.tail v 1] ?_ ?_)))
 ·refine iR 4 [(1,Z0 us),(3,.p b1 0),(5,.p b2 0),(8,Z7 ts v),(45,.b (s.into != 0))] [0] [b2] (ib (b:=(s.into != 0)) 45 (fun Zz=>?_) (fun Zz=>?_))
  ·have Yy:s.into≠0:=(Yi).1 Zz
   refine Y2 4 (.n 49 (.b (s.op != 6)) (.w (.k .z))) [0] [b2] (ib (b:=(s.op != 6)) 49 (fun YE=>?_) (fun YE=>?_))
   ·have YK:s.op≠6:=(Yi).1 YE
    refine Z5 21 (.n 70 (.b true) (.k (.d .r))) (ie ?_)
    exact ZT 3 (fq (Zu true (And.intro Zz YE) fl))
   have X0:¬(s.op≠6):=ZI Yi YE
   refine Y2 5 (.n 54 (.b (decide (s.into<1))) (.d (.d .r))) [0] [b2] (ib (b:=(decide (s.into<1))) 54 (fun Xf=>?_) (fun Xf=>?_))
   ·have XB:s.into<1:=(dq).1 Xf
    refine Z5 16 (.n 70 (.b true) (.k (.d .r))) (ie ?_)
    exact ZT 3 (fq (Zu true (And.intro Zz (And.intro YE Xf)) fl))
   have Wk:¬(s.into<1):=ZI dq Xf
   refine Y2 3 (.n 56 (.i s.into) (.n 57 (Z0 us) (.k (.d .r)))) [0] [b2] (iw (Yh us) (Z1 3 61 (.b (decide (s.into>(us.length:Int)))) (ib (b:=(decide (s.into>(us.length:Int)))) 61 (fun Wb=>?_) (fun Wb=>?_))))
   ·have WJ:s.into>(us.length:Int):=(dq).1 Wb
    refine Z5 9 (.n 70 (.b true) (.k (.d .r))) (ie ?_)
    exact ZT 3 (fq (Zu true (And.intro Zz (And.intro YE (And.intro Xf Wb))) fl))
   have V4:¬(s.into>(us.length:Int)):=ZI dq Wb
   refine Y2 3 (.n 62 (Z0 us) (.n 64 (.i s.into) (.k (.d .r)))) [0] [b2] (ia ((s.into-1)) ((s.into)-(1)) (Zq (Ak (es:=Z8 us) (hv:=none) (j:=(s.into-1)) (sz:=1) (y:=.i (gI us (s.into-1))) kr om (Y4 (IY om)) rfl) (Z1 4 70 (.b ((gI us (s.into-1))==0)) (ie ?_))))
   exact ZT 3 (fq (Zu ((gI us (s.into-1))==0) (And.intro Zz (And.intro YE (And.intro Xf Wb))) fl))
  have Ug:¬(s.into≠0):=ZI Yi Zz
  refine Z5 25 (.n 70 (.b false) (.d (.w .z))) (ie ?_)
  exact ZT 3 (fq (Zu false Zz fl))
 refine ac ((s.into != 0)&&((s.op != 6)||((decide (s.into<1))||((decide (s.into>(us.length:Int)))||((gI us (s.into-1))==0))))) (p:=(s.into≠0)/\((s.op≠6)∨((s.into<1)∨((s.into>(us.length:Int))∨((gI us (s.into-1))=0))))) (YD Yi (Yo Yi (Yo dq (Yo dq Zh)))) (fun ZG=>?_) (fun ZG=>?_)
 ·refine ar (ir 2 [(6,.i (-1)),(7,.b false)] (ie ?_))
  have hS:ZV n us s=-1:=Z89 (Jn.1 ZG)
  exact Zb (r2 [] [.i (-1),.b false] ⟨(-1),rfl,rfl,(by intro _ h;rw [hS] at h;omega)⟩ (Zg.tup (.cons (lr _) (.cons (lb (by rw [hS];rfl)) .nil))))
 refine ak (aq (ab 2 (ar (iR 2 [(1,Z0 us),(3,.p b1 0),(5,.p b2 0),(8,Z7 ts v),(73,.i s.op)] [0] [b2] (ZA [] (DW s.op) (Z1 1 71 (.b (Yf s.op)) (ie (ac (Yf s.op) Iff.rfl (fun Ym=>?_) (fun Ym=>?_)))))))))
 ·refine ar (Z1 1 75 (Z7 ts v) (iw (Yh ts) (XQ 9 [(3,.p b1 0),(5,.p b2 0),(8,Z7 ts v),(83,.b (((ts.length:Int)==1)&&((gI ts 0) != 0)))] [.obj b2 (Yg s),.obj b1 [Zd n.decls,Xk n],.tail v 1] ?_ (fun hj1=>?_))))
  ·refine XQ 14 [(3,.p b1 0),(5,.p b2 0),(8,Z7 ts v),(88,.b ((((ts.length:Int)==1)&&((gI ts 0) != 0))&&(s.num==0)))] [.obj b2 (Yg s),.obj b1 [Zd n.decls,Xk n],.tail v 1] ?_ (fun hj2=>?_)
   ·refine XQ 20 [(3,.p b1 0),(5,.p b2 0),(8,Z7 ts v),(94,.b (((((ts.length:Int)==1)&&((gI ts 0) != 0))&&(s.num==0))&&((s.kids.length:Int)==0)))] [.obj b2 (Yg s),.obj b1 [Zd n.decls,Xk n],.tail v 1] ?_ (fun hj3=>?_)
    ·refine ir 1 [(3,.p b1 0),(5,.p b2 0),(8,Z7 ts v),(11,.b (((((ts.length:Int)==1)&&((gI ts 0) != 0))&&(s.num==0))&&((s.kids.length:Int)==0)))] (ie (aq (ar (Xo [(3,.p b1 0),(8,Z7 ts v),(11,.b (((((ts.length:Int)==1)&&((gI ts 0) != 0))&&(s.num==0))&&((s.kids.length:Int)==0))),(105,.b ((((((ts.length:Int)==1)&&((gI ts 0) != 0))&&(s.num==0))&&((s.kids.length:Int)==0))&&((s.op==16)||(s.op==17))))] [.obj b2 (Yg s),.obj b1 [Zd n.decls,Xk n],.tail v 1] ?_ ?_))))
     ·refine ir 2 [(3,.p b1 0),(5,.p b2 0),(8,Z7 ts v),(11,.b (((((ts.length:Int)==1)&&((gI ts 0) != 0))&&(s.num==0))&&((s.kids.length:Int)==0))),(96,.b (((((ts.length:Int)==1)&&((gI ts 0) != 0))&&(s.num==0))&&((s.kids.length:Int)==0)))] (ib (b:=(((((ts.length:Int)==1)&&((gI ts 0) != 0))&&(s.num==0))&&((s.kids.length:Int)==0))) 96 (fun WC=>?_) (fun WC=>?_))
      ·have UM:((((ts.length:Int)=1)/\((gI ts 0)≠0))/\(s.num=0))/\((s.kids.length:Int)=0):=((YD (YD (YD Zh Yi) Zh) Zh)).1 WC
       refine Y2 4 (.n 100 (.b (s.op==16)) (.w (.k .z))) [0] [b2] (ib (b:=(s.op==16)) 100 (fun WX=>?_) (fun WX=>?_))
       ·have Uw:s.op=16:=(Zh).1 WX
        refine Z5 5 (.n 105 (.b true) (.k (.d .r))) (ie ?_)
        exact ZT 3 (fw (fr (Zu true (And.intro WC WX) fl)))
       have Tu:¬(s.op=16):=ZI Zh WX
       refine Y2 5 (.n 105 (.b (s.op==17)) (.k (.d .r))) [0] [b2] (ie ?_)
       exact ZT 3 (fw (fr (Zu (s.op==17) (And.intro WC WX) fl)))
      have Tc:¬(((((ts.length:Int)=1)/\((gI ts 0)≠0))/\(s.num=0))/\((s.kids.length:Int)=0)):=ZI (YD (YD (YD Zh Yi) Zh) Zh) WC
      refine Z5 9 (.n 105 (.b false) (.d (.k (.d (.k (.k .z)))))) (ie ?_)
      exact ZT 3 (fw (fr (Zu false WC fl)))
     refine ac ((((((ts.length:Int)==1)&&((gI ts 0) != 0))&&(s.num==0))&&((s.kids.length:Int)==0))&&((s.op==16)||(s.op==17))) (p:=(((((ts.length:Int)=1)/\((gI ts 0)≠0))/\(s.num=0))/\((s.kids.length:Int)=0))/\((s.op=16)∨(s.op=17))) (YD (YD (YD (YD Zh Yi) Zh) Zh) (Yo Zh Zh)) (fun Xi=>?_) (fun Xi=>?_)
     ·refine aD 12 (W2 9 12 [0,1,2] [(108,Zd n.decls),(109,Z7 ts v)] [1] [b1] (dx 3 (Ak (es:=Z8 ts) (hv:=some v) (j:=0) (sz:=1) (y:=.i (gI ts 0)) kr om (Y4 (DI om)) rfl) (ZZ 7 8 [4] 111 (.i (gI ts 0)) (dK (fun F h=>F=[(13,.b (X5 n.decls (gI ts 0)))]/\h=[.obj b2 (Yg s),.obj b1 [Zd n.decls,Xk n],.tail v 1]) ?_ ?_))))
      ·refine Vj 5 9 ?_ ?_
       ·refine Yv 5 [] [] [] (DV n.decls (gI ts 0)) (Xa 3 6 [6,7,8] [(113,Uo (Ws n.decls (gI ts 0))),(114,.b (X5 n.decls (gI ts 0)))] (Z9 9 (dA 9 [] [] [.i 0,.i 0,nl] ?_)))
        intro b3
        refine Z9 10 (YL 10 0 [] [] b3 (Wt (Ws n.decls (gI ts 0))) (Xa 0 1 [11] [(13,.b (X5 n.decls (gI ts 0)))] (de ?_)))
        exact ZW ⟨rfl,rfl⟩ (wk [1,1,1] fl)
       refine dA 9 [1] [b1] [.i 0,.i 0,nl] ?_
       intro b4
       refine Z9 5 (Yv 5 [] [] [] (DV n.decls (gI ts 0)) (Xa 2 5 [6,7,8] [(12,.p b4 0),(113,Uo (Ws n.decls (gI ts 0))),(114,.b (X5 n.decls (gI ts 0)))] (Z9 10 (YL 10 0 [] [] b4 (Wt (Ws n.decls (gI ts 0))) (Xa 0 1 [11] [(13,.b (X5 n.decls (gI ts 0)))] (de ?_))))))
       exact ZW ⟨rfl,rfl⟩ (wk [1,1,1] fl)
      rintro F h ⟨rfl,rfl⟩
      refine az (ir 3 [(11,.b (!X5 n.decls (gI ts 0)))] (ie (ar (ir 3 [(6,.i (-1)),(7,.b (!X5 n.decls (gI ts 0)))] (ie ?_)))))
      have hS0:=Am (n:=n) hnn (JN Zy om) (fun q=>ZG (Jn.2 q))
      exact Zb (r2 [] [.i (-1),.b (!X5 n.decls (gI ts 0))] ⟨(-1),rfl,rfl,(fun q=>absurd Ym q)⟩ (Zg.tup (.cons (lr _) (.cons (lb (Z7q hS0 Ym Xi)) .nil))))
     refine ak (ar (ir 3 [(6,.i (-1)),(7,.b (((((ts.length:Int)==1)&&((gI ts 0) != 0))&&(s.num==0))&&((s.kids.length:Int)==0)))] (ie ?_)))
     have hS0:=Am (n:=n) hnn (JN Zy om) (fun q=>ZG (Jn.2 q))
     exact Zb (r2 [] [.i (-1),.b (((((ts.length:Int)==1)&&((gI ts 0) != 0))&&(s.num==0))&&((s.kids.length:Int)==0))] ⟨(-1),rfl,rfl,(fun q=>absurd Ym q)⟩ (Zg.tup (.cons (lr _) (.cons (lb (Z7r hS0 Ym Xi)) .nil))))
    refine ir 1 [(3,.p b1 0),(5,.p b2 0),(8,Z7 ts v),(89,.b ((((ts.length:Int)==1)&&((gI ts 0) != 0))&&(s.num==0)))] (ib (b:=((((ts.length:Int)==1)&&((gI ts 0) != 0))&&(s.num==0))) 89 (fun WH=>?_) (fun WH=>?_))
    ·have QJ:(((ts.length:Int)=1)/\((gI ts 0)≠0))/\(s.num=0):=((YD (YD Zh Yi) Zh)).1 WH
     refine Y2 2 (.n 91 (Yu s.kids) (.w .z)) [0] [b2] (iw (VG s.kids) (Z1 2 94 (.b ((s.kids.length:Int)==0)) ?_))
     exact YG (ZT 3 (fw (fr (Zu ((s.kids.length:Int)==0) WH fl)))) hj3
    have QK:¬((((ts.length:Int)=1)/\((gI ts 0)≠0))/\(s.num=0)):=ZI (YD (YD Zh Yi) Zh) WH
    refine Z5 5 (.n 94 (.b false) (.d (.k (.k (.k .z))))) ?_
    exact YG (ZT 3 (fw (fr (Zu false WH fl)))) hj3
   refine ir 1 [(3,.p b1 0),(5,.p b2 0),(8,Z7 ts v),(84,.b (((ts.length:Int)==1)&&((gI ts 0) != 0)))] (ib (b:=(((ts.length:Int)==1)&&((gI ts 0) != 0))) 84 (fun WI=>?_) (fun WI=>?_))
   ·have Jm:((ts.length:Int)=1)/\((gI ts 0)≠0):=((YD Zh Yi)).1 WI
    refine Y2 4 (.n 88 (.b (s.num==0)) (.d (.k (.k (.k .z))))) [0] [b2] ?_
    exact YG (ZT 3 (fw (fr (Zu (s.num==0) WI fl)))) hj2
   have QL:¬(((ts.length:Int)=1)/\((gI ts 0)≠0)):=ZI (YD Zh Yi) WI
   refine Z5 4 (.n 88 (.b false) (.d (.k (.k (.k .z))))) ?_
   exact YG (ZT 3 (fw (fr (Zu false WI fl)))) hj2
  refine ir 2 [(3,.p b1 0),(5,.p b2 0),(8,Z7 ts v),(78,.b ((ts.length:Int)==1))] (ib (b:=((ts.length:Int)==1)) 78 (fun TH=>?_) (fun TH=>?_))
  ·have Ls:(ts.length:Int)=1:=(Zh).1 TH
   refine Z5 1 (.n 79 (Z7 ts v) (.w .z)) (Zq (Ak (es:=Z8 ts) (hv:=some v) (j:=0) (sz:=1) (y:=.i (gI ts 0)) kr om (Y4 (DI om)) rfl) (Z1 3 83 (.b ((gI ts 0) != 0)) ?_))
   exact YG (ZT 3 (fw (fr (Zu ((gI ts 0) != 0) TH fl)))) hj1
  have Lu:¬((ts.length:Int)=1):=ZI Zh TH
  refine Z5 5 (.n 83 (.b false) (.d (.k (.k (.k .z))))) ?_
  exact YG (ZT 3 (fw (fr (Zu false TH fl)))) hj1
 refine ar (Yl 4 118 (.b (s.op==7)) [0] [b2] (ie (ac (s.op==7) Zh (fun Xj=>?_) (fun Xj=>?_))))
 ·refine aq (ar (Z1 1 122 (Z7 ts v) (iw (Yh ts) (XQ 9 [(1,Z0 us),(3,.p b1 0),(5,.p b2 0),(130,.b (((ts.length:Int) != 1)||((gI ts 0) != 0)))] [.obj b2 (Yg s),.obj b1 [Zd n.decls,Xk n],.tail v 1] ?_ (fun hj4=>?_)))))
  ·refine XQ 14 [(1,Z0 us),(3,.p b1 0),(5,.p b2 0),(135,.b ((((ts.length:Int) != 1)||((gI ts 0) != 0))||(s.num != 0)))] [.obj b2 (Yg s),.obj b1 [Zd n.decls,Xk n],.tail v 1] ?_ (fun hj5=>?_)
   ·refine Xo [(1,Z0 us),(3,.p b1 0),(5,.p b2 0),(141,.b (((((ts.length:Int) != 1)||((gI ts 0) != 0))||(s.num != 0))||((s.kids.length:Int) != 2)))] [.obj b2 (Yg s),.obj b1 [Zd n.decls,Xk n],.tail v 1] ?_ ?_
    ·refine ir 1 [(1,Z0 us),(3,.p b1 0),(5,.p b2 0),(136,.b ((((ts.length:Int) != 1)||((gI ts 0) != 0))||(s.num != 0)))] (ib (b:=((((ts.length:Int) != 1)||((gI ts 0) != 0))||(s.num != 0))) 136 (fun Jj=>?_) (fun Jj=>?_))
     ·have Gj:(((ts.length:Int)≠1)∨((gI ts 0)≠0))∨(s.num≠0):=((Yo (Yo Yi Yi) Yi)).1 Jj
      refine Z5 5 (.n 141 (.b true) (.d (.k (.k (.k .z))))) (ie ?_)
      exact ZT 3 (fw (fr (Zu true Jj fl)))
     have Z0n:¬((((ts.length:Int)≠1)∨((gI ts 0)≠0))∨(s.num≠0)):=ZI (Yo (Yo Yi Yi) Yi) Jj
     refine Y2 2 (.n 138 (Yu s.kids) (.w .z)) [0] [b2] (iw (VG s.kids) (Z1 2 141 (.b ((s.kids.length:Int) != 2)) (ie ?_)))
     exact ZT 3 (fw (fr (Zu ((s.kids.length:Int) != 2) Jj fl)))
    refine ac (((((ts.length:Int) != 1)||((gI ts 0) != 0))||(s.num != 0))||((s.kids.length:Int) != 2)) (p:=((((ts.length:Int)≠1)∨((gI ts 0)≠0))∨(s.num≠0))∨((s.kids.length:Int)≠2)) (Yo (Yo (Yo Yi Yi) Yi) Yi) (fun Vx=>?_) (fun Vx=>?_)
    ·refine ar (ir 2 [(6,.i (-1)),(7,.b false)] (ie ?_))
     have hS0:=Am (n:=n) hnn (JN Zy om) (fun q=>ZG (Jn.2 q))
     have hS:=Z7m hS0 Ym Xj Vx
     exact Zb (r2 [] [.i (-1),.b false] ⟨(-1),rfl,rfl,(by intro _ h;rw [hS] at h;omega)⟩ (Zg.tup (.cons (lr _) (.cons (lb (by rw [hS];rfl)) .nil))))
    refine ak (aD 10 (W2 6 10 [0,1,2,3] [(142,.agg [Zd n.decls,Xk n]),(143,Z0 us),(145,Yu s.kids)] [1,0] [b1,b2] (Z9 4 (PZ 4 [0,1] [b2,b1] 2 2 ?_))))
    intro v4
    refine Y0 5 5 [] (.n 146 (WD (List.replicate 2 [])) (.p .r)) (Z9 5 (Yv 5 [] [] [] (LA n us s.kids (List.replicate 2 []) (hnn:=hnn) (hm3:=(by intro m hm;first|(rw [ET hm];simp;done)|(obtain ⟨c,_,rfl⟩:=W6.1 hm;exact VK Xu c))) (hmn:=(by intro m hm f hf;first|(rw [ET hm] at hf;simp at hf;done)|(obtain ⟨c,_,rfl⟩:=W6.1 hm;exact hty.fields c f hf))) (ih:=(fun b us2 h1 h2 h3 h4=>ih b us2 om h2 h3 h4))) (Xa 0 4 [6,7,8,9] [(6,.i (Wi n us s.kids (List.replicate 2 []) true 0)),(7,.b (decide (0<=Wi n us s.kids (List.replicate 2 []) true 0)))] (de ?_))))
    have hS0:=Am (n:=n) hnn (JN Zy om) (fun q=>ZG (Jn.2 q))
    have hS:=Z7n hS0 Ym Xj Vx
    exact Zb (r2 [] [.i (Wi n us s.kids (List.replicate 2 []) true 0),.b (decide (0<=Wi n us s.kids (List.replicate 2 []) true 0))] ⟨Wi n us s.kids (List.replicate 2 []) true 0,rfl,rfl,(fun _ _=>hS.symm)⟩ (Zg.tup (.cons (lr _) (.cons (lb (by rw [hS])) .nil))))
   refine ir 1 [(1,Z0 us),(3,.p b1 0),(5,.p b2 0),(131,.b (((ts.length:Int) != 1)||((gI ts 0) != 0)))] (ib (b:=(((ts.length:Int) != 1)||((gI ts 0) != 0))) 131 (fun Jk=>?_) (fun Jk=>?_))
   ·have Z0o:((ts.length:Int)≠1)∨((gI ts 0)≠0):=((Yo Yi Yi)).1 Jk
    refine Z5 4 (.n 135 (.b true) (.d (.k (.k (.k .z))))) ?_
    exact YG (ZT 3 (fw (fr (Zu true Jk fl)))) hj5
   have Z0p:¬(((ts.length:Int)≠1)∨((gI ts 0)≠0)):=ZI (Yo Yi Yi) Jk
   refine Y2 4 (.n 135 (.b (s.num != 0)) (.d (.k (.k (.k .z))))) [0] [b2] ?_
   exact YG (ZT 3 (fw (fr (Zu (s.num != 0) Jk fl)))) hj5
  refine ir 2 [(1,Z0 us),(3,.p b1 0),(5,.p b2 0),(8,Z7 ts v),(125,.b ((ts.length:Int) != 1))] (ib (b:=((ts.length:Int) != 1)) 125 (fun Cs=>?_) (fun Cs=>?_))
  ·have Z0q:(ts.length:Int)≠1:=(Yi).1 Cs
   refine Z5 5 (.n 130 (.b true) (.d (.k (.k (.k .z))))) ?_
   exact YG (ZT 3 (fw (fr (Zu true Cs fl)))) hj4
  have Z0r:¬((ts.length:Int)≠1):=ZI Yi Cs
  refine Z5 1 (.n 126 (Z7 ts v) (.w .z)) (Zq (Ak (es:=Z8 ts) (hv:=some v) (j:=0) (sz:=1) (y:=.i (gI ts 0)) kr om (Y4 (DI om)) rfl) (Z1 3 130 (.b ((gI ts 0) != 0)) ?_))
  exact YG (ZT 3 (fw (fr (Zu ((gI ts 0) != 0) Cs fl)))) hj4
 refine ar (Yl 4 150 (.b (s.op==8)) [0] [b2] (ie (ac (s.op==8) Zh (fun Vr=>?_) (fun Vr=>?_))))
 ·refine ar (ZY 3 154 (.agg [Zd n.decls,Xk n]) 156 (.i s.num) [1,0] [b1,b2] (ZA [] (Z1q _ s.num) (Z1 1 14 (WD ((Zw n.decls s.num).map (ZC n.decls))) (ie (aq (aD 24 (ZZ 23 24 [0] 158 (Z7 ts v) (dw 1 (Yh ts) (JU [(1,Z0 us),(3,.p b1 0),(5,.p b2 0),(14,WD ((Zw n.decls s.num).map (ZC n.decls))),(181,.b (((ts.length:Int) != 1)||(((gI ts 0) != s.num)||((((((Zw n.decls s.num).map (ZC n.decls)).length:Nat):Int)==0)||((s.kids.length:Int) != ((((Zw n.decls s.num).map (ZC n.decls)).length:Nat):Int))))))] [.obj b2 (Yg s),.obj b1 [Zd n.decls,Xk n],.tail v 1] ?_ ?_)))))))))
  ·refine Xa 20 22 [2,3] [(1,Z0 us),(3,.p b1 0),(5,.p b2 0),(8,Z7 ts v),(14,WD ((Zw n.decls s.num).map (ZC n.decls))),(161,.b ((ts.length:Int) != 1))] (db (b:=((ts.length:Int) != 1)) 161 (fun AT=>?_) (fun AT=>?_))
   ·have Z0s:(ts.length:Int)≠1:=(Yi).1 AT
    refine Y0 0 20 [4,5,6,7,8,9,10,11,12,13,14,15,16,17,18,19,20,21,22,23] (.n 181 (.b true) (.d (.k (.k (.k (.d (.k .z))))))) (de ?_)
    exact ZT 3 (fq (Zu true AT fl))
   have Z0t:¬((ts.length:Int)≠1):=ZI Yi AT
   refine Y0 19 20 [4] (.n 162 (Z7 ts v) (.w (.d (.k .z)))) (dx 5 (Ak (es:=Z8 ts) (hv:=some v) (j:=0) (sz:=1) (y:=.i (gI ts 0)) kr om (Y4 (DI om)) rfl) (Y6 12 18 [6,7,8,9,10,11] (.n 169 (.b ((gI ts 0) != s.num)) .r) [0] [b2] (db (b:=((gI ts 0) != s.num)) 169 (fun BB=>?_) (fun BB=>?_))))
   ·have Z0u:(gI ts 0)≠s.num:=(Yi).1 BB
    refine Y0 0 12 [12,13,14,15,16,17,18,19,20,21,22,23] (.n 181 (.b true) (.k (.d .r))) (de ?_)
    exact ZT 3 (fq (Zu true (And.intro AT BB) fl))
   have Gk:¬((gI ts 0)≠s.num):=ZI Yi BB
   refine Y0 11 12 [12] (.n 170 (WD ((Zw n.decls s.num).map (ZC n.decls))) (.k (.d .r))) (dn 13 (.i ((((Zw n.decls s.num).map (ZC n.decls)).length:Nat):Int)) (.i (((W7 ((Zw n.decls s.num).map (ZC n.decls))).length:Nat):Int)) (li (by rw [Dw])) (ZZ 7 10 [14,15,16] 174 (.b (((((Zw n.decls s.num).map (ZC n.decls)).length:Nat):Int)==0)) (db (b:=(((((Zw n.decls s.num).map (ZC n.decls)).length:Nat):Int)==0)) 174 (fun Ct=>?_) (fun Ct=>?_))))
   ·have Gl:((((Zw n.decls s.num).map (ZC n.decls)).length:Nat):Int)=0:=(Zh).1 Ct
    refine Y0 0 7 [17,18,19,20,21,22,23] (.n 181 (.b true) (.k (.d .r))) (de ?_)
    exact ZT 3 (fq (Zu true (And.intro AT (And.intro BB Ct)) fl))
   have Lv:¬(((((Zw n.decls s.num).map (ZC n.decls)).length:Nat):Int)=0):=ZI Zh Ct
   refine Y6 5 7 [17,18] (.n 176 (Yu s.kids) (.k (.d .r))) [0] [b2] (dw 19 (VG s.kids) (ZZ 3 4 [20] 178 (WD ((Zw n.decls s.num).map (ZC n.decls))) (dn 21 (.i ((((Zw n.decls s.num).map (ZC n.decls)).length:Nat):Int)) (.i (((W7 ((Zw n.decls s.num).map (ZC n.decls))).length:Nat):Int)) (li (by rw [Dw])) (ZZ 0 2 [22,23] 181 (.b ((s.kids.length:Int) != ((((Zw n.decls s.num).map (ZC n.decls)).length:Nat):Int))) (de ?_)))))
   exact ZT 3 (fq (Zu ((s.kids.length:Int) != ((((Zw n.decls s.num).map (ZC n.decls)).length:Nat):Int)) (And.intro AT (And.intro BB Ct)) fl))
  refine ac (((ts.length:Int) != 1)||(((gI ts 0) != s.num)||((((((Zw n.decls s.num).map (ZC n.decls)).length:Nat):Int)==0)||((s.kids.length:Int) != ((((Zw n.decls s.num).map (ZC n.decls)).length:Nat):Int))))) (p:=((ts.length:Int)≠1)∨(((gI ts 0)≠s.num)∨((((((Zw n.decls s.num).map (ZC n.decls)).length:Nat):Int)=0)∨((s.kids.length:Int)≠((((Zw n.decls s.num).map (ZC n.decls)).length:Nat):Int))))) (Yo Yi (Yo Yi (Yo Zh Yi))) (fun VH=>?_) (fun VH=>?_)
  ·refine ar (ir 2 [(6,.i (-1)),(7,.b false)] (ie ?_))
   have hS0:=Am (n:=n) hnn (JN Zy om) (fun q=>ZG (Jn.2 q))
   have hS:=Z7o hS0 Ym Xj Vr VH
   exact Zb (r2 [] [.i (-1),.b false] ⟨(-1),rfl,rfl,(by intro _ h;rw [hS] at h;omega)⟩ (Zg.tup (.cons (lr _) (.cons (lb (by rw [hS];rfl)) .nil))))
  refine ak (ar (iR 5 [(182,.agg [Zd n.decls,Xk n]),(183,Z0 us),(185,Yu s.kids),(186,WD ((Zw n.decls s.num).map (ZC n.decls)))] [1,0] [b1,b2] (ZA [] (LA n us s.kids ((Zw n.decls s.num).map (ZC n.decls)) (hnn:=hnn) (hm3:=(by intro m hm;first|(rw [ET hm];simp;done)|(obtain ⟨c,_,rfl⟩:=W6.1 hm;exact VK Xu c))) (hmn:=(by intro m hm f hf;first|(rw [ET hm] at hf;simp at hf;done)|(obtain ⟨c,_,rfl⟩:=W6.1 hm;exact hty.fields c f hf))) (ih:=(fun b us2 h1 h2 h3 h4=>ih b us2 om h2 h3 h4))) (ir 4 [(6,.i (Wi n us s.kids ((Zw n.decls s.num).map (ZC n.decls)) true 0)),(7,.b (decide (0<=Wi n us s.kids ((Zw n.decls s.num).map (ZC n.decls)) true 0)))] (ie ?_)))))
  have hS0:=Am (n:=n) hnn (JN Zy om) (fun q=>ZG (Jn.2 q))
  have hS:=Z7p hS0 Ym Xj Vr VH
  exact Zb (r2 [] [.i (Wi n us s.kids ((Zw n.decls s.num).map (ZC n.decls)) true 0),.b (decide (0<=Wi n us s.kids ((Zw n.decls s.num).map (ZC n.decls)) true 0))] ⟨Wi n us s.kids ((Zw n.decls s.num).map (ZC n.decls)) true 0,rfl,rfl,(fun _ _=>hS.symm)⟩ (Zg.tup (.cons (lr _) (.cons (lb (by rw [hS])) .nil))))
 refine ar (Yl 2 192 (Yu s.kids) [0] [b2] (iw (VG s.kids) (XQ 33 [(3,.p b1 0),(5,.p b2 0),(8,Z7 ts v),(223,.b ((decide ((s.kids.length:Int)>0))||((s.op==10)&&((decide (s.num>=0))&&((decide (s.num<(((n.routines.map XA).length:Nat):Int)))&&(decide (((((Tg n s.num).lnt).length:Nat):Int)>0)))))))] [.obj b2 (Yg s),.obj b1 [Zd n.decls,Xk n],.tail v 1] ?_ (fun hj6=>?_))))
 ·refine ir 1 [(3,.p b1 0),(5,.p b2 0),(8,Z7 ts v),(190,.b ((decide ((s.kids.length:Int)>0))||((s.op==10)&&((decide (s.num>=0))&&((decide (s.num<(((n.routines.map XA).length:Nat):Int)))&&(decide (((((Tg n s.num).lnt).length:Nat):Int)>0)))))))] (ie (ac ((decide ((s.kids.length:Int)>0))||((s.op==10)&&((decide (s.num>=0))&&((decide (s.num<(((n.routines.map XA).length:Nat):Int)))&&(decide (((((Tg n s.num).lnt).length:Nat):Int)>0)))))) (p:=((s.kids.length:Int)>0)∨((s.op=10)/\((s.num>=0)/\((s.num<(((n.routines.map XA).length:Nat):Int))/\(((((Tg n s.num).lnt).length:Nat):Int)>0))))) (Yo dq (YD Zh (YD dq (YD dq dq)))) (fun UL=>?_) (fun UL=>?_)))
  ·refine ar (ir 2 [(6,.i (-1)),(7,.b false)] (ie ?_))
   have hS0:=Am (n:=n) hnn (JN Zy om) (fun q=>ZG (Jn.2 q))
   have hS:=stB hS0 Ym Xj Vr UL
   exact Zb (r2 [] [.i (-1),.b false] ⟨(-1),rfl,rfl,(by intro _ h;rw [hS] at h;omega)⟩ (Zg.tup (.cons (lr _) (.cons (lb (by rw [hS];rfl)) .nil))))
  refine ak (ar (iR 6 [(224,.agg [Zd n.decls,Xk n]),(226,.i s.op),(228,.i s.num),(229,Z0 ts)] [1,0,0] [b1,b2,b2] (ic [] (Z1r _ s.op s.num ts) ?_)))
  rintro _ _ ⟨t1,rfl,rfl,DP⟩
  refine ir 4 [(6,.i t1),(7,.b ((Xv n s.op s.num ts).isSome))] (ie ?_)
  have hS0:=Am (n:=n) hnn (JN Zy om) (fun q=>ZG (Jn.2 q))
  have hS:=stS hS0 Ym Xj Vr UL
  exact Zb (r2 [] [.i t1,.b ((Xv n s.op s.num ts).isSome)] ⟨t1,rfl,rfl,(Z7t hS DP)⟩ (Zg.tup (.cons (lr _) (.cons (lb (Z7s hty hS)) .nil))))
 refine ir 2 [(3,.p b1 0),(5,.p b2 0),(8,Z7 ts v),(195,.b (decide ((s.kids.length:Int)>0)))] (ib (b:=(decide ((s.kids.length:Int)>0))) 195 (fun A3=>?_) (fun A3=>?_))
 ·have Z9e:(s.kids.length:Int)>0:=(dq).1 A3
  refine Z5 28 (.n 223 (.b true) (.d (.k (.k (.k .z))))) ?_
  exact YG (ZT 3 (fw (fr (Zu true A3 fl)))) hj6
 have Z9f:¬((s.kids.length:Int)>0):=ZI dq A3
 refine Y2 4 (.n 199 (.b (s.op==10)) (.w .z)) [0] [b2] (ib (b:=(s.op==10)) 199 (fun AU=>?_) (fun AU=>?_))
 ·have Z9g:s.op=10:=(Zh).1 AU
  refine Y2 5 (.n 204 (.b (decide (s.num>=0))) (.d (.d .r))) [0] [b2] (ib (b:=(decide (s.num>=0))) 204 (fun BC=>?_) (fun BC=>?_))
  ·have Z9h:s.num>=0:=(dq).1 BC
   refine Y2 4 (.n 206 (.i s.num) (.n 208 (Xk n) (.k (.d .r)))) [0,1] [b2,b1] (io (.i (((n.routines.map XA).length:Nat):Int)) (.i (((UI (n.routines.map XA)).length:Nat):Int)) (li (by rw [Cf])) (Z1 3 212 (.b (decide (s.num<(((n.routines.map XA).length:Nat):Int)))) (ib (b:=(decide (s.num<(((n.routines.map XA).length:Nat):Int)))) 212 (fun BD=>?_) (fun BD=>?_))))
   ·have Z9i:s.num<(((n.routines.map XA).length:Nat):Int):=(dq).1 BD
    refine Y2 4 (.n 214 (Xk n) (.n 216 (.i s.num) (.k (.d .r)))) [1,0] [b1,b2] (Zq (Ak (es:=UI (n.routines.map XA)) (hv:=none) (j:=s.num) (sz:=3) (y:=Db (Tg n s.num)) kr om (Bt (Z67 om)) rfl) (Z1 2 219 (Z0 ((Tg n s.num).lnt)) (io (.i ((((Tg n s.num).lnt).length:Nat):Int)) (.i (((Z8 ((Tg n s.num).lnt)).length:Nat):Int)) (li (by rw [Yh])) (Z1 3 223 (.b (decide (((((Tg n s.num).lnt).length:Nat):Int)>0))) ?_))))
    exact YG (ZT 3 (fw (fr (Zu (decide (((((Tg n s.num).lnt).length:Nat):Int)>0)) (And.intro A3 (And.intro AU (And.intro BC BD))) fl)))) hj6
   have Z9j:¬(s.num<(((n.routines.map XA).length:Nat):Int)):=ZI dq BD
   refine Z5 11 (.n 223 (.b false) (.k (.d .r))) ?_
   exact YG (ZT 3 (fw (fr (Zu false (And.intro A3 (And.intro AU (And.intro BC BD))) fl)))) hj6
  have Z9k:¬(s.num>=0):=ZI dq BC
  refine Z5 19 (.n 223 (.b false) (.k (.d .r))) ?_
  exact YG (ZT 3 (fw (fr (Zu false (And.intro A3 (And.intro AU BC)) fl)))) hj6
 have Z9l:¬(s.op=10):=ZI Zh AU
 refine Z5 24 (.n 223 (.b false) (.k (.d .r))) ?_
 exact YG (ZT 3 (fw (fr (Zu false (And.intro A3 AU) fl)))) hj6
theorem Z1h (n:Zx) (us:List Int) (b:Z6) (hn:Xd n) (hnn:∀t∈us,0<=t) (hb:us.length+4*b.sz<=1000000000) (hr:b.rng) (ih:∀(s:Z4) (us:List Int),(s.sz<b.sz)->(us.length+4*s.sz<=1000000000)->(s.rng)->(∀t∈us,0<=t)->Zi Tryz.prog 93 [.agg [Zd n.decls,Xk n],Z0 us,Y3 s] [] (fun r h=>∃(t:Int),r=.tup [.i t,.b (decide (0<=ZV n us s))]/\h=[]/\(¬Yf s.op=true->0<=ZV n us s->t=ZV n us s))):Zi Tryz.prog 56 [.agg [Zd n.decls,Xk n],Z0 us,Zs b] [] (fun r h=>r=.i (YV n us b)/\h=[]):=by
 have hbz:=Vf b
 have hbe:=Dh n us b
 rw [b.rng_eq] at hr
 refine ZK 54 Tryz.func56 (ar (iA [Zd n.decls,Xk n] ?_))
 intro b1
 refine iA (Yk b) ?_
 intro b2
 refine ir 1 [(1,Z0 us),(3,.p b1 0),(5,.p b2 0)] (ie (ar (Z1 1 12 (Z0 us) (ic [] (Pl us) ?_))))
 rintro _ _ ⟨v1,rfl,rfl⟩
 refine Z1 1 7 (Z7 us v1) (ie (aq (ar (Yl 2 15 (Ye b.steps) [1] [b2] (iw (Vl b.steps) (Z1 1 17 (.i 0) (ie (ab 0 (al (fun m F h=>∃(k:Nat) (vs:List Int) (v:Value),(k<=b.steps.length)/\(vs.length<=us.length+k)/\(∀t∈vs,0<=t)/\(V9 n (b.steps.drop k) vs=V9 n b.steps us)/\F=[(3,.p b1 0),(5,.p b2 0),(7,Z7 vs v),(15,Ye b.steps),(16,.i b.steps.length),(17,.i k)]/\h=[.obj b2 (Yk b),.obj b1 [Zd n.decls,Xk n],.tail v 1]/\m=b.steps.length-k) _ _ _ ⟨0,us,v1,ob,ob,ob,ob,rfl,rfl,rfl⟩ (wk [1,1,0] (fq (fr (Ya fl)))) ?_)))))))))
 rintro m F h ⟨k,vs,v,Yj,Zp,Zy,YJ,rfl,rfl,rfl⟩
 refine ar (Z1 1 18 (.b (decide ((k:Int)<(b.steps.length:Int)))) (ie (aq (ZM ((k:Int)<(b.steps.length:Int)) (fun Ze=>?_) (fun Ze=>?_)))))
 ·refine ak (aq (ab 1 (ar ?_)))
  obtain ⟨x1,Z3⟩:=Zr (xs:=b.steps) (j:=k) om
  have hss:=An Z3
  have hsr:=NQ hr Z3
  refine Zq (Zm none (k:Int) 5 (Wa Z3)) (Z1 1 20 (Y3 x1) (iA [.i 0,.i 0,.i 0,nl,nl] ?_))
  intro b3
  refine ZF 0 b3 (Yg x1) (ie (ar (Y2 3 (.n 22 (.agg [Zd n.decls,Xk n]) (.n 23 (Z0 vs) (.n 24 (Y3 x1) .r))) [2,0] [b1,b3] (ic [] (ih x1 vs ob ob ob ob) ?_))))
  rintro _ _ ⟨t1,rfl,rfl,ZP⟩
  refine Yq 5 10 (.i t1) 11 (.b (decide (0<=ZV n vs x1))) (ie (aq (ar (Z1 2 29 (.b (!decide (0<=ZV n vs x1))) (ie (ac (!decide (0<=ZV n vs x1)) (p:=¬(decide (0<=ZV n vs x1)=true)) (Yw Iff.rfl) (fun Zk=>?_) (fun Zk=>?_)))))))
  ·refine ar (ir 1 [(6,.i (-1))] (ie ?_))
   exact Zb (r2 [] [.i (-1)] ⟨rfl,rfl⟩ (li (by rw [hbe,<-YJ,Z8b Z3 (fun q=>Zk (decide_eq_true q)) rfl])))
  refine ak (ar (Yl 2 31 (.i x1.op) [0] [b3] (ZA [] (DW x1.op) (Z1 1 33 (.b (!Yf x1.op)) (ie (JK (fun F h=>∃(w:Value),F=[(3,.p b1 0),(5,.p b2 0),(7,Z7 (if Yf x1.op=true then vs else vs++[t1]) w),(15,Ye b.steps),(16,.i b.steps.length),(17,.i k)]/\h=[.obj b2 (Yk b),.obj b1 [Zd n.decls,Xk n],.tail w 1]) (fun _ _=>rfl) ?_ ?_))))))
  ·refine ac (!Yf x1.op) (p:=¬(Yf x1.op=true)) (Yw Iff.rfl) (fun ZG=>?_) (fun ZG=>?_)
   ·refine az (ir 2 [(3,.p b1 0),(5,.p b2 0),(15,Ye b.steps),(16,.i b.steps.length),(17,.i k),(34,Z7 vs v),(35,.i t1)] (iL (Z8 [t1]) 1 1 ?_))
    intro v2
    refine Z5 0 (.n 36 (Z0 [t1]) (.p .r)) (ip 4 (Z8 (vs++[t1])) (Z8 vs) (Z8 [t1]) v none 1 (YF _) (YF _) (XX _) (by simp<;>omega) (by simp [XW,Z8]) ?_)
    intro v3
    refine Z1 1 7 (Z7 (vs++[t1]) v3) (ie ?_)
    exact ZW ⟨v3,rfl,rfl⟩ (wk [3,3,0] (fw (fc (x:=Z7 (vs++[t1]) v3) (Zg.slh _ (Yx Z8 (by first|rfl|(rw [Zo ZG])|(rw [Zc ZG])|(simp [ZG];done)|(rw [Xl];simp [ZG];done)|omega))) fl)))
   refine ak ?_
   exact ZW ⟨v,rfl,rfl⟩ (wk [1,1,1] (fw (fc (x:=Z7 vs v) (Zg.slh _ (Yx Z8 (by first|rfl|(rw [Zo ZG])|(rw [Zc ZG])|(simp [ZG];done)|(rw [Xl];simp [ZG];done)|omega))) fl)))
  rintro F h ⟨w,rfl,rfl⟩
  refine az (ZL k (ir 1 [(3,.p b1 0),(5,.p b2 0),(7,Z7 (if Yf x1.op=true then vs else vs++[t1]) w),(15,Ye b.steps),(16,.i b.steps.length),(17,.i (k+1:Nat))] (ie ?_)))
  have h0:0<=ZV n vs x1:=of_decide_eq_true (V1.1 Zk)
  exact ZO ⟨k+1,(if Yf x1.op=true then vs else vs++[t1]),w,ob,(by split<;>(try simp)<;>omega),(Z3h Zy (fun q=>by rw [ZP q h0];exact h0)),(Z8a Z3 h0 ZP YJ),rfl,rfl,rfl⟩ (ZT 3 (fq (fr (ZQ k fl))))
 refine ax 0 (aq (ar (Xo [(5,.p b2 0),(7,Z7 vs v),(48,.b ((decide (b.result<0))||(decide (b.result>=(vs.length:Int)))))] [.obj b2 (Yk b),.obj b1 [Zd n.decls,Xk n],.tail v 1] ?_ ?_)))
 ·refine iR 4 [(5,.p b2 0),(7,Z7 vs v),(42,.b (decide (b.result<0)))] [0] [b2] (ib (b:=(decide (b.result<0))) 42 (fun Za=>?_) (fun Za=>?_))
  ·have Y1:b.result<0:=(dq).1 Za
   refine Z5 6 (.n 48 (.b true) (.d (.k (.k .z)))) (ie ?_)
   exact ZT 3 (fw (Zu true Za fl))
  have Yy:¬(b.result<0):=ZI dq Za
  refine Y2 3 (.n 44 (.i b.result) (.n 45 (Z7 vs v) (.k (.k (.k .z))))) [0] [b2] (iw (Yh vs) (Z1 2 48 (.b (decide (b.result>=(vs.length:Int)))) (ie ?_)))
  exact ZT 3 (fw (Zu (decide (b.result>=(vs.length:Int))) Za fl))
 refine ac ((decide (b.result<0))||(decide (b.result>=(vs.length:Int)))) (p:=(b.result<0)∨(b.result>=(vs.length:Int))) (Yo dq dq) (fun Ym=>?_) (fun Ym=>?_)
 ·refine ar (ir 1 [(6,.i (-1))] (ie ?_))
  exact Zb (r2 [] [.i (-1)] ⟨rfl,rfl⟩ (li (by rw [hbe,<-YJ,Xb om];show _=(Xw vs b.result).getD (-1);rw [Qi om];rfl)))
 refine ak (ar (iR 3 [(49,Z7 vs v),(51,.i b.result)] [0] [b2] ?_))
 obtain ⟨x2,Zt⟩:=Zr (xs:=vs) (j:=b.result.toNat) om
 refine Zq (Zm (some v) b.result 1 (Y4 Zt)) (ir 2 [(6,.i x2)] (ie ?_))
 exact Zb (r2 [] [.i x2] ⟨rfl,rfl⟩ (li (by rw [hbe,<-YJ,Xb om];show _=(Xw vs b.result).getD (-1);rw [TF om Zt];rfl)))
theorem Z1f (n:Zx) (hn:Xd n) (hty:Bg n) (m:Nat):∀(b:Z6) (us:List Int),(b.sz<=m)->(us.length+4*b.sz<=1000000000)->(b.rng)->(∀t∈us,0<=t)->Zi Tryz.prog 56 [.agg [Zd n.decls,Xk n],Z0 us,Zs b] [] (fun r h=>r=.i (YV n us b)/\h=[]):=by
 induction m with
 | zero=>intro b us h;have:=b.sz_pos;omega
 | succ m ih=>intro b us h1 h2 h3 h4;exact Z1h n us b hn h4 h2 h3 fun s us2 k1 k2 k3 k4=>Z1s n us2 s hn hty k4 k2 k3 fun b2 us3 q1 q2 q3 q4=>ih b2 us3 om q2 q3 q4
theorem Z1g (n:Zx) (us:List Int) (b:Z6) (hn:Xd n) (hty:Bg n) (hnn:∀t∈us,0<=t) (hb:us.length+4*b.sz<=1000000000) (hr:b.rng):Zi Tryz.prog 56 [.agg [Zd n.decls,Xk n],Z0 us,Zs b] [] (fun r h=>r=.i (YV n us b)/\h=[]):=
 Z1f n hn hty b.sz b us (X6 _) hb hr hnn
theorem Lx (n:Zx) (hz:TC n:=by exact ob) (hr:∀r∈n.routines,r.body.rng):Zi Tryz.prog 19 [ZD n] [] (fun r h=>r=.b (Wd n)/\h=[]):=by
 have hzl:=hz.len
 refine ZK 37 Tryz.func19 (ar (iA (ZU n) ?_))
 intro b1
 refine ir 1 [(1,.p b1 0)] (ie (ar (Yl 1 8 (ZD n) [0] [b1] (ic [] (Z1o n) ?_))))
 rintro _ _ (⟨rfl,rfl,ZP⟩|⟨rfl,rfl,Y1⟩)
 ·refine Yq 3 10 (.agg [Zd n.decls,Xk n]) 11 (.b (VL n)) (iA [nl,nl] ?_)
  intro b2
  refine ZF 0 b2 [Zd n.decls,Xk n] (Z1 1 4 (.b (VL n)) (ie (aq (ar (Z1 2 13 (.b (!VL n)) (ie (ac (!VL n) (p:=¬(VL n=true)) (Yw Iff.rfl) (fun Ze=>?_) (fun Ze=>?_))))))))
  ·refine ar (ir 1 [(2,.b false)] (ie ?_))
   exact Zb (r2 [] [.b false] ⟨rfl,rfl⟩ (lb (by rw [Wd,Ty.2 Ze];rfl)))
  have hsg:VL n=true:=by simpa using Ze
  have hok:=GO hz hsg
  have hty:=Z3i hsg
  refine ak (aq (ar (Yl 2 15 (YZ n.routines) [1] [b1] (iw (VV n.routines) (Z1 1 17 (.i 0) (ie (ab 0 (al (fun m F h=>∃(k:Nat),(k<=n.routines.length)/\(Q6 n (n.routines.drop k)=Q6 n n.routines)/\F=[(3,.p b2 0),(15,YZ n.routines),(16,.i n.routines.length),(17,.i k)]/\h=[.obj b2 [Zd n.decls,Xk n]]/\m=n.routines.length-k) _ _ _ ⟨0,ob,ob,rfl,rfl,rfl⟩ (wk [0] (fw (fr (Ya fl)))) ?_))))))))
  rintro m F h ⟨k,Yj,Zp,rfl,rfl,rfl⟩
  refine ar (Z1 1 18 (.b (decide ((k:Int)<(n.routines.length:Int)))) (ie (aq (ZM ((k:Int)<(n.routines.length:Int)) (fun Zk=>?_) (fun Zk=>?_)))))
  ·refine ak (aq (ab 1 (ar ?_)))
   obtain ⟨x1,Z3⟩:=Zr (xs:=n.routines) (j:=k) om
   have hrm:=Y7 Z3
   have ZE:=hz.body _ hrm
   have hps:=hok.params_at Z3
   refine Zq (Zm none (k:Int) 5 (WB Z3)) (Z1 1 20 (WS x1) (iA [nl,nl,.i 0,nl,.i 0] ?_))
   intro b3
   refine ZF 0 b3 (VW x1) (ie (aD 15 (Y6 13 15 [0,1] (.n 22 (Zs x1.body) .r) [0] [b3] (Z9 2 (Yv 2 [] [] [] (Z1c x1.body) (JU [(3,.p b2 0),(15,YZ n.routines),(16,.i n.routines.length),(17,.i k),(35,.b ((decide ((U9 x1.body)<0))||((YV n x1.params x1.body) != x1.result)))] [.obj b3 (VW x1),.obj b2 [Zd n.decls,Xk n]] ?_ ?_))))))
   ·refine Xa 10 12 [3,4] [(3,.p b2 0),(6,.p b3 0),(15,YZ n.routines),(16,.i n.routines.length),(17,.i k),(25,.b (decide ((U9 x1.body)<0)))] (db (b:=(decide ((U9 x1.body)<0))) 25 (fun Za=>?_) (fun Za=>?_))
    ·have Yy:(U9 x1.body)<0:=(dq).1 Za
     refine Y0 0 10 [5,6,7,8,9,10,11,12,13,14] (.n 35 (.b true) (.d (.k (.d (.k (.k (.k .z))))))) (de ?_)
     exact wk [0,0] (fq (Zu true Za fl))
    have YK:¬((U9 x1.body)<0):=ZI dq Za
    refine Y6 3 10 [5,6,7,8,9,11,12] (.n 26 (.agg [Zd n.decls,Xk n]) (.n 28 (Z0 x1.params) (.n 30 (Zs x1.body) (.n 33 (.i x1.result) (.k (.k (.d (.k (.k (.k .z)))))))))) [1,0,0,0] [b2,b3,b3,b3] (Z9 10 (Yv 10 [] [0] [b3] (Z1g n x1.params x1.body ob hty (hty.params _ hrm) ob (hr _ hrm)) (ZZ 0 2 [13,14] 35 (.b ((YV n x1.params x1.body) != x1.result)) (de ?_))))
    exact wk [0,0] (fq (Zu ((YV n x1.params x1.body) != x1.result) Za fl))
   refine ac ((decide ((U9 x1.body)<0))||((YV n x1.params x1.body) != x1.result)) (p:=((U9 x1.body)<0)∨((YV n x1.params x1.body)≠x1.result)) (Yo dq Yi) (fun ZG=>?_) (fun ZG=>?_)
   ·refine ar (ir 1 [(2,.b false)] (ie ?_))
    rw [Y8 Z3] at Zp
    exact Zb (r2 [] [.b false] ⟨rfl,rfl⟩ (lb (by clear Z3;first|rfl|omega|grind [Q6,Wd])))
   refine ak (az (ZL k (ir 1 [(3,.p b2 0),(15,YZ n.routines),(16,.i n.routines.length),(17,.i (k+1:Nat))] (ie ?_))))
   have hdr:=Y8 Z3
   exact ZO ⟨k+1,ob,(by rw [hdr] at Zp;clear hdr Z3;grind [Q6]),rfl,rfl,rfl⟩ (wk [1] (fw (fr (ZQ k fl))))
  refine ax 0 (ar (ir 1 [(2,.b true)] (ie ?_)))
  try rw [Xb (xs:=n.routines) (k:=k) om] at Zp
  exact Zb (r2 [] [.b true] ⟨rfl,rfl⟩ (lb (by first|rfl|omega|grind [Q6,Wd])))
 refine Yq 3 10 (.agg [Zd [],Vm []]) 11 (.b false) (iA [nl,nl] ?_)
 intro b4
 refine ZF 0 b4 [Zd [],Vm []] (Z1 1 4 (.b false) (ie (aq (ar (Z1 2 13 (.b true) (ie (WU (ar (ir 1 [(2,.b false)] (ie ?_))))))))))
 exact Zb (r2 [] [.b false] ⟨rfl,rfl⟩ (lb (by rw [Wd,‹VL n=false›];rfl)))
open Go.Proofs
theorem PW (s:Z4) (cc:Nat) (g:Hd) (c0:List Int) (q:Int) (hcb:CB c0 q:=by exact ob) (hq:0<=q/\q<=4000000000000:=by exact ob):Zi Tryz.prog 65 [Y3 s,.p cc 0] [.obj cc [.h g],rV g c0] (fun r h=>h=[.obj cc [.h g],rV g (QF s.op c0)]):=by
 refine ZK 14 Tryz.func65 (ar (iA (Yg s) ?_))
 intro b1
 refine ie (ar (iR 2 [(1,.p cc 0),(2,.p b1 0),(4,.i s.op)] [0] [b1] (ZA [] (DW s.op) (ie (ac (Yf s.op) Iff.rfl (fun Ze=>?_) (fun Ze=>?_))))))
 ·have hr:=PV Ze
  have hgx:0<=gI c0 (s.op-14)/\gI c0 (s.op-14)<=q:=hcb.at om
  have hlc:=hcb.len
  refine az (iR 3 [(6,.h g),(8,.i s.op)] [1,0] [cc,b1] (ia ((s.op-14)) ((s.op)-(14)) (Zq (Vo 2 g c0 (s.op-14) ((s.op-14).toNat) (hq:=rfl)) ?_)))
  obtain ⟨x1,Z3⟩:=Zr (xs:=c0) (j:=((s.op-14).toNat)) om
  have hgy:=UK Z3
  refine VI (Tj 2 g c0 ((s.op-14).toNat) x1 Z3) (ia ((x1+1)) ((x1)+(1)) (Zq (Vo 2 g c0 (s.op-14) ((s.op-14).toNat) (hq:=rfl)) (Gm 2 g c0 ((s.op-14).toNat) (x1+1) (ie ?_))))
  exact r2 [2,0] [] rfl (lr _) (eq:=(rc (rv (xs:=(c0.set ((s.op-14).toNat) (x1+1))) (by rw [Pp Ze,hgy]) rz)))
 refine ak ?_
 exact r2 [1,1] [] rfl (lr _) (eq:=(rc (rv (xs:=c0) (Po Ze).symm rz)))
theorem Z1z (b:Z6) (cc:Nat) (g:Hd) (c0:List Int) (q:Int) (hcb:CB c0 q) (hq:0<=q/\q+b.sz<=4000000000000) (hz:b.sz<=1000000000) (ih:∀(b2:Z6) (cc:Nat) (g:Hd) (c2:List Int) (q2:Int),(CB c2 q2)->(0<=q2/\q2+b2.sz<=4000000000000)->(b2.sz<=1000000000)->(b2.sz<b.sz)->Zi Tryz.prog 64 [Zs b2,.val (.func (.func 65) #[] #[.pointer (some ⟨cc,0,none⟩)])] [.obj cc [.h g],rV g c2] (fun r h=>h=[.obj cc [.h g],rV g (Tm b2 c2)])):Zi Tryz.prog 64 [Zs b,.val (.func (.func 65) #[] #[.pointer (some ⟨cc,0,none⟩)])] [.obj cc [.h g],rV g c0] (fun r h=>h=[.obj cc [.h g],rV g (Tm b c0)]):=by
 have hbz:=Vf b
 have hbe:=b.sz_eq
 refine ZK 30 Tryz.func64 (ar (iA (Yk b) ?_))
 intro b1
 refine ie (ar (iR 2 [(1,.val (.func (.func 65) #[] #[.pointer (some ⟨cc,0,none⟩)])),(9,Ye b.steps)] [0] [b1] (iw (Vl b.steps) (Z1 1 11 (.i 0) (ie (ab 0 (al (fun m F h=>∃(k:Nat) (c:List Int),(k<=b.steps.length)/\(CB c (q+Yp (b.steps.take k)))/\(Tn (b.steps.drop k) c=Tn b.steps c0)/\F=[(1,.val (.func (.func 65) #[] #[.pointer (some ⟨cc,0,none⟩)])),(9,Ye b.steps),(10,.i b.steps.length),(11,.i k)]/\h=[.obj cc [.h g],rV g c]/\m=b.steps.length-k) _ _ _ ⟨0,c0,ob,(hcb.le (by rw [List.take_zero,Yp];omega)),rfl,rfl,rfl,rfl⟩ (wk [1,1] (fw (fr (Ya fl)))) ?_)))))))
 rintro m F h ⟨k,c,Yj,Zp,Zy,rfl,rfl,rfl⟩
 refine ar (Z1 1 12 (.b (decide ((k:Int)<(b.steps.length:Int)))) (ie (aq (ZM ((k:Int)<(b.steps.length:Int)) (fun Ze=>?_) (fun Ze=>?_)))))
 ·refine ak (aq (ab 1 (ar ?_)))
  obtain ⟨x1,Z3⟩:=Zr (xs:=b.steps) (j:=k) om
  have Xq:=An Z3
  have hkz:=Uz x1
  have htk:=EH Z3
  have htl:=Qa b.steps (k+1)
  have hse:=x1.sz_eq
  refine Zq (Zm none (k:Int) 5 (Wa Z3)) (Z1 1 14 (Y3 x1) (iA [.i 0,.i 0,.i 0,nl,nl] ?_))
  intro b2
  refine ZF 0 b2 (Yg x1) (ie (ar (ZY 2 15 (.val (.func (.func 65) #[] #[.pointer (some ⟨cc,0,none⟩)])) 16 (Y3 x1) [0] [b2] (ic [1,1] (PW x1 cc g c (q+Yp (b.steps.take k)) (hcb:=Zp)) ?_))))
  rintro _ _ rfl
  refine ie (ar (Y2 2 (.n 19 (Yu x1.kids) (.p .r)) [2] [b2] (iw (VG x1.kids) (Z1 1 21 (.i 0) (ie (ab 2 (al (fun m F h=>∃(j:Nat) (c2:List Int),(j<=x1.kids.length)/\(CB c2 (q+Yp (b.steps.take k)+1+YR (x1.kids.take j)))/\(UW (x1.kids.drop j) c2=UW x1.kids (QF x1.op c))/\F=[(1,.val (.func (.func 65) #[] #[.pointer (some ⟨cc,0,none⟩)])),(9,Ye b.steps),(10,.i b.steps.length),(11,.i k),(19,Yu x1.kids),(20,.i x1.kids.length),(21,.i j)]/\h=[.obj cc [.h g],rV g c2]/\m=x1.kids.length-j) _ _ _ ⟨0,(QF x1.op c),ob,((Zp.one om x1.op).le (by rw [List.take_zero,YR];omega)),rfl,rfl,rfl,rfl⟩ (wk [0,0] (fq (fw (Ya fl)))) ?_)))))))
  rintro m F h ⟨j,c2,VS,XH,XE,rfl,rfl,rfl⟩
  refine ar (Z1 1 22 (.b (decide ((j:Int)<(x1.kids.length:Int)))) (ie (aq (ZM ((j:Int)<(x1.kids.length:Int)) (fun Zk=>?_) (fun Zk=>?_)))))
  ·refine ak (aq (ab 3 (ar ?_)))
   obtain ⟨x2,Zt⟩:=Zr (xs:=x1.kids) (j:=j) om
   have hks:=Uy Zt
   have hbt:=C9 Zt
   refine Zq (Zm none (j:Int) 2 (U5 Zt)) (Z1 1 24 (Zs x2) (iA [nl,.i 0] ?_))
   intro b3
   refine ZF 0 b3 (Yk x2) (ie (az (ZY 2 25 (Zs x2) 26 (.val (.func (.func 65) #[] #[.pointer (some ⟨cc,0,none⟩)])) [0] [b3] (ic [1,1] (ih x2 cc g c2 (q+Yp (b.steps.take k)+1+YR (x1.kids.take j)) XH ob ob ob) ?_))))
   rintro _ _ rfl
   refine ie (az (ZL j (Z5 1 (.n 21 (.i (j+1:Nat)) (.p (.p (.d (.d (.p (.d (.p (.d (.w (.k (.k .z)))))))))))) (ie ?_))))
   exact ZO ⟨j+1,(Tm x2 c2),ob,(by rw [WM Zt,I7];exact ((XH.b x2 om).le om)),(Ps Zt XE),rfl,rfl,rfl⟩ (wk [0,0] (fq (fw (ZQ j fl))))
  have hKe:=Pq om XE
  have hbj:=Dk (xs:=x1.kids) (k:=j) om
  refine ax 2 (az (ZL k (Z5 1 (.n 11 (.i (k+1:Nat)) (.p (.d (.k (.k (.k .z)))))) (ie ?_))))
  exact ZO ⟨k+1,(UW x1.kids (QF x1.op c)),ob,(by rw [<-hKe];exact XH.le om),(Px Z3 Zy),rfl,rfl,rfl⟩ (wk [0,0] (fw (fr (ZQ k fl))) (e:=(rc (rv (xs:=c2) hKe rz))))
 refine ax 0 ?_
 exact r2 [0,0] [] rfl (lr _) (eq:=(rc (rv (xs:=c) (by rw [Pr];exact Pv om Zy) rz)))
theorem Z1x (k:Nat):∀(b2:Z6) (cc:Nat) (g:Hd) (c2:List Int) (q2:Int),(CB c2 q2)->(0<=q2/\q2+b2.sz<=4000000000000)->(b2.sz<=1000000000)->(b2.sz<k)->Zi Tryz.prog 64 [Zs b2,.val (.func (.func 65) #[] #[.pointer (some ⟨cc,0,none⟩)])] [.obj cc [.h g],rV g c2] (fun r h=>h=[.obj cc [.h g],rV g (Tm b2 c2)]):=by
 induction k with
 | zero=>intro b cc g c q _ _ _ h;omega
 | succ k ih=>intro b cc g c q h1 h2 h3 h4;exact Z1z b cc g c q h1 h2 h3 fun b2 cc2 g2 c2 q2 k1 k2 k3 k4=>ih b2 cc2 g2 c2 q2 k1 k2 k3 om
theorem Z1y (b:Z6) (cc:Nat) (g:Hd) (c0:List Int) (q:Int) (hcb:CB c0 q:=by exact ob) (hq:0<=q/\q+b.sz<=4000000000000:=by exact ob) (hz:b.sz<=1000000000:=by exact ob):Zi Tryz.prog 64 [Zs b,.val (.func (.func 65) #[] #[.pointer (some ⟨cc,0,none⟩)])] [.obj cc [.h g],rV g c0] (fun r h=>h=[.obj cc [.h g],rV g (Tm b c0)]):=Z1x (b.sz+1) b cc g c0 q hcb hq hz om
theorem Z1a (n:Zx) (hz:TC n:=by exact ob) (hr:∀r∈n.routines,r.body.rng):Zi Tryz.prog 26 [ZD n] [] (fun r h=>∃(w:Hd),r=.h w/\h=[rV w (if Wd n=true then JR n else [])]):=by
 refine ZK 23 Tryz.func26 (ar (iA (ZU n) ?_))
 intro b1
 refine ir 1 [(1,.p b1 0)] (ie (aq (ar (Yl 1 6 (ZD n) [0] [b1] (ZA [] (Lx n (hr:=hr)) (Z1 1 8 (.b (!Wd n)) (ie (ac (!Wd n) (p:=¬(Wd n=true)) (Yw Iff.rfl) (fun Ze=>?_) (fun Ze=>?_)))))))))
 ·refine ar (ir 1 [(2,nl)] (ie (Fb Ao ?_)))
  exact Zb (r2 [0] [nl] ⟨hN,rfl,rfl⟩ (Zg.hd (v:=hN)) (eq:=(rv (xs:=[]) (by rw [Zc Ze]) rz)))
 have hV:Wd n=true:=V1.1 Ze
 obtain ⟨hn,hvt⟩:=Og hz hV
 have hzl:=hn.len
 refine ak (ar (iVM 4 ?_))
 intro v1
 refine iA [nl] ?_
 intro b2
 refine ZF 0 b2 [.h v1] (ie (aq (ar (Yl 2 11 (YZ n.routines) [2] [b1] (iw (VV n.routines) (Z1 1 13 (.i 0) (ie (ab 0 (al (fun m F h=>∃(k:Nat) (c:List Int),(k<=n.routines.length)/\(CB c (10000000*k))/\(K7 (n.routines.drop k) c=JR n)/\F=[(3,.p b2 0),(11,YZ n.routines),(12,.i n.routines.length),(13,.i k)]/\h=[.obj b2 [.h v1],rV v1 c]/\m=n.routines.length-k) _ _ _ ⟨0,(List.replicate 4 0),ob,⟨rfl,fun x hx=>by simp at hx;omega⟩,rfl,rfl,rfl,rfl⟩ (wk [0,0] (fw (fr (Ya fl)))) ?_)))))))))
 rintro m F h ⟨k,c,Yj,Zp,Zy,rfl,rfl,rfl⟩
 refine ar (Z1 1 14 (.b (decide ((k:Int)<(n.routines.length:Int)))) (ie (aq (ZM ((k:Int)<(n.routines.length:Int)) (fun Zk=>?_) (fun Zk=>?_)))))
 ·refine ak (aq (ab 1 (ar ?_)))
  obtain ⟨x1,Z3⟩:=Zr (xs:=n.routines) (j:=k) om
  have hrm:=Y7 Z3
  have hbz:=hz.body _ hrm
  refine Zq (Zm none (k:Int) 5 (WB Z3)) (Z1 1 16 (WS x1) (iA [nl,nl,.i 0,nl,.i 0] ?_))
  intro b3
  refine ZF 0 b3 (VW x1) (ie (az (ZY 3 18 (Zs x1.body) 19 (.val (.func (.func 65) #[] #[.pointer (some ⟨b2,0,none⟩)])) [0] [b3] (ic [1,1] (Z1y x1.body b2 v1 c (10000000*(k:Int)) (hcb:=Zp)) ?_))))
  rintro _ _ rfl
  refine ie (az (ZL k (Z5 1 (.n 13 (.i (k+1:Nat)) (.p (.p (.d (.d (.p (.d (.p (.d (.k (.k (.k .z)))))))))))) (ie ?_))))
  exact ZO ⟨k+1,(Tm x1.body c),ob,((Zp.b x1.body om).le om),(Pu Z3 Zy),rfl,rfl,rfl⟩ (wk [0,0] (fw (fr (ZQ k fl))))
 refine ax 0 (ar (iR 2 [(2,.h v1)] [0] [b2] (ie ?_)))
 exact Zb (r1 [1] ⟨v1,rfl,rfl⟩ (eq:=(rv (xs:=c) (by rw [Zo hV];exact Pt om Zy) rz)))
abbrev Mem:=Nat->Nat->Option Value
abbrev Ay:=Nat × Nat
def upd (m:Mem) (a:Ay) (z:Int):Mem:=fun g o=>if g=a.1/\o=a.2 then some (.int .i64 z) else m g o
def wr (m:Mem):List Ay->Int->Mem
 | [],_=>m
 | a::r,k=>wr (upd m a k) r (k+1)
def DO (m:Mem):List Ay->Int->Prop
 | [],_=>True
 | a::r,k=>m a.1 a.2=some (.int .i64 k)/\DO m r (k+1)
def LG (m:Mem) (a:Ay):Prop:=∃z,m a.1 a.2=some (.int .i64 z)
structure Kp (m m':Mem):Prop where
 i:∀{a:Ay},LG m a->LG m' a
 h:∀{g o:Nat} {v:Value},m g o=some v->(∀z,v≠.int .i64 z)->m' g o=some v
section
variable {P:Program} {n:Nat} {ops:Array Oper} {B:Fr->List Res->Prop} {k:Nat} {F:Fr} {h h2:List Res}
end
section
variable {m m':Mem} {B:List Nat}
end
section
variable {m:Mem} {B:List Nat} {g:Nat}
end
section
variable {m:Mem} {B:List Nat}
end
def Zn (g lo hi:Nat) (X:List Nat) (a:Ay):Prop:=(a.1=g/\lo<=a.2/\a.2<hi)∨a.1∈X
structure Nd (g lo hi:Nat) (X:List Nat) (as1:List Ay):Prop where
 nd:(X.Nodup/\g∉X)->as1.Nodup
 zn:∀a∈as1,Zn g lo hi X a
section
variable {m:Mem} {B:List Nat}
end
def GB (B:List Nat):Yc:=fun b _=>b∈B
section
variable {w:World} {G:Yc} {B:List Nat}
end
section
variable {w:World} {G:Yc} {B:List Nat}
def Lr:Value->Hd
 | .slice a l c=>⟨a,l,c⟩
 | _=>⟨none,0,0⟩
abbrev av (y:Ov):AV:=.agg [.h (Lr y.dv),.h (Lr y.rv)]
end
def Oy (B:List Nat) (m:Mem) (x:AV) (u:Value):Prop:=
 ∀w:World,(∀b∈B,∃cs e,w.heap[b]? = some (.cells cs e (0,0))/\∀o,cs[o]? = m b o)->RV w (GB B) x u
inductive C3 (bs:List Res):List AV->List AV->Prop
 | nil:C3 bs [] []
 | same {x as1 xs} (t:C3 bs as1 xs):C3 bs (x::as1) (x::xs)
 | gen {B m x a u as1 xs} (h:Res.own B m∈bs) (hr:Oy B m x u) (ha:∀w G v,RV w G a v->v=u) (t:C3 bs as1 xs):C3 bs (a::as1) (x::xs)
section
variable {P:Program} {n:Nat} {ops:Array Oper} {B:Fr->List Res->Prop} {k:Nat} {F:Fr} {h:List Res}
def I4 (P:Program) (ops:Array Oper) (F:Fr) (k:Nat):Option (Bool × Bool):=
 match (ZB ops k).op with
 | .binOp .neq t x y _=>match P.underlying t with
  | some .bool=>match F.ev x,F.ev y with
   | .val (.bool a),.val (.bool b)=>some (a,b)
   | _,_=>none
  | _=>none
 | _=>none
theorem Z2f (a b:Bool) (hb:I4 P ops F k=some (a,b):=by kernel_rfl):Xy P (ZB ops k) F h [] (.b (a != b)):=by
 unfold I4 at hb
 generalize hoo:ZB ops k=o at hb
 obtain ⟨dst,op,type,pos,after,guard⟩:=o
 cases op<;>simp only at hb<;>try (cases hb)
 rename_i bop t x y yt
 cases bop<;>simp only at hb<;>try (cases hb)
 split at hb
 ·rename_i ht
  split at hb
  ·rename_i a' b' h1 h2
   cases hb
   intro n w G ac hF hh
   have v1:=hF.ev x
   have v2:=hF.ev y
   rw [h1] at v1
   rw [h2] at v2
   have v1:=v1.val_inv
   have v2:=v2.val_inv
   refine ⟨_,.val,fun w' _ _=>?_⟩
   simp only [execOp,v1,v2]
   have he:(Op.equalIn (9999+1) t (.bool a) (.bool b)).run P w'=.ok (a==b) w':=by
    rw [Op.equalIn]
    simp [Sem.run_bind,Vs ht]
   refine V0 ?_
   simp only [eqGuard,binOp,Op.equal,Op.maxDepth]
   have he2:(Op.equalIn 10000 t (.bool a) (.bool b)).run P w'=.ok (a==b) w':=he
   simp [Sem.run_bind,he2,bne]
  ·cases hb
 ·cases hb
end
section
variable {P:Program} {n:Nat} {ops:Array Oper} {B:Fr->List Res->Prop} {k:Nat} {F:Fr} {h:List Res}
def I5 (P:Program) (ops:Array Oper) (F:Fr) (k:Nat):Option (Bool × Bool):=
 match (ZB ops k).op with
 | .binOp .eql t x y _=>match P.underlying t with
  | some .bool=>match F.ev x,F.ev y with
   | .val (.bool a),.val (.bool b)=>some (a,b)
   | _,_=>none
  | _=>none
 | _=>none
theorem Z2e (a b:Bool) (hb:I5 P ops F k=some (a,b):=by kernel_rfl):Xy P (ZB ops k) F h [] (.b (a==b)):=by
 unfold I5 at hb
 generalize hoo:ZB ops k=o at hb
 obtain ⟨dst,op,type,pos,after,guard⟩:=o
 cases op<;>simp only at hb<;>try (cases hb)
 rename_i bop t x y yt
 cases bop<;>simp only at hb<;>try (cases hb)
 split at hb
 ·rename_i ht
  split at hb
  ·rename_i a' b' h1 h2
   cases hb
   intro n w G ac hF hh
   have v1:=hF.ev x
   have v2:=hF.ev y
   rw [h1] at v1
   rw [h2] at v2
   have v1:=v1.val_inv
   have v2:=v2.val_inv
   refine ⟨_,.val,fun w' _ _=>?_⟩
   simp only [execOp,v1,v2]
   have he:(Op.equalIn (9999+1) t (.bool a) (.bool b)).run P w'=.ok (a==b) w':=by
    rw [Op.equalIn]
    simp [Sem.run_bind,Vs ht]
   refine V0 ?_
   simp only [eqGuard,binOp,Op.equal,Op.maxDepth]
   have he2:(Op.equalIn 10000 t (.bool a) (.bool b)).run P w'=.ok (a==b) w':=he
   simp [Sem.run_bind,he2]
  ·cases hb
 ·cases hb
end
theorem Z6x (b:Z6) (hz:b.sz<=1000000000) (ih:∀(b2:Z6),(b2.sz<=1000000000)->(b2.sz<b.sz)->Zi Tryz.prog 104 [Zs b2] [] (fun r h=>r=.b (WL b2)/\h=[])):Zi Tryz.prog 104 [Zs b] [] (fun r h=>r=.b (WL b)/\h=[]):=by
 have hbz:=Vf b
 have hbe:=b.sz_eq
 refine ZK 50 Tryz.func104 (ar (iA (Yk b) ?_))
 intro b1
 refine ir 1 [(1,.p b1 0)] (ie (aq (ar (Z1 1 3 (.i 0) (ie (ab 0 (al (fun m F h=>∃(k:Nat),(k<=b.steps.length)/\(VX (b.steps.drop k)=VX b.steps)/\F=[(1,.p b1 0),(3,.i k)]/\h=[.obj b1 (Yk b)]/\m=b.steps.length-k) _ _ _ ⟨0,ob,rfl,rfl,rfl,rfl⟩ (wk [0] (fr (Ya fl))) ?_)))))))
 rintro m F h ⟨k,Yj,Zp,rfl,rfl,rfl⟩
 refine aq (ar (ZY 3 5 (.i k) 7 (Ye b.steps) [0] [b1] (iw (Vl b.steps) (Z1 1 9 (.b (decide ((k:Int)<(b.steps.length:Int)))) (ie (ZM ((k:Int)<(b.steps.length:Int)) (fun Ze=>?_) (fun Ze=>?_)))))))
 ·refine ak (aq (ab 1 (aq (ar (ZY 3 13 (Ye b.steps) 14 (.i k) [0] [b1] ?_)))))
  obtain ⟨x1,Z3⟩:=Zr (xs:=b.steps) (j:=k) om
  have Xq:=QY Z3
  have hkz:=Uz x1
  refine Zq (Zm none (k:Int) 5 (Wa Z3)) (Z1 2 17 (.i x1.op) (ZA [] (Hh x1.op) (Xo [(1,.p b1 0),(3,.i k),(27,.b (Yf x1.op||(x1.into != 0)))] [.obj b1 (Yk b)] ?_ ?_)))
  ·refine ir 1 [(1,.p b1 0),(3,.i k),(19,.b (Yf x1.op))] (ib (b:=Yf x1.op) 19 (fun Za=>?_) (fun Za=>?_))
   ·have ZP:Yf x1.op=true:=(Iff.rfl).1 Za
    refine Z5 8 (.n 27 (.b true) (.d (.k (.k .z)))) (ie ?_)
    exact wk [0] (fw (Zu true Za fl))
   have Y1:¬(Yf x1.op=true):=ZI Iff.rfl Za
   refine Y2 3 (.n 21 (Ye b.steps) (.n 22 (.i k) (.k (.k (.k .z))))) [0] [b1] (Zq (Zm none (k:Int) 5 (Wa Z3)) (Z1 4 27 (.b (x1.into != 0)) (ie ?_)))
   exact wk [0] (fw (Zu (x1.into != 0) Za fl))
  refine ac (Yf x1.op||(x1.into != 0)) (p:=(Yf x1.op=true)∨(x1.into≠0)) (Yo Iff.rfl Yi) (fun Zk=>?_) (fun Zk=>?_)
  ·refine ar (ir 1 [(2,.b false)] (ie ?_))
   exact Zb (r2 [] [.b false] ⟨rfl,rfl⟩ (lb (by rw [Ei];exact Z4m Z3 Zk Zp)))
  refine ak (ar (ir 1 [(1,.p b1 0),(3,.i k),(4,.i 0)] (ie (ab 2 (al (fun m F h=>∃(j:Nat),(j<=x1.kids.length)/\(VO (x1.kids.drop j)=VO x1.kids)/\F=[(1,.p b1 0),(3,.i k),(4,.i j)]/\h=[.obj b1 (Yk b)]/\m=x1.kids.length-j) _ _ _ ⟨0,ob,rfl,rfl,rfl,rfl⟩ (wk [0] (fw (Ya fl))) ?_)))))
  rintro m F h ⟨j,VS,XH,rfl,rfl,rfl⟩
  refine aq (ar (Y2 4 (.n 28 (.i j) (.n 30 (Ye b.steps) (.n 31 (.i k) .r))) [0] [b1] (Zq (Zm none (k:Int) 5 (Wa Z3)) (Z1 2 34 (Yu x1.kids) (iw (VG x1.kids) (Z1 1 36 (.b (decide ((j:Int)<(x1.kids.length:Int)))) (ie (ZM ((j:Int)<(x1.kids.length:Int)) (fun ZG=>?_) (fun ZG=>?_)))))))))
  ·refine ak (aq (ab 3 (ar (ZY 3 40 (Ye b.steps) 41 (.i k) [0] [b1] (Zq (Zm none (k:Int) 5 (Wa Z3)) (Yq 3 44 (Yu x1.kids) 45 (.i j) ?_))))))
   obtain ⟨x2,Zt⟩:=Zr (xs:=x1.kids) (j:=j) om
   have hks:=Uy Zt
   refine Zq (Zm none (j:Int) 2 (U5 Zt)) (Z1 1 47 (Zs x2) (ZA [] (ih x2 ob ob) (Z1 1 49 (.b (!WL x2)) (ie (ac (!WL x2) (p:=¬(WL x2=true)) (Yw Iff.rfl) (fun Ym=>?_) (fun Ym=>?_))))))
   ·refine ar (ir 1 [(2,.b false)] (ie ?_))
    exact Zb (r2 [] [.b false] ⟨rfl,rfl⟩ (lb (by rw [Ei];exact Z4n Z3 (Z4j Zt Ym XH) Zp)))
   refine ak (az (Z1 1 37 (.i j) (ZL j (ir 1 [(1,.p b1 0),(3,.i k),(4,.i (j+1:Nat))] (ie ?_)))))
   exact ZO ⟨j+1,ob,(Z4l Zt (V1.1 Ym) XH),rfl,rfl,rfl⟩ (wk [0] (fw (ZQ j fl)))
  refine ax 2 (az (Z1 1 10 (.i k) (ZL k (ir 1 [(1,.p b1 0),(3,.i (k+1:Nat))] (ie ?_)))))
  exact ZO ⟨k+1,ob,(Z4p Z3 Zk (Z4k om XH) Zp),rfl,rfl,rfl⟩ (wk [0] (fr (ZQ k fl)))
 refine ax 0 (ar (ir 1 [(2,.b true)] (ie ?_)))
 exact Zb (r2 [] [.b true] ⟨rfl,rfl⟩ (lb (by rw [Ei];exact Z4o om Zp)))
theorem Z6v (k:Nat):∀(b2:Z6),(b2.sz<=1000000000)->(b2.sz<k)->Zi Tryz.prog 104 [Zs b2] [] (fun r h=>r=.b (WL b2)/\h=[]):=by
 induction k with
 | zero=>intro b _ h;omega
 | succ k ih=>intro b h1 h2;exact Z6x b h1 fun b2 k1 k2=>ih b2 k1 om
theorem Z6w (b:Z6) (hz:b.sz<=1000000000:=by exact ob):Zi Tryz.prog 104 [Zs b] [] (fun r h=>r=.b (WL b)/\h=[]):=Z6v (b.sz+1) b hz om
theorem Z6s (n:Zx) (hz:TC n:=by exact ob):Zi Tryz.prog 70 [ZD n] [] (fun r h=>r=.b (XY n)/\h=[]):=by
 have hzl:=hz.len
 refine ZK 22 Tryz.func70 (ar (iA (ZU n) ?_))
 intro b1
 refine ir 1 [(1,.p b1 0)] (ie (aq (ar (Yl 1 4 (ZD n) [0] [b1] (ZA [] (NO n) (Z1 1 6 (.b (!Wd n)) (ie (ac (!Wd n) (p:=¬(Wd n=true)) (Yw Iff.rfl) (fun Ze=>?_) (fun Ze=>?_)))))))))
 ·refine ar (ir 1 [(2,.b false)] (ie ?_))
  exact Zb (r2 [] [.b false] ⟨rfl,rfl⟩ (lb (by rw [XY,Ty.2 Ze];rfl)))
 refine ak (aq (ar (Z1 1 3 (.i 0) (ie (ab 0 (al (fun m F h=>∃(k:Nat),(k<=n.routines.length)/\(Tx (n.routines.drop k)=Tx n.routines)/\F=[(1,.p b1 0),(3,.i k)]/\h=[.obj b1 (ZU n)]/\m=n.routines.length-k) _ _ _ ⟨0,ob,rfl,rfl,rfl,rfl⟩ (wk [0] (fr (Ya fl))) ?_))))))
 rintro m F h ⟨k,Yj,Zp,rfl,rfl,rfl⟩
 refine aq (ar (ZY 3 7 (.i k) 9 (YZ n.routines) [0] [b1] (iw (VV n.routines) (Z1 1 11 (.b (decide ((k:Int)<(n.routines.length:Int)))) (ie (ZM ((k:Int)<(n.routines.length:Int)) (fun Zk=>?_) (fun Zk=>?_)))))))
 ·refine ak (aq (ab 1 (ar (ZY 3 15 (YZ n.routines) 16 (.i k) [0] [b1] ?_))))
  obtain ⟨x1,Z3⟩:=Zr (xs:=n.routines) (j:=k) om
  have hrm:=Y7 Z3
  have hbz:=hz.body _ hrm
  refine Zq (Zm none (k:Int) 5 (WB Z3)) (Z1 2 19 (Zs x1.body) (ZA [] (Z6w x1.body) (Z1 1 21 (.b (!WL x1.body)) (ie (ac (!WL x1.body) (p:=¬(WL x1.body=true)) (Yw Iff.rfl) (fun ZG=>?_) (fun ZG=>?_))))))
  ·refine ar (ir 1 [(2,.b false)] (ie ?_))
   exact Zb (r2 [] [.b false] ⟨rfl,rfl⟩ (lb (by rw [XY,V1.1 Ze,Bool.true_and];exact MM Z3 ZG Zp)))
  refine ak (az (Z1 1 12 (.i k) (ZL k (ir 1 [(1,.p b1 0),(3,.i (k+1:Nat))] (ie ?_)))))
  exact ZO ⟨k+1,ob,(MP Z3 (V1.1 ZG) Zp),rfl,rfl,rfl⟩ (wk [0] (fr (ZQ k fl)))
 refine ax 0 (ar (ir 1 [(2,.b true)] (ie ?_)))
 exact Zb (r2 [] [.b true] ⟨rfl,rfl⟩ (lb (by rw [XY,V1.1 Ze,Bool.true_and];exact MN om Zp)))
theorem Ny (n:Zx) (hz:TC n:=by exact ob):Zi Tryz.prog 33 [ZD n] [] (fun r h=>r=.b (XY n)/\h=[]):=by
 refine ZK 5 Tryz.func33 (ar (iA (ZU n) ?_))
 intro b1
 refine ir 1 [(1,.p b1 0)] (ie (ar (iR 1 [(3,ZD n)] [0] [b1] (ZA [] (Z6s n) (ir 1 [(2,.b (XY n))] (ie ?_))))))
 exact Zb (r1 [] ⟨rfl,rfl⟩)
theorem Z1p (s:Z4) (cc:Nat) (v:Bool) :Zi Tryz.prog 103 [Y3 s,.p cc 0] [.obj cc [.b v]] (fun r h=>h=[.obj cc [.b ((v&&(!Yf s.op))&&(s.into==0))]]):=by
 refine ZK 15 Tryz.func103 (ar (iA (Yg s) ?_))
 intro b1
 refine ie (az (XQ 7 [(1,.p cc 0),(2,.p b1 0),(9,.b (v&&(!Yf s.op)))] [.obj b1 (Yg s),.obj cc [.b v]] ?_ (fun hj1=>?_)))
 ·refine XQ 12 [(1,.p cc 0),(14,.b ((v&&(!Yf s.op))&&(s.into==0)))] [.obj b1 (Yg s),.obj cc [.b v]] ?_ (fun hj2=>?_)
  ·refine ZF 1 cc [.b ((v&&(!Yf s.op))&&(s.into==0))] (ie ?_)
   exact r2 [0] [] rfl (lr _)
  refine ir 1 [(1,.p cc 0),(2,.p b1 0),(10,.b (v&&(!Yf s.op)))] (ib (b:=(v&&(!Yf s.op))) 10 (fun Za=>?_) (fun Za=>?_))
  ·have ZP:(v=true)/\(¬(Yf s.op=true)):=((YD Iff.rfl (Yw Iff.rfl))).1 Za
   refine iR 4 [(1,.p cc 0),(14,.b (s.into==0))] [0] [b1] ?_
   exact YG (wk [0,0] (fr (Zu (s.into==0) Za fl))) hj2
  have Y1:¬((v=true)/\(¬(Yf s.op=true))):=ZI (YD Iff.rfl (Yw Iff.rfl)) Za
  refine ir 4 [(1,.p cc 0),(14,.b false)] ?_
  exact YG (wk [0,0] (fr (Zu false Za fl))) hj2
 refine iR 2 [(1,.p cc 0),(2,.p b1 0),(4,.b v)] [1] [cc] (ib (b:=v) 4 (fun Zz=>?_) (fun Zz=>?_))
 ·have Yy:v=true:=(Iff.rfl).1 Zz
  refine Y2 2 (.n 6 (.i s.op) (.k (.k (.k .z)))) [0] [b1] (ZA [] (DW s.op) (Z1 2 9 (.b (!Yf s.op)) ?_))
  exact YG (wk [0,0] (fw (Zu (!Yf s.op) Zz fl))) hj1
 have YK:¬(v=true):=ZI Iff.rfl Zz
 refine Z5 5 (.n 9 (.b false) (.d (.k (.k .z)))) ?_
 exact YG (wk [0,0] (fw (Zu false Zz fl))) hj1
theorem Z1w (b:Z6) (cc:Nat) (v:Bool) (hz:b.sz<=1000000000) (ih:∀(b2:Z6) (cc:Nat) (v2:Bool),(b2.sz<=1000000000)->(b2.sz<b.sz)->Zi Tryz.prog 64 [Zs b2,.val (.func (.func 103) #[] #[.pointer (some ⟨cc,0,none⟩)])] [.obj cc [.b v2]] (fun r h=>h=[.obj cc [.b (v2&&WL b2)]])):Zi Tryz.prog 64 [Zs b,.val (.func (.func 103) #[] #[.pointer (some ⟨cc,0,none⟩)])] [.obj cc [.b v]] (fun r h=>h=[.obj cc [.b (v&&WL b)]]):=by
 have hbz:=Vf b
 have hbe:=b.sz_eq
 refine ZK 30 Tryz.func64 (ar (iA (Yk b) ?_))
 intro b1
 refine ie (ar (iR 2 [(1,.val (.func (.func 103) #[] #[.pointer (some ⟨cc,0,none⟩)])),(9,Ye b.steps)] [0] [b1] (iw (Vl b.steps) (Z1 1 11 (.i 0) (ie (ab 0 (al (fun m F h=>∃(k:Nat) (u:Bool),(k<=b.steps.length)/\((u&&VX (b.steps.drop k))=(v&&VX b.steps))/\F=[(1,.val (.func (.func 103) #[] #[.pointer (some ⟨cc,0,none⟩)])),(9,Ye b.steps),(10,.i b.steps.length),(11,.i k)]/\h=[.obj cc [.b u]]/\m=b.steps.length-k) _ _ _ ⟨0,v,ob,rfl,rfl,rfl,rfl⟩ (wk [1] (fw (fr (Ya fl)))) ?_)))))))
 rintro m F h ⟨k,u,Yj,Zp,rfl,rfl,rfl⟩
 refine ar (Z1 1 12 (.b (decide ((k:Int)<(b.steps.length:Int)))) (ie (aq (ZM ((k:Int)<(b.steps.length:Int)) (fun Ze=>?_) (fun Ze=>?_)))))
 ·refine ak (aq (ab 1 (ar ?_)))
  obtain ⟨x1,Z3⟩:=Zr (xs:=b.steps) (j:=k) om
  have Xq:=QY Z3
  have hkz:=Uz x1
  refine Zq (Zm none (k:Int) 5 (Wa Z3)) (Z1 1 14 (Y3 x1) (iA [.i 0,.i 0,.i 0,nl,nl] ?_))
  intro b2
  refine ZF 0 b2 (Yg x1) (ie (ar (ZY 2 15 (.val (.func (.func 103) #[] #[.pointer (some ⟨cc,0,none⟩)])) 16 (Y3 x1) [0] [b2] (ic [1] (Z1p x1 cc u) ?_))))
  rintro _ _ rfl
  refine ie (ar (Y2 2 (.n 19 (Yu x1.kids) (.p .r)) [1] [b2] (iw (VG x1.kids) (Z1 1 21 (.i 0) (ie (ab 2 (al (fun m F h=>∃(j:Nat) (w:Bool),(j<=x1.kids.length)/\((w&&VO (x1.kids.drop j))=(((u&&(!Yf x1.op))&&(x1.into==0))&&VO x1.kids))/\F=[(1,.val (.func (.func 103) #[] #[.pointer (some ⟨cc,0,none⟩)])),(9,Ye b.steps),(10,.i b.steps.length),(11,.i k),(19,Yu x1.kids),(20,.i x1.kids.length),(21,.i j)]/\h=[.obj cc [.b w]]/\m=x1.kids.length-j) _ _ _ ⟨0,((u&&(!Yf x1.op))&&(x1.into==0)),ob,rfl,rfl,rfl,rfl⟩ (wk [0] (fq (fw (Ya fl)))) ?_)))))))
  rintro m F h ⟨j,w,VS,XH,rfl,rfl,rfl⟩
  refine ar (Z1 1 22 (.b (decide ((j:Int)<(x1.kids.length:Int)))) (ie (aq (ZM ((j:Int)<(x1.kids.length:Int)) (fun Zk=>?_) (fun Zk=>?_)))))
  ·refine ak (aq (ab 3 (ar ?_)))
   obtain ⟨x2,Zt⟩:=Zr (xs:=x1.kids) (j:=j) om
   have hks:=Uy Zt
   refine Zq (Zm none (j:Int) 2 (U5 Zt)) (Z1 1 24 (Zs x2) (iA [nl,.i 0] ?_))
   intro b3
   refine ZF 0 b3 (Yk x2) (ie (az (ZY 2 25 (Zs x2) 26 (.val (.func (.func 103) #[] #[.pointer (some ⟨cc,0,none⟩)])) [0] [b3] (ic [1] (ih x2 cc w ob ob) ?_))))
   rintro _ _ rfl
   refine ie (az (ZL j (Z5 1 (.n 21 (.i (j+1:Nat)) (.p (.p (.d (.d (.p (.d (.p (.d (.w (.k (.k .z)))))))))))) (ie ?_))))
   exact ZO ⟨j+1,(w&&WL x2),ob,(Z4i Zt XH),rfl,rfl,rfl⟩ (wk [0] (fq (fw (ZQ j fl))))
  have hKe:=Z4h om XH
  refine ax 2 (az (ZL k (Z5 1 (.n 11 (.i (k+1:Nat)) (.p (.d (.k (.k (.k .z)))))) (ie ?_))))
  exact ZO ⟨k+1,w,ob,(by have h:=Z4f Z3 Zp;rw [MG,<-Bool.and_assoc,<-Bool.and_assoc,<-hKe] at h;exact h),rfl,rfl,rfl⟩ (wk [0] (fw (fr (ZQ k fl))))
 refine ax 0 ?_
 exact r2 [0] [] rfl (lr _) (eq:=(ro (ls:=[.b u]) (by rw [Ei,<-Z4e om Zp]) rz))
theorem Z1u (k:Nat):∀(b2:Z6) (cc:Nat) (v2:Bool),(b2.sz<=1000000000)->(b2.sz<k)->Zi Tryz.prog 64 [Zs b2,.val (.func (.func 103) #[] #[.pointer (some ⟨cc,0,none⟩)])] [.obj cc [.b v2]] (fun r h=>h=[.obj cc [.b (v2&&WL b2)]]):=by
 induction k with
 | zero=>intro b cc v _ h;omega
 | succ k ih=>intro b cc v h1 h2;exact Z1w b cc v h1 fun b2 cc2 v2 k1 k2=>ih b2 cc2 v2 k1 om
theorem Z1v (b:Z6) (cc:Nat) (v:Bool) (hz:b.sz<=1000000000:=by exact ob):Zi Tryz.prog 64 [Zs b,.val (.func (.func 103) #[] #[.pointer (some ⟨cc,0,none⟩)])] [.obj cc [.b v]] (fun r h=>h=[.obj cc [.b (v&&WL b)]]):=Z1u (b.sz+1) b cc v hz om
theorem Z1n (b:Z6) (hz:b.sz<=1000000000:=by exact ob):Zi Tryz.prog 69 [Zs b] [] (fun r h=>r=.b (WL b)/\h=[]):=by
 refine ZK 8 Tryz.func69 (ar (iA (Yk b) ?_))
 intro b1
 refine ir 1 [(1,.p b1 0)] (ie (ar (iA [.b false] ?_)))
 intro b2
 refine ZF 0 b2 [.b true] (ie (ar (ZY 2 4 (Zs b) 5 (.val (.func (.func 103) #[] #[.pointer (some ⟨b2,0,none⟩)])) [1] [b1] (ic [0] (Z1v b b2 true) ?_))))
 rintro _ _ rfl
 refine ie (ar (iR 2 [(2,.b (true&&WL b))] [0] [b2] (ie ?_)))
 exact Zb (r2 [] [.b (true&&WL b)] ⟨rfl,rfl⟩ (lb (by rw [Bool.true_and])))
theorem Z1b (n:Zx) (hz:TC n:=by exact ob) (hr:∀r∈n.routines,r.body.rng):Zi Tryz.prog 32 [ZD n] [] (fun r h=>r=.b (XY n)/\h=[]):=by
 have hzl:=hz.len
 refine ZK 20 Tryz.func32 (ar (iA (ZU n) ?_))
 intro b1
 refine ir 1 [(1,.p b1 0)] (ie (aq (ar (Yl 1 5 (ZD n) [0] [b1] (ZA [] (Lx n (hr:=hr)) (Z1 1 7 (.b (!Wd n)) (ie (ac (!Wd n) (p:=¬(Wd n=true)) (Yw Iff.rfl) (fun Ze=>?_) (fun Ze=>?_)))))))))
 ·refine ar (ir 1 [(2,.b false)] (ie ?_))
  exact Zb (r2 [] [.b false] ⟨rfl,rfl⟩ (lb (by rw [XY,Ty.2 Ze];rfl)))
 refine ak (aq (ar (iR 2 [(9,YZ n.routines)] [0] [b1] (iw (VV n.routines) (Z1 1 11 (.i 0) (ie (ab 0 (al (fun m F h=>∃(k:Nat),(k<=n.routines.length)/\(Tx (n.routines.drop k)=Tx n.routines)/\F=[(9,YZ n.routines),(10,.i n.routines.length),(11,.i k)]/\h=[]/\m=n.routines.length-k) _ _ _ ⟨0,ob,rfl,rfl,rfl,rfl⟩ (wk [] (fw (Ya fl))) ?_))))))))
 rintro m F h ⟨k,Yj,Zp,rfl,rfl,rfl⟩
 refine ar (Z1 1 12 (.b (decide ((k:Int)<(n.routines.length:Int)))) (ie (aq (ZM ((k:Int)<(n.routines.length:Int)) (fun Zk=>?_) (fun Zk=>?_)))))
 ·refine ak (aq (ab 1 (ar ?_)))
  obtain ⟨x1,Z3⟩:=Zr (xs:=n.routines) (j:=k) om
  have hrm:=Y7 Z3
  have hbz:=hz.body _ hrm
  refine Zq (Zm none (k:Int) 5 (WB Z3)) (Z1 1 14 (WS x1) (iA [nl,nl,.i 0,nl,.i 0] ?_))
  intro b2
  refine ZF 0 b2 (VW x1) (ie (ar (Yl 2 16 (Zs x1.body) [0] [b2] (ZA [] (Z1n x1.body) (Z1 1 18 (.b (!WL x1.body)) (ie (ac (!WL x1.body) (p:=¬(WL x1.body=true)) (Yw Iff.rfl) (fun ZG=>?_) (fun ZG=>?_))))))))
  ·refine ar (ir 1 [(2,.b false)] (ie ?_))
   exact Zb (r2 [] [.b false] ⟨rfl,rfl⟩ (lb (by rw [XY,V1.1 Ze,Bool.true_and];exact MM Z3 ZG Zp)))
  refine ak (az (ZL k (Z5 1 (.n 11 (.i (k+1:Nat)) (.p (.d (.p (.d (.p (.d (.p (.d (.k (.k .z))))))))))) (ie ?_))))
  exact ZO ⟨k+1,ob,(MP Z3 (V1.1 ZG) Zp),rfl,rfl,rfl⟩ (wk [] (fw (ZQ k fl)))
 refine ax 0 (ar (ir 1 [(2,.b true)] (ie ?_)))
 exact Zb (r2 [] [.b true] ⟨rfl,rfl⟩ (lb (by rw [XY,V1.1 Ze,Bool.true_and];exact MN om Zp)))
theorem Z2s (xs:List Int) (ys:List Int) (hxl:xs.length<=1000000:=by exact ob) (hyl:ys.length<=1000000:=by exact ob):Zi Tryz.prog 27 [Z0 xs,Z0 ys] [] (fun r h=>r=.b (decide (xs=ys))/\h=[]):=by
 refine ZK 26 Tryz.func27 (ar (ir 1 [(0,Z0 xs),(1,Z0 ys)] (ie (aq (ar (Z1 1 6 (Z0 xs) (iw (Yh xs) (Z1 1 8 (Z0 ys) (iw (Yh ys) (Z1 1 10 (.b ((xs.length:Int) != (ys.length:Int))) (ie (ac ((xs.length:Int) != (ys.length:Int)) Yi (fun Ze=>?_) (fun Ze=>?_)))))))))))))
 ·refine ar (ir 1 [(4,.b false)] (ie ?_))
  exact Zb (r2 [] [.b false] ⟨rfl,rfl⟩ (lb (decide_eq_false (fun z=>Ze (by rw [z]))).symm))
 refine ak (aq (ar (Z1 1 5 (.i 0) (ie (ab 0 (al (fun m F h=>∃(k:Nat),(k<=xs.length)/\(∀i,i<k->xs[i]? = ys[i]?)/\F=[(0,Z0 xs),(1,Z0 ys),(5,.i k)]/\h=[]/\m=xs.length-k) _ _ _ ⟨0,ob,(fun i h=>absurd h om),rfl,rfl,rfl⟩ (wk [] (fw (Ya fl))) ?_))))))
 rintro m F h ⟨k,Yj,Zp,rfl,rfl,rfl⟩
 refine aq (ar (Yq 2 11 (.i k) 12 (Z0 xs) (iw (Yh xs) (Z1 1 14 (.b (decide ((k:Int)<(xs.length:Int)))) (ie (ZM ((k:Int)<(xs.length:Int)) (fun Zk=>?_) (fun Zk=>?_)))))))
 ·refine ak (aq (ab 1 (aD 9 (Y0 7 9 [0,1] (.n 17 (Z0 xs) (.n 18 (.i k) .r)) ?_))))
  obtain ⟨x1,Z3⟩:=Zr (xs:=xs) (j:=k) om
  refine dx 2 (Zm none (k:Int) 1 (Y4 Z3)) (Y0 3 6 [3,4,5] (.n 20 (.i x1) (.n 21 (Z0 ys) (.n 22 (.i k) .r))) ?_)
  obtain ⟨x2,Zt⟩:=Zr (xs:=ys) (j:=k) om
  refine dx 6 (Zm none (k:Int) 1 (Y4 Zt)) (ZZ 0 2 [7,8] 25 (.b (x1 != x2)) (de (ac (x1 != x2) Yi (fun ZG=>?_) (fun ZG=>?_))))
  ·refine ar (ir 1 [(4,.b false)] (ie ?_))
   exact Zb (r2 [] [.b false] ⟨rfl,rfl⟩ (lb (decide_eq_false (fun z=>ZG (by rw [z,Zt] at Z3;cases Z3;rfl))).symm))
  refine ak (az (Z1 1 15 (.i k) (ZL k (ir 1 [(0,Z0 xs),(1,Z0 ys),(5,.i (k+1:Nat))] (ie ?_)))))
  exact ZO ⟨k+1,ob,(fun i h=>(Nat.lt_succ_iff_lt_or_eq.1 h).elim (Zp i) (fun z=>by rw [z,Z3,Zt,V1.1 ZG])),rfl,rfl,rfl⟩ (wk [] (fw (ZQ k fl)))
 refine ax 0 (ar (ir 1 [(4,.b true)] (ie ?_)))
 exact Zb (r2 [] [.b true] ⟨rfl,rfl⟩ (lb (decide_eq_true (RJ om (fun i hi=>Zp i om))).symm))
theorem S8 (rd:Nat) (bs:List Int) (p:Nat) (ZE:∀z∈bs,0<=z/\z<=255) (hp:p+147500000<=1000000000:=by exact ob):Zi Tryz.prog 68 [.p rd 0] [Yn rd bs p] (fun r h=>∃(n2:Zx) (p2:Nat),r=ZD n2/\h=[Yn rd bs p2]/\ZS n2 7330632 11/\p<=p2/\p2<=p+147500000):=by
 refine ZK 12 Tryz.func68 (ar (iA [nl,nl] ?_))
 intro b1
 refine ie (aq (ar (ir 1 [(0,.p rd 0),(2,.p b1 0),(3,.p rd 0)] (ic [1] (XP rd bs p 12 (ZE:=ob)) ?_))))
 rintro _ _ ⟨k1,rfl,rfl,ZP⟩
 refine Z1 1 5 (.b (k1==0)) (ie (ac (k1==0) Zh (fun Ze=>?_) (fun Ze=>?_)))
 ·refine ar (Z1 1 6 (.p rd 0) (ic [0] (L6 rd bs (p+1) (ZE:=ob)) ?_))
  rintro _ _ ⟨n21,p21,rfl,rfl,Y1⟩
  have haf:=Y1
  refine ZF 1 b1 (ZU n21) (ie ?_)
  exact Zb (r3 [1] [ZD n21] [0] [(b1,b1)] ⟨n21,p21,rfl,rfl,(by first|exact ⟨haf.1,by omega,by omega⟩|exact ⟨hsf.1,by omega,by omega⟩)⟩ (lr _))
 refine ak (ar (Yq 2 8 (.p rd 0) 9 (.p rd 0) (ic [0] (Ga rd bs (p+1) (ZE:=ob)) ?_)))
 rintro _ _ ⟨n1,p22,rfl,rfl,Yy⟩
 have hpf:=((FO.zn Yy.1).le (show 181<=7330630 by omega)).zs
 refine ic [0] (Gc rd bs p22 n1 20 7330630 10 (ZE:=ob) (hzn:=hpf)) ?_
 rintro _ _ ⟨n22,p23,rfl,rfl,YK⟩
 have hsf:=YK
 refine ZF 1 b1 (ZU n22) (ie ?_)
 exact Zb (r3 [1] [ZD n22] [0] [(b1,b1)] ⟨n22,p23,rfl,rfl,(by first|exact ⟨haf.1,by omega,by omega⟩|exact ⟨hsf.1,by omega,by omega⟩)⟩ (lr _))
theorem S6 (code:List Int) (hcl:code.length<=1048576:=by exact ob) (hcb:∀z∈code,0<=z/\z<=255):Zi Tryz.prog 31 [X9 code] [] (fun r h=>∃(n2:Zx),r=ZD n2/\h=[]/\ZS n2 7330632 11):=by
 refine ZK 13 Tryz.func31 (ar (iA [nl,nl] ?_))
 intro b1
 refine ie (ar (ir 1 [(2,.p b1 0),(4,X9 code)] (ic [] (SV code (hc:=hcb)) ?_)))
 rintro _ _ ⟨rd1,bs1,rfl,rfl,ZP⟩
 have hnr:=ZP
 refine Z1 1 3 (.p rd1 0) (ie (aq (ar (Z1 1 6 (.p rd1 0) (ic [0] (XP rd1 bs1 0 2 (ZE:=hnr)) ?_)))))
 rintro _ _ ⟨k1,rfl,rfl,Y1⟩
 refine Z1 1 8 (.b (k1==0)) (ie (ac (k1==0) Zh (fun Ze=>?_) (fun Ze=>?_)))
 ·refine ar (Z1 1 9 (.p rd1 0) (ic [0] (L6 rd1 bs1 (0+1) (ZE:=hnr)) ?_))
  rintro _ _ ⟨n21,p21,rfl,rfl,Yy⟩
  have haf:=Yy
  refine ZF 1 b1 (ZU n21) (ie ?_)
  exact Zb (r3 [] [ZD n21] [0] [(b1,b1)] ⟨n21,rfl,rfl,(by first|exact haf.1|exact hap.1)⟩ (lr _))
 refine ak (ar (Z1 1 11 (.p rd1 0) (ic [0] (S8 rd1 bs1 (0+1) (ZE:=hnr)) ?_)))
 rintro _ _ ⟨n22,p22,rfl,rfl,YK⟩
 have hap:=YK
 refine ZF 1 b1 (ZU n22) (ie ?_)
 exact Zb (r3 [] [ZD n22] [0] [(b1,b1)] ⟨n22,rfl,rfl,(by first|exact haf.1|exact hap.1)⟩ (lr _))
theorem Z2r (code:List Int) (hcb:∀z∈code,0<=z/\z<=255):Zi Tryz.prog 7 [X9 code] [] (fun r h=>r=.b true/\h=[]):=by
 refine ZK 28 Tryz.func7 (ar (ir 1 [(0,X9 code)] (ie (aq (ar (Z1 1 5 (X9 code) (iw (QG code) (Z1 1 7 (.b (decide ((code.length:Int)>1048576))) (ie (ZM ((code.length:Int)>1048576) (fun Ze=>?_) (fun Ze=>?_)))))))))))
 ·refine ar (ir 1 [(2,.b true)] (ie ?_))
  exact Zb (r1 [] ⟨rfl,rfl⟩)
 have hcl:code.length<=1048576:=by omega
 refine ak (ar (ir 1 [(8,X9 code)] (ic [] (S6 code (hcl:=hcl) (hcb:=hcb)) ?_)))
 rintro _ _ ⟨n21,rfl,rfl,ZP⟩
 have hzs:=ZP
 have hzn:=hzs.sz om om
 refine iA [nl,nl] ?_
 intro b1
 refine ZF 0 b1 (ZU n21) (ie (ar (Yl 1 10 (ZD n21) [0] [b1] (ZA [] (Z1b n21 (hr:=(fun r hr=>(hzs.rt r hr).2.2.2))) (Z1 1 4 (.b (XY n21)) (ie (aq (ar (ZY 2 12 (.b (XY n21)) 13 (ZD n21) [0] [b1] (ZA [] (Ny n21) (Zq (Z2f (XY n21) (XY n21)) (Xo [(3,.p b1 0),(4,.b (XY n21)),(19,.b (((XY n21) != (XY n21))||(!XY n21)))] [.obj b1 (ZU n21)] ?_ ?_))))))))))))
 ·refine ir 1 [(3,.p b1 0),(4,.b (XY n21)),(16,.b ((XY n21) != (XY n21)))] (ib (b:=((XY n21) != (XY n21))) 16 (fun Za=>?_) (fun Za=>?_))
  ·have Y1:(XY n21)≠(XY n21):=(Yi).1 Za
   refine Z5 3 (.n 19 (.b true) (.d (.k (.k .z)))) (ie ?_)
   exact wk [0] (fw (Zu true Za fl))
  have Yy:¬((XY n21)≠(XY n21)):=ZI Yi Za
  refine Z5 3 (.n 19 (.b (!XY n21)) (.d (.k (.k .z)))) (ie ?_)
  exact wk [0] (fw (Zu (!XY n21) Za fl))
 refine ac (((XY n21) != (XY n21))||(!XY n21)) (p:=((XY n21)≠(XY n21))∨(¬(XY n21=true))) (Yo Yi (Yw Iff.rfl)) (fun Zk=>?_) (fun Zk=>?_)
 ·refine ar (iR 2 [(20,.b (XY n21)),(21,ZD n21)] [0] [b1] (ZA [] (Ny n21) (Zq (Z2e (XY n21) (XY n21)) (ir 1 [(2,.b ((XY n21)==(XY n21)))] (ie ?_)))))
  exact Zb (r2 [] [.b ((XY n21)==(XY n21))] ⟨rfl,rfl⟩ (lb (by simp)))
 have hip:XY n21=true:=ER fun z=>Zk (.inr z)
 refine ak (ar (iR 1 [(24,ZD n21)] [0] [b1] (ic [] (Z1a n21 (hr:=(fun r hr=>(hzs.rt r hr).2.2.2))) ?_)))
 rintro _ _ ⟨w1,rfl,rfl⟩
 refine iL (Z8 [0,0,0,0]) 4 1 ?_
 intro v1
 refine Z5 0 (.n 26 (Z0 [0,0,0,0]) (.p .r)) (iCL [1] [rV w1 (if Wd n21=true then JR n21 else [])] (Z2s (if Wd n21=true then JR n21 else []) [0,0,0,0] (hxl:=(by rw [ML hip];decide))) Cb (gL (v:=w1) 0 (gS gN)) (Qo Kf) ?_)
 rintro _ _ ⟨rfl,rfl⟩
 refine ir 1 [(2,.b (decide ((if Wd n21=true then JR n21 else [])=[0,0,0,0])))] (ie ?_)
 exact Zb (r2 [] [.b (decide ((if Wd n21=true then JR n21 else [])=[0,0,0,0]))] ⟨rfl,rfl⟩ (lb (decide_eq_true (ML hip))))
end Go.Abs
section
namespace Go.Proofs.YthllacimcjakdaaGreat.fnIsPlainCounts
open Go.ChangeShapes Go.WideShapes Go.ChangeAt Go.RowKit Go.Abs
theorem own:ownKnob Tryz.prog.godebug=none:=by kernel_rfl
theorem kids:Kids Tryz.prog (·<Tryz.prog.types.size):=kids_rows kr kr
theorem S5:∀t e,t<Tryz.prog.types.size->Tryz.prog.underlying t=some (.slice e)->0<Tryz.prog.cellsOf e:=slices_full_of Tryz.prog kr
theorem Nh {w w':World} {G G':Yc} {h':List Res} (hx:YU w G [] w' G' h'):∀b,b<w.heap.size->w'.heap[b]? = w.heap[b]?:=
 fun b hb=>(hx.same b hb).eq fun o ⟨r,hr,_⟩=>by cases hr
theorem Pi {w w':World} {b o:Nat} (h:w'.heap[b]? = w.heap[b]?):w'.cell? ⟨b,o,none⟩=w.cell? ⟨b,o,none⟩:=by simp [World.cell?,h]
theorem Z3a {t:Nat} (h:Nat.blt t Tryz.prog.types.size=true):t<Tryz.prog.types.size:=Nat.le_of_ble_eq_true h
set_option maxRecDepth 100000 in
theorem PO (H:Type) (enc:TypeId × Value->H) (W:World) (base:Nat) (args:Array Value) (ds gs:List (DataW H)) (before:List MemPlace) (hval:∀(j:Nat) t v,Tryz.f7.params[j]? = some t->args[j]? = some v->Value.okWide Tryz.prog W .any base t v)
  (hW:DataW.Whole enc Tryz.prog Tryz.f7.params.toList Rows.fnIsPlainCountsSpec.vars false W args.toList ds gs before) :
  Calls Tryz.prog 7 args W fun e W'=>∃v,e=.returned v/\Rows.fnIsPlainCountsSpec.post enc Tryz.prog Tryz.f7 false true false false W args v W':=by
 have hW':=hW
 obtain ⟨p,q,hA0,hV,rfl,hfz,hnd⟩:=hW
 have hA:DataW.TrodAll enc Tryz.prog W 0 (fun _=>true) true Tryz.f7.params.toList args.toList ds p:=hA0
 rw [Tryz.params7] at hA
 obtain ⟨v0,vs0,d0,ds0,p0,q0,hargs,rfl,rfl,h0,r0⟩:=trodAll_cons hA
 obtain ⟨rfl,rfl,rfl⟩:=trodAll_nil r0
 obtain rfl:args=#[v0]:=by cases args;simp_all
 obtain ⟨rfl,rfl⟩:=trodVars_none hV
 obtain ⟨fuel,htr⟩:=h0
 obtain ⟨qa,ql,qc,rfl⟩:=okWide_slice Tryz.underlying22 (hval 0 22 v0 kr rfl)
 obtain ⟨v1,code,hv1,hrv,hcb⟩:=Z4s htr
 have hv1:[Value.slice qa ql qc]=[v1]:=hv1
 cases hv1
 have hh:YB W (GA W) []:=⟨(fun r hr=>by cases hr),List.Pairwise.nil,(fun r hr=>by cases hr),fun b o hg=>hg⟩
 refine (Z2r code hcb W (GA W) [.slice qa ql qc] (.cons hrv .nil) hh).mono ?_
 rintro e W' ⟨v,r,h',G',rfl,⟨rfl,rfl⟩,hv,hh',hx⟩
 have hvb:=hv.val_inv
 subst hvb
 refine ⟨_,rfl,[d0],[],p0++[]++[],[],p0++[],[],hW',?_,?_,rfl,?_,(fun h=>by cases h)⟩
 ·exact trodAll_cons_mk (shut_bool Tryz.underlying4 _) trodAll_mk0
 ·have DO:∀b,b<W.heap.size->W'.heap[b]? = W.heap[b]?:=Nh hx
  have hlt:=hW'.lt
  have hcar:DataW.TrodAll enc Tryz.prog W' 0 (fun _=>true) true Tryz.f7.params.toList [.slice qa ql qc] [d0] (p0++[]):=by
   rw [Tryz.params7]
   refine ⟨p0,[],⟨fuel,DataW.trod_carry fuel 22 _ _ htr fun y hy=>?_⟩,rfl,rfl⟩
   have hyl:=hlt y (by simpa using hy)
   cases y with
   | cell b o=>exact Pi (DO b hyl)
   | map b=>exact DO b hyl
  exact DataW.TrodAll.respare kids S5 (by rw [Tryz.params7];intro t ht;rw [List.mem_singleton.1 ht];exact Z3a kr) hcar (fun y hy=>by have:=hlt y (by simpa using hy);simpa using this)
 ·refine ⟨hx.os,hx.output,fun i hi=>?_⟩
  rw [Nh hx i hi]
  cases W.heap[i]? with
  | none=>rfl
  | some o=>cases o<;>first | rfl | exact ⟨rfl,rfl,rfl,fun _ _=>rfl⟩ | exact .inr ⟨rfl,rfl⟩
set_option maxRecDepth 100000 in
theorem Z38 (os:Os) (started:os.Started) (H:Type) (enc:TypeId × Value->H) (F:Stop.Interp) :
  ReturnsInHanded {} Tryz.checked os 7 .any ((Rows.OpenSpec.upto Rows.fnIsPlainCountsSpec).pre6 enc Tryz.prog Tryz.f7 Rows.fnIsPlainCountsUptoRow.domain false) (((Rows.OpenSpec.upto Rows.fnIsPlainCountsSpec).at F).post enc Tryz.prog Tryz.f7 false true false false):=by
 refine returnsInHanded_of_cond (C:=Tryz.checked) (s:=Rows.OpenSpec.upto Rows.fnIsPlainCountsSpec) (k:=Rows.uptoSmall) rfl own started kr Tryz.func7
  (OpenSpec.witness (enc:=enc) (C:=Tryz.checked) (s:=Rows.OpenSpec.upto Rows.fnIsPlainCountsSpec) (k:=Rows.uptoSmall) rfl false ⟨#[],#[.slice none 0 0],[]⟩ 8 kr kr kr
   (x:=([.nil],[],[])) kr rfl kr) ?_
 intro W base args ds gs before hval hW _ hk _
 exact PO H enc W base args ds gs before hval hW
theorem OM {a b:Bool} (ha:a=true) (hb:b=true):(a&&b)=true:=by rw [ha,hb];rfl
set_option maxHeartbeats 4000000 in
theorem Pm:joinedFacts Tryz.pinned.checked.prog 7 Tryz.f7 (Rows.OpenSpec.upto Rows.fnIsPlainCountsSpec).bare Rows.fnIsPlainCountsUptoRow=true:=by
 unfold joinedFacts
 iterate 31 refine OM ?_ (by as_aux_lemma=>kernel_rfl)
 as_aux_lemma=>kernel_rfl
theorem Z4c:Rows.fnIsPlainCountsUptoRow.holds Tryz.pinned (Rows.OpenSpec.upto Rows.fnIsPlainCountsSpec):=
 OpenClaim.holds_of_cond 7 Tryz.f7 rfl rfl rfl rfl rfl rfl rfl ⟨rfl,rfl,rfl,rfl,rfl⟩ rfl rfl rfl rfl rfl (by as_aux_lemma=>kernel_rfl) Tryz.func7 Pm
  (of_decide_eq_true kr) (by unfold Func.isWrapper;first|(rw [if_pos (by decide +kernel)];kernel_rfl)|(rw [if_neg (by decide +kernel)];exact ⟨rfl,rfl⟩))
  (fun os started H enc _ F=>Z38 os started H enc F)
theorem proved:Rows.FnIsPlainCountsUptoSaid:=
 Z4c
#print axioms proved
end Go.Proofs.YthllacimcjakdaaGreat.fnIsPlainCounts
end
