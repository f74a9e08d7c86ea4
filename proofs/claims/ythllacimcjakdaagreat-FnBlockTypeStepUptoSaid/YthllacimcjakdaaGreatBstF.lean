/-
  FnBlockTypeStepUptoSaid: the law FnBlockTypeStep returns true at every argument of bulk at most 1048576, and the argument reads behind the call as it read before.
-/
import Derived.Test.YthllacimcjakdaaGreatBstE
import Derived.Test.YthllacimcjakdaaGreatRows
import Derived.WalkKit
import Derived.ProofKit
import Derived.OpenShut
import Derived.JoinedCond
import Derived.ReadAgain
set_option linter.all false
set_option linter.unusedVariables false
set_option linter.unusedSimpArgs false
set_option linter.unusedSectionVars false
set_option maxRecDepth 10000
set_option maxHeartbeats 4000000
namespace Go.Abs
open Go.Proofs
theorem Z0q (n:Zx) (t:Int) (hn:Xf n:=by exact ob):Zk Tryz.prog 131 [.agg [Zd n.decls,Xn n],.i t] [] (fun r h=>r=WF ((Zt n.decls t).map (Zw n.decls))/\h=[]):=by
 have Xu:=hn.decls
 have hcl:=GH Xu t
 refine ZL 26 Tryz.func131 (ar (iA [Zd n.decls,Xn n] ?_))
 intro b1
 refine ir 1 [(1,.i t),(2,.p b1 0)] (ie (ar (Z1 1 5 (nl) (ie (aq (ar (ZY 3 9 (Zd n.decls) 10 (.i t) [0] [b1] (Zz [] (Z0l n.decls t) (io (.i (((Zt n.decls t).length:Nat):Int)) (.i (((Z8 (Zt n.decls t)).length:Nat):Int)) (li (by rw [Yf])) (Z1 1 13 (.i 0) (ie (ab 0 (D8 1 (al (fun m F h=>∃(k:Nat) (v:Value),(k<=(Zt n.decls t).length)/\F=[(2,.p b1 0),(5,UY (((Zt n.decls t).take k).map (Zw n.decls)) v),(11,Z0 (Zt n.decls t)),(12,.i (((Zt n.decls t).length:Nat):Int)),(13,.i k)]/\h=[.obj b1 [Zd n.decls,Xn n],.tail v 1]/\m=(Zt n.decls t).length-k) _ _ _ ⟨0,(.slice none 0 0),ob,rfl,rfl,rfl⟩ (wk [1,0] (fr (fc (x:=nl) (Zg.slh _ rfl) (fw (Yh fl))))) ?_))))))))))))))
 rintro m F h ⟨k,v,Yo,rfl,rfl,rfl⟩
 refine ar (Z1 1 14 (.b (decide ((k:Int)<(((Zt n.decls t).length:Nat):Int)))) (ie (aq (ZT ((k:Int)<(((Zt n.decls t).length:Nat):Int)) (fun Ze=>?_) (fun Ze=>?_)))))
 ·refine ak (aq (ab 1 (ar ?_)))
  obtain ⟨x1,Z3⟩:=Zu (xs:=Zt n.decls t) (j:=k) om
  refine Zq (Zn none (k:Int) 1 (Y4 Z3)) (Z1 2 7 (.i x1) (ie (az (Y0 4 (.n 17 (UY (((Zt n.decls t).take k).map (Zw n.decls)) v) (.n 19 (Zd n.decls) (.n 20 (.i x1) .r))) [0] [b1] (Zz [] (Z0o n.decls x1 (hc:=(by have:=Pq Xu Z3;omega))) (iL (W7 [Zw n.decls x1]) 1 1 ?_))))))
  intro v1
  refine Z6 0 (.n 22 (WF [Zw n.decls x1]) (.p .r)) (ip 2 (W7 (((Zt n.decls t).take (k+1)).map (Zw n.decls))) (W7 (((Zt n.decls t).take k).map (Zw n.decls))) (W7 [Zw n.decls x1]) v none 1 (JW _) (JW _) (Dt _) (by simp;omega) (by rw [WS Z3];simp [W7]) ?_)
  intro v2
  refine Z6 1 (.n 5 (UY (((Zt n.decls t).take (k+1)).map (Zw n.decls)) v2) (.p (.d (.p (.d (.d (.d (.d (.p (.d (.k (.d .r)))))))))))) (ie (az (ZO k (Z6 1 (.n 13 (.i (k+1:Nat)) (.p (.w .z))) (ie ?_)))))
  have hdr:=Yd Z3
  exact ZU ⟨k+1,v2,ob,rfl,rfl,rfl⟩ (wk [2,0] (fq (ZW k fl)))
 refine ax 0 (ar (ir 2 [(4,UY (((Zt n.decls t).take k).map (Zw n.decls)) v)] (ie ?_)))
 exact Zc (r2 [] [UY (((Zt n.decls t).take k).map (Zw n.decls)) v] ⟨rfl,rfl⟩ (Zg.sl _ (Yw W7 (by rw [Vb om]))))
theorem Z0r (n:Zx) (op:Int) (num:Int) (ts:List Int) (hn:Xf n:=by exact ob) (hl_ts:ts.length<=4294967296:=by exact ob) (hnum:-9223372036854775808<=num/\num<=9223372036854775807:=by exact ob):Zk Tryz.prog 132 [.agg [Zd n.decls,Xn n],.i op,.i num,Z0 ts] [] (fun r h=>∃(t:Int),r=.tup [.i t,.b ((Xw n op num ts).isSome)]/\h=[]/\∀x,Xw n op num ts=some x->t=x):=by
 have Xu:=hn.decls
 have hrl:=hn.len
 have hcfl:(Zw n.decls num).length<=4294967296:=by have:=VN Xu num;omega
 have hdl:n.decls.length<=4294967296:=by have:=Xu.len;omega
 refine ZL 149 Tryz.func132 (ar (iA [Zd n.decls,Xn n] ?_))
 intro b1
 refine ir 2 [(1,.i op),(2,.i num),(3,Z0 ts),(4,.p b1 0)] (ie (ar (Z1 2 11 (.i 0) (ie (aq (ar (Z1 1 18 (.i op) (ie (ab 0 (ar (Z1 2 19 (.b (op==0)) (ie (ac (op==0) Zh (fun Ze=>?_) (fun Ze=>?_))))))))))))))
 ·refine ar (XH 6 [(3,Z0 ts),(26,.b ((decide (num>=(-999)))&&(decide (num<=999))))] [.obj b1 [Zd n.decls,Xn n]] ?_ (fun hj1=>?_))
  ·refine XH 11 [(31,.b (((decide (num>=(-999)))&&(decide (num<=999)))&&((ts.length:Int)==0)))] [.obj b1 [Zd n.decls,Xn n]] ?_ (fun hj2=>?_)
   ·refine ir 2 [(8,.i 0),(9,.b (((decide (num>=(-999)))&&(decide (num<=999)))&&((ts.length:Int)==0)))] (ie ?_)
    have hF:=sf0 (n:=n) (num:=num) (ts:=ts) Ze
    exact Zc (r2 [] [.i 0,.b (((decide (num>=(-999)))&&(decide (num<=999)))&&((ts.length:Int)==0))] ⟨0,rfl,rfl,(Ag hF)⟩ (Zg.tup (.cons (lr _) (.cons (lb (Af hF (by simp [*];try omega))) .nil))))
   refine ir 1 [(3,Z0 ts),(27,.b ((decide (num>=(-999)))&&(decide (num<=999))))] (ib (b:=((decide (num>=(-999)))&&(decide (num<=999)))) 27 (fun Zb=>?_) (fun Zb=>?_))
   ·have ZP:(num>=(-999))/\(num<=999):=((YF dq dq)).1 Zb
    refine Z6 1 (.n 28 (Z0 ts) (.k .z)) (iw (Yf ts) (ir 2 [(31,.b ((ts.length:Int)==0))] ?_))
    exact YC (wk [0] (Zs ((ts.length:Int)==0) Zb fl)) hj2
   have Y1:¬((num>=(-999))/\(num<=999)):=ZF (YF dq dq) Zb
   refine ir 4 [(31,.b false)] ?_
   exact YC (wk [0] (Zs false Zb fl)) hj2
  refine ir 3 [(2,.i num),(3,Z0 ts),(23,.b (decide (num>=(-999))))] (ib (b:=(decide (num>=(-999)))) 23 (fun Zv=>?_) (fun Zv=>?_))
  ·have YB:num>=(-999):=(dq).1 Zv
   refine ir 3 [(3,Z0 ts),(26,.b (decide (num<=999)))] ?_
   exact YC (wk [0] (fr (Zs (decide (num<=999)) Zv fl))) hj1
  have YM:¬(num>=(-999)):=ZF dq Zv
  refine ir 3 [(3,Z0 ts),(26,.b false)] ?_
  exact YC (wk [0] (fr (Zs false Zv fl))) hj1
 refine aq (ar (Z1 2 32 (.b (op==1)) (ie (XJ (fun F h=>F=[(1,.i op),(2,.i num),(3,Z0 ts),(4,.p b1 0),(11,.i 0),(18,.i op),(32,.b ((op==1)||((op==2)||((op==3)||(op==4)))))]/\h=[.obj b1 [Zd n.decls,Xn n]]) ?_ ?_))))
 ·refine ac (op==1) Zh (fun Zl=>?_) (fun Zl=>?_)
  ·refine ak ?_
   exact ZV ⟨rfl,rfl⟩ (wk [0] (fq (fw (fc (x:=.b (op==1)) (lb (by first|rfl|(rw [Zj Zl])|(rw [Za Zl])|(simp [Zl];done)|(rw [Xo];simp [Zl];done)|omega)) fl))))
  refine ar (ir 2 [(1,.i op),(2,.i num),(3,Z0 ts),(4,.p b1 0),(11,.i 0),(18,.i op),(32,.b (op==2))] (ie (ac (op==2) Zh (fun ZI=>?_) (fun ZI=>?_))))
  ·refine ak ?_
   exact ZV ⟨rfl,rfl⟩ (wk [0] (fq (fw (fc (x:=.b (op==2)) (lb (by first|rfl|(rw [Zj Zl])|(rw [Za Zl])|(simp [Zl,ZI];done)|(rw [Xo];simp [Zl,ZI];done)|omega)) fl))))
  refine ar (Z6 2 (.n 32 (.b (op==3)) (.w (.k (.k .z)))) (ie (ac (op==3) Zh (fun Yi=>?_) (fun Yi=>?_))))
  ·refine ak ?_
   exact ZV ⟨rfl,rfl⟩ (wk [0] (fq (fw (fc (x:=.b (op==3)) (lb (by first|rfl|(rw [Zj Zl])|(rw [Za Zl])|(simp [Zl,ZI,Yi];done)|(rw [Xo];simp [Zl,ZI,Yi];done)|omega)) fl))))
  refine az (Z6 2 (.n 32 (.b (op==4)) (.d .r)) (ie ?_))
  exact ZV ⟨rfl,rfl⟩ (wk [0] (fq (fw (fc (x:=.b (op==4)) (lb (by first|rfl|(rw [Zj Zl])|(rw [Za Zl])|(simp [Zl,ZI,Yi];done)|(rw [Xo];simp [Zl,ZI,Yi];done)|omega)) fl))))
 rintro F h ⟨rfl,rfl⟩
 refine ac ((op==1)||((op==2)||((op==3)||(op==4)))) (p:=(op=1)∨((op=2)∨((op=3)∨(op=4)))) (Yc Zh (Yc Zh (Yc Zh Zh))) (fun Xk=>?_) (fun Xk=>?_)
 ·refine az (iL (Z8 [0,0]) 2 1 ?_)
  intro v1
  refine ir 1 [(2,.i num),(3,Z0 ts),(10,Z7 [0,0] v1),(11,.i 0)] (ie (ar (XH 8 [(141,.i 0),(148,.b ((num==0)&&(decide (ts=[0,0]))))] [.tail v1 1,.obj b1 [Zd n.decls,Xn n]] ?_ (fun hj3=>?_))))
  ·refine ir 2 [(8,.i 0),(9,.b ((num==0)&&(decide (ts=[0,0]))))] (ie ?_)
   have hF:=sf1 (n:=n) (num:=num) (ts:=ts) Xk
   exact Zc (r2 [] [.i 0,.b ((num==0)&&(decide (ts=[0,0])))] ⟨0,rfl,rfl,(Ag hF)⟩ (Zg.tup (.cons (lr _) (.cons (lb (Af hF (by simp [*];try omega))) .nil))))
  refine ir 4 [(3,Z0 ts),(10,Z7 [0,0] v1),(141,.i 0),(144,.b (num==0))] (ib (b:=(num==0)) 144 (fun Yx=>?_) (fun Yx=>?_))
  ·have YX:num=0:=(Zh).1 Yx
   refine Z6 2 (.n 145 (Z0 ts) (.n 146 (Z0 [0,0]) (.k (.d (.d (.k .z)))))) (Zz [] (CQ ts [0,0]) (Z1 1 148 (.b (decide (ts=[0,0]))) ?_))
   exact YC (wk [0,0] (fr (Zs (decide (ts=[0,0])) Yx fl))) hj3
  have Xv:¬(num=0):=ZF Zh Yx
  refine ir 4 [(141,.i 0),(148,.b false)] ?_
  exact YC (wk [0,0] (fr (Zs false Yx fl))) hj3
 refine ar (ir 2 [(1,.i op),(2,.i num),(3,Z0 ts),(4,.p b1 0),(11,.i 0),(18,.i op),(38,.b (op==5))] (ie (ac (op==5) Zh (fun Xl=>?_) (fun Xl=>?_))))
 ·refine az (iL (Z8 [0]) 1 1 ?_)
  intro v2
  refine Z1 1 10 (Z7 [0] v2) (ie (ar (XH 8 [(141,.i 0),(148,.b ((num==0)&&(decide (ts=[0]))))] [.tail v2 1,.obj b1 [Zd n.decls,Xn n]] ?_ (fun hj4=>?_))))
  ·refine ir 2 [(8,.i 0),(9,.b ((num==0)&&(decide (ts=[0]))))] (ie ?_)
   have hF:=sf5 (n:=n) (num:=num) (ts:=ts) Xl
   exact Zc (r2 [] [.i 0,.b ((num==0)&&(decide (ts=[0])))] ⟨0,rfl,rfl,(Ag hF)⟩ (Zg.tup (.cons (lr _) (.cons (lb (Af hF (by simp [*];try omega))) .nil))))
  refine ir 4 [(3,Z0 ts),(10,Z7 [0] v2),(141,.i 0),(144,.b (num==0))] (ib (b:=(num==0)) 144 (fun Xh=>?_) (fun Xh=>?_))
  ·have Wb:num=0:=(Zh).1 Xh
   refine Z6 2 (.n 145 (Z0 ts) (.n 146 (Z0 [0]) (.k (.d (.d (.k .z)))))) (Zz [] (CQ ts [0]) (Z1 1 148 (.b (decide (ts=[0]))) ?_))
   exact YC (wk [0,0] (fr (Zs (decide (ts=[0])) Xh fl))) hj4
  have WE:¬(num=0):=ZF Zh Xh
  refine ir 4 [(141,.i 0),(148,.b false)] ?_
  exact YC (wk [0,0] (fr (Zs false Xh fl))) hj4
 refine ar (Z1 2 41 (.b (op==11)) (ie (ac (op==11) Zh (fun Vv=>?_) (fun Vv=>?_))))
 ·refine aq (ar (Z1 1 43 (Z0 ts) (iw (Yf ts) (Z1 1 45 (.b ((ts.length:Int) != 2)) (ie (ac ((ts.length:Int) != 2) Yg (fun Vq=>?_) (fun Vq=>?_)))))))
  ·refine ar (ir 2 [(8,.i (-1)),(9,.b false)] (ie ?_))
   have hF:=Z4r (n:=n) (num:=num) Vv Vq
   exact Zc (r2 [] [.i (-1),.b false] ⟨(-1),rfl,rfl,(CP hF)⟩ (Zg.tup (.cons (lr _) (.cons (lb (CO hF)) .nil))))
  refine ak (aD 12 (Y5 9 12 [0,1,2] (.n 48 (Zd n.decls) (.n 49 (Z0 ts) .r)) [0] [b1] ?_))
  obtain ⟨x1,Z3⟩:=Zu (xs:=ts) (j:=0) om
  refine dx 3 (Zn none 0 1 (Y4 Z3)) (ZX 7 8 [4] 51 (.i x1) (dK (fun F h=>∃(b2:Nat),F=[(2,.i num),(3,Z0 ts),(12,.p b2 0),(13,.b (X7 n.decls x1))]/\h=[.obj b2 (Wy (Wv n.decls x1)),.obj b1 [Zd n.decls,Xn n]]) ?_ ?_))
  ·refine Vk 5 9 ?_ ?_
   ·refine Yv 5 [] [] [] (DS n.decls x1) (Xd 3 6 [6,7,8] [(2,.i num),(3,Z0 ts),(53,Ul (Wv n.decls x1)),(54,.b (X7 n.decls x1))] (Z9 9 (dA 9 [] [] [.i 0,.i 0,nl] ?_)))
    intro b2
    refine Z9 10 (YG 10 0 [] [] b2 (Wy (Wv n.decls x1)) (ZX 0 1 [11] 13 (.b (X7 n.decls x1)) (de ?_)))
    exact ZV ⟨b2,rfl,rfl⟩ (wk [0,0] fl)
   refine dA 9 [0] [b1] [.i 0,.i 0,nl] ?_
   intro b3
   refine Z9 5 (Yv 5 [] [] [] (DS n.decls x1) (Xd 2 5 [6,7,8] [(2,.i num),(3,Z0 ts),(12,.p b3 0),(53,Ul (Wv n.decls x1)),(54,.b (X7 n.decls x1))] (Z9 10 (YG 10 0 [] [] b3 (Wy (Wv n.decls x1)) (ZX 0 1 [11] 13 (.b (X7 n.decls x1)) (de ?_))))))
   exact ZV ⟨b3,rfl,rfl⟩ (wk [0,0] fl)
  rintro F h ⟨b2,rfl,rfl⟩
  refine aD 17 (W2 13 17 [0,1,2,3] [(2,.i num),(3,Z0 ts),(12,.p b2 0),(56,.i ((Wv n.decls x1).to_)),(58,.b (X7 n.decls x1))] [0] [b2] (db (b:=X7 n.decls x1) 58 (fun W9=>?_) (fun W9=>?_)))
  ·have WR:X7 n.decls x1=true:=(Iff.rfl).1 W9
   refine ZZ 12 13 [4] (.n 59 (Z0 ts) (.k (.k (.d (.k (.k .z)))))) ?_
   obtain ⟨x2,Zy⟩:=Zu (xs:=ts) (j:=1) om
   refine dx 5 (Zn none 1 1 (Y4 Zy)) (Y5 4 11 [6,7,8,9,10,11,15] (.n 8 (.i ((Wv n.decls x1).to_)) (.n 66 (.b (x2==((Wv n.decls x1).frm))) .r)) [0] [b2] (db (b:=(x2==((Wv n.decls x1).frm))) 66 (fun Wx=>?_) (fun Wx=>?_)))
   ·have Uc:x2=((Wv n.decls x1).frm):=(Zh).1 Wx
    refine ZZ 0 4 [12,13,14,16] (.n 9 (.b (num==0)) (.d (.k .z))) (de ?_)
    have hF:=H4 (n:=n) (num:=num) Vv Vq Z3 Zy
    exact Zc (r2 [] [.i ((Wv n.decls x1).to_),.b (num==0)] ⟨(Wv n.decls x1).to_,rfl,rfl,(Ag hF)⟩ (Zg.tup (.cons (lr _) (.cons (lb (Af hF (by simp [*];try omega))) .nil))))
   have UH:¬(x2=((Wv n.decls x1).frm)):=ZF Zh Wx
   refine ZZ 0 4 [12,13,14,16] (.n 9 (.b false) (.d (.k .z))) (de ?_)
   have hF:=H4 (n:=n) (num:=num) Vv Vq Z3 Zy
   exact Zc (r2 [] [.i ((Wv n.decls x1).to_),.b false] ⟨(Wv n.decls x1).to_,rfl,rfl,(Ag hF)⟩ (Zg.tup (.cons (lr _) (.cons (lb (Af hF (by simp [*]))) .nil))))
  have Uv:¬(X7 n.decls x1=true):=ZF Iff.rfl W9
  refine Xd 0 13 [4,5,6,7,8,9,10,11,12,13,14,15,16] [(8,.i ((Wv n.decls x1).to_)),(9,.b false)] (de ?_)
  have hF:=Z4q (n:=n) (num:=num) Vv Vq Z3 (by assumption)
  exact Zc (r2 [] [.i ((Wv n.decls x1).to_),.b false] ⟨(Wv n.decls x1).to_,rfl,rfl,(CP hF)⟩ (Zg.tup (.cons (lr _) (.cons (lb (CO hF)) .nil))))
 refine ar (Z1 2 70 (.b (op==6)) (ie (ac (op==6) Zh (fun VH=>?_) (fun VH=>?_))))
 ·refine ar (ZY 3 74 (Zd n.decls) 75 (.i num) [0] [b1] (Zz [] (Lq n.decls num) (Yq 3 77 (.i (Xt n.decls num)) 78 (.agg [Z0 (Zw n.decls num)]) (iA [nl] ?_))))
  intro b4
  refine Z1 1 14 (.i (Xt n.decls num)) (ZG 0 b4 [Z0 (Zw n.decls num)] (ie (ar (XH 9 [(79,.i (Xt n.decls num)),(87,.b ((decide ((Xt n.decls num)>=0))&&(decide (ts=(Zw n.decls num)))))] [.obj b4 [Z0 (Zw n.decls num)],.obj b1 [Zd n.decls,Xn n]] ?_ (fun hj5=>?_)))))
  ·refine ir 2 [(8,.i (Xt n.decls num)),(9,.b ((decide ((Xt n.decls num)>=0))&&(decide (ts=(Zw n.decls num)))))] (ie ?_)
   have hF:=sf6 (n:=n) (num:=num) (ts:=ts) VH
   exact Zc (r2 [] [.i (Xt n.decls num),.b ((decide ((Xt n.decls num)>=0))&&(decide (ts=(Zw n.decls num))))] ⟨Xt n.decls num,rfl,rfl,(Ag hF)⟩ (Zg.tup (.cons (lr _) (.cons (lb (Af hF (by simp [*];try omega))) .nil))))
  refine ir 4 [(3,Z0 ts),(15,.p b4 0),(79,.i (Xt n.decls num)),(82,.b (decide ((Xt n.decls num)>=0)))] (ib (b:=(decide ((Xt n.decls num)>=0))) 82 (fun WZ=>?_) (fun WZ=>?_))
  ·have Tt:(Xt n.decls num)>=0:=(dq).1 WZ
   refine Y0 3 (.n 83 (Z0 ts) (.n 85 (Z0 (Zw n.decls num)) (.k (.d (.d (.k .z)))))) [0] [b4] (Zz [] (CQ ts (Zw n.decls num)) (Z1 1 87 (.b (decide (ts=(Zw n.decls num)))) ?_))
   exact YC (wk [0,0] (fr (Zs (decide (ts=(Zw n.decls num))) WZ fl))) hj5
  have Ta:¬((Xt n.decls num)>=0):=ZF dq WZ
  refine Z6 5 (.n 87 (.b false) (.d (.d (.d (.k .z))))) ?_
  exact YC (wk [0,0] (fr (Zs false WZ fl))) hj5
 refine aq (ar (Z1 2 88 (.b (op==9)) (ie (XJ (fun F h=>F=[(1,.i op),(2,.i num),(3,Z0 ts),(4,.p b1 0),(88,.b ((op==9)||(op==10)))]/\h=[.obj b1 [Zd n.decls,Xn n]]) ?_ ?_))))
 ·refine ac (op==9) Zh (fun UG=>?_) (fun UG=>?_)
  ·refine ak ?_
   exact ZV ⟨rfl,rfl⟩ (wk [0] (fq (fc (x:=.b (op==9)) (lb (by first|rfl|(rw [Zj UG])|(rw [Za UG])|(simp [UG];done)|(rw [Xo];simp [UG];done)|omega)) fl)))
  refine az (ir 2 [(1,.i op),(2,.i num),(3,Z0 ts),(4,.p b1 0),(88,.b (op==10))] (ie ?_))
  exact ZV ⟨rfl,rfl⟩ (wk [0] (fq (fc (x:=.b (op==10)) (lb (by first|rfl|(rw [Zj UG])|(rw [Za UG])|(simp [UG];done)|(rw [Xo];simp [UG];done)|omega)) fl)))
 rintro F h ⟨rfl,rfl⟩
 refine ac ((op==9)||(op==10)) (p:=(op=9)∨(op=10)) (Yc Zh Zh) (fun K9=>?_) (fun K9=>?_)
 ·refine aq (ar (Xm [(1,.i op),(2,.i num),(3,Z0 ts),(4,.p b1 0),(99,.b ((decide (num<0))||(decide (num>=(((n.routines.map XB).length:Nat):Int)))))] [.obj b1 [Zd n.decls,Xn n]] ?_ ?_))
  ·refine ir 3 [(1,.i op),(2,.i num),(3,Z0 ts),(4,.p b1 0),(93,.b (decide (num<0)))] (ib (b:=(decide (num<0))) 93 (fun WL=>?_) (fun WL=>?_))
   ·have QF:num<0:=(dq).1 WL
    refine Z6 6 (.n 99 (.b true) (.d (.w .z))) (ie ?_)
    exact wk [0] (fq (Zs true WL fl))
   have QG:¬(num<0):=ZF dq WL
   refine Y0 3 (.n 94 (.i num) (.n 96 (Xn n) (.w (.k .z)))) [0] [b1] (io (.i (((n.routines.map XB).length:Nat):Int)) (.i (((UE (n.routines.map XB)).length:Nat):Int)) (li (by rw [C8])) (Z1 2 99 (.b (decide (num>=(((n.routines.map XB).length:Nat):Int)))) (ie ?_)))
   exact wk [0] (fq (Zs (decide (num>=(((n.routines.map XB).length:Nat):Int))) WL fl))
  refine ac ((decide (num<0))||(decide (num>=(((n.routines.map XB).length:Nat):Int)))) (p:=(num<0)∨(num>=(((n.routines.map XB).length:Nat):Int))) (Yc dq dq) (fun T9=>?_) (fun T9=>?_)
  ·refine ar (ir 2 [(8,.i (-1)),(9,.b false)] (ie ?_))
   have hF:=Z4s (n:=n) (ts:=ts) K9 T9
   exact Zc (r2 [] [.i (-1),.b false] ⟨(-1),rfl,rfl,(CP hF)⟩ (Zg.tup (.cons (lr _) (.cons (lb (CO hF)) .nil))))
  refine ak (aD 14 (W2 11 14 [0,1,2] [(1,.i op),(2,.i num),(3,Z0 ts),(4,.p b1 0),(101,Xn n),(102,.i num)] [0] [b1] ?_))
  obtain ⟨x3,YT⟩:=Zu (xs:=(n.routines.map XB)) (j:=num.toNat) om
  obtain ⟨r,hr,hrx⟩:=Er YT
  have hrp:=hn.params_at hr
  have hpx:x3.pms=r.params:=by rw [hrx];rfl
  have hpl:x3.pms.length<=3:=by rw [hpx];exact hrp
  refine dx 3 (Zn none num 3 (Bp YT)) (Y5 5 10 [4,5,6,7,8] (.n 105 (Z0 x3.pms) (.n 107 (Xn n) (.n 108 (.i num) .r))) [0] [b1] (dx 9 (Zn none num 3 (Bp YT)) (ZZ 0 4 [10,11,12,13] (.n 10 (Z0 x3.pms) (.n 11 (.i x3.res) .r)) (de (aq (ar (Z1 2 113 (.b (op==9)) (ie (ac (op==9) Zh (fun QE=>?_) (fun QE=>?_))))))))))
  ·refine ar (ir 3 [(114,.i x3.res),(115,Z0 ts),(116,Z0 x3.pms)] (Zz [] (CQ ts x3.pms) (ir 2 [(8,.i x3.res),(9,.b (decide (ts=x3.pms)))] (ie ?_))))
   have hF:=sf9 (ts:=ts) QE T9 YT
   exact Zc (r2 [] [.i x3.res,.b (decide (ts=x3.pms))] ⟨x3.res,rfl,rfl,(Ag hF)⟩ (Zg.tup (.cons (lr _) (.cons (lb (Af hF (by simp [*];try omega))) .nil))))
  refine ak (ar (Z1 1 118 (Z0 x3.pms) (iw (Yf x3.pms) (ia (((x3.pms.length:Int)-1)) (((x3.pms.length:Int))-(1)) (Z1 1 16 (.i ((x3.pms.length:Int)-1)) (ie (aq (ar (Z1 2 122 (.b (decide (((x3.pms.length:Int)-1)<0))) (ie (ZT (((x3.pms.length:Int)-1)<0) (fun AP=>?_) (fun AP=>?_))))))))))))
  ·refine ar (ir 2 [(8,.i (-1)),(9,.b false)] (ie ?_))
   have hF:=Z4p (ts:=ts) (K9.resolve_left QE) T9 YT AP
   exact Zc (r2 [] [.i (-1),.b false] ⟨(-1),rfl,rfl,(CP hF)⟩ (Zg.tup (.cons (lr _) (.cons (lb (CO hF)) .nil))))
  refine ak (aD 9 (Y5 5 9 [0,1,2,3] (.n 124 (Zd n.decls) (.n 125 (Z0 x3.pms) (.n 126 (.i ((x3.pms.length:Int)-1)) .r))) [0] [b1] ?_))
  obtain ⟨x4,Ud⟩:=Zu (xs:=x3.pms) (j:=((x3.pms.length:Int)-1).toNat) om
  refine dx 4 (Zn none ((x3.pms.length:Int)-1) 1 (Y4 Ud)) (ZZ 2 4 [5,6] (.n 128 (.i x4) (.n 129 (.i x3.res) .r)) (Z9 7 (Yv 7 [] [] [] (Z0g n.decls x4 x3.res) (ZX 0 1 [8] 17 (.i (WX n.decls x4 x3.res)) (de (ar (XH 10 [(131,.i (WX n.decls x4 x3.res)),(140,.b ((decide ((WX n.decls x4 x3.res)>=0))&&(decide (ts=(x3.pms.take (((x3.pms.length:Int)-1).toNat))))))] [.obj b1 [Zd n.decls,Xn n]] ?_ (fun hj6=>?_))))))))
  ·refine ir 2 [(8,.i (WX n.decls x4 x3.res)),(9,.b ((decide ((WX n.decls x4 x3.res)>=0))&&(decide (ts=(x3.pms.take (((x3.pms.length:Int)-1).toNat))))))] (ie ?_)
   have hF:=Z4o (ts:=ts) (K9.resolve_left QE) T9 YT AP Ud
   exact Zc (r2 [] [.i (WX n.decls x4 x3.res),.b ((decide ((WX n.decls x4 x3.res)>=0))&&(decide (ts=(x3.pms.take (((x3.pms.length:Int)-1).toNat)))))] ⟨WX n.decls x4 x3.res,rfl,rfl,(Ag hF)⟩ (Zg.tup (.cons (lr _) (.cons (lb (Af hF (by rw [Xo];simp))) .nil))))
  refine ir 4 [(3,Z0 ts),(10,Z0 x3.pms),(16,.i ((x3.pms.length:Int)-1)),(131,.i (WX n.decls x4 x3.res)),(134,.b (decide ((WX n.decls x4 x3.res)>=0)))] (ib (b:=(decide ((WX n.decls x4 x3.res)>=0))) 134 (fun WM=>?_) (fun WM=>?_))
  ·have Jk:(WX n.decls x4 x3.res)>=0:=(dq).1 WM
   refine Z6 3 (.n 135 (Z0 ts) (.n 136 (Z0 x3.pms) (.n 137 (.i ((x3.pms.length:Int)-1)) (.k (.d (.d (.d (.k .z)))))))) (Zq (Qo (es:=Z8 x3.pms) (hv:=none) (l:=0) (m:=((x3.pms.length:Int)-1)) (sz:=1) (es':=Z8 (x3.pms.take (((x3.pms.length:Int)-1).toNat))) kr om (by simp<;>omega) (by simp<;>omega) (YE _) (by first|(simp only [Vh,WP,Kx,J9];done)|(simp only [Vh,WP,Kx,J9];rfl)|(simp [Kx,J9];done))) (Zz [] (CQ ts (x3.pms.take (((x3.pms.length:Int)-1).toNat))) (Z1 1 140 (.b (decide (ts=(x3.pms.take (((x3.pms.length:Int)-1).toNat))))) ?_)))
   exact YC (wk [0] (fr (Zs (decide (ts=(x3.pms.take (((x3.pms.length:Int)-1).toNat)))) WM fl))) hj6
  have QH:¬((WX n.decls x4 x3.res)>=0):=ZF dq WM
  refine Z6 6 (.n 140 (.b false) (.d (.d (.d (.d (.k .z)))))) ?_
  exact YC (wk [0] (fr (Zs false WM fl))) hj6
 refine ar (ir 2 [(8,.i (-1)),(9,.b false)] (ie ?_))
 have hF:=sfd (n:=n) (num:=num) (ts:=ts) Ze Xk Xl Vv VH K9
 exact Zc (r2 [] [.i (-1),.b false] ⟨(-1),rfl,rfl,(CP hF)⟩ (Zg.tup (.cons (lr _) (.cons (lb (CO hF)) .nil))))
theorem Ls (n:Zx) (us:List Int) (ks:List Z5) (ms:List (List Int)) (hn:Xf n:=by exact ob) (hnn:∀t∈us,0<=t) (hk:0<ks.length:=by exact ob) (hl:ks.length=ms.length:=by exact ob) (hb:us.length+3+4*YW ks<=1000000000:=by exact ob) (hr:TA ks:=by exact ob) (hm3:∀m∈ms,m.length<=3) (hmn:∀m∈ms,∀f∈m,0<=f) (ih:∀(b:Z5) (us:List Int),(b.sz<=YW ks)->(us.length+4*b.sz<=1000000000)->(b.rng)->(∀t∈us,0<=t)->Zk Tryz.prog 56 [.agg [Zd n.decls,Xn n],Z0 us,Zr b] [] (fun r h=>r=.i (YR n us b)/\h=[])):Zk Tryz.prog 130 [.agg [Zd n.decls,Xn n],Z0 us,Yz ks,WF ms] [] (fun r h=>r=.tup [.i (Wk n us ks ms true 0),.b (decide (0<=Wk n us ks ms true 0))]/\h=[]):=by
 have hkl:=I5 ks
 refine ZL 45 Tryz.func130 (ar (iA [Zd n.decls,Xn n] ?_))
 intro b1
 refine ir 2 [(1,Z0 us),(2,Yz ks),(3,WF ms),(4,.p b1 0)] (ie (ar (Z1 1 10 (.i (-1)) (ie (aq (ar (Z1 1 14 (Yz ks) (iw (U1 ks) (Z1 1 16 (.i 0) (ie (ab 0 (al (fun m F h=>∃(k:Nat) (t:Int),(k<=ks.length)/\(0<k->0<=t)/\(Wk n us (ks.drop k) (ms.drop k) (decide (k=0)) t=Wk n us ks ms true 0)/\F=[(1,Z0 us),(3,WF ms),(4,.p b1 0),(10,.i t),(14,Yz ks),(15,.i ks.length),(16,.i k)]/\h=[.obj b1 [Zd n.decls,Xn n]]/\m=ks.length-k) _ _ _ ⟨0,(-1),ob,ob,(Z1i hk (-1)),rfl,rfl,rfl⟩ (wk [0] (fq (fw (Yh fl)))) ?_))))))))))))
 rintro m F h ⟨k,t,Yo,Zp,ZA,rfl,rfl,rfl⟩
 refine ar (Z1 1 17 (.b (decide ((k:Int)<(ks.length:Int)))) (ie (aq (ZT ((k:Int)<(ks.length:Int)) (fun Ze=>?_) (fun Ze=>?_)))))
 ·refine ak (aq (ab 1 (ar (Z1 1 18 (.i k) ?_))))
  obtain ⟨x1,Z3⟩:=Zu (xs:=ks) (j:=k) om
  have ZD:=I6 Z3
  have hbr:=I4 hr Z3
  refine Zq (Zn none (k:Int) 2 (UD Z3)) (Z1 1 20 (Zr x1) (iA [nl,.i 0] ?_))
  intro b2
  refine Z1 1 11 (.i k) (ZG 0 b2 (Y8 x1) (ie (aD 11 (Y5 7 11 [0,1,2,3] (.n 21 (.agg [Zd n.decls,Xn n]) (.n 22 (Z0 us) (.n 23 (WF ms) (.n 24 (.i k) .r)))) [1] [b1] ?_))))
  obtain ⟨x2,Zy⟩:=Zu (xs:=ms) (j:=k) om
  have hxl:=hm3 x2 (Y7 Zy)
  have hxn:=hmn x2 (Y7 Zy)
  refine dx 4 (Zn none (k:Int) 1 (Dr Zy)) (Y5 4 6 [5,8] (.n 26 (Z0 x2) (.n 29 (Zr x1) .r)) [0] [b2] (Z9 6 (dL 6 [0,1] [b2,b1] (W7 [us,x2]) 2 1 ?_)))
  intro v1
  refine ZZ 3 3 [] (.n 27 (WF [us,x2]) (.p .r)) (Z9 7 (dc 7 [] [0,1] [b2,b1] (Z4w [us,x2] (hf:=(by simp only [CU,Yu];omega))) ?_))
  rintro _ _ ⟨v2,rfl,rfl⟩
  refine ZZ 2 2 [] (.n 28 (Z0 ([us,x2].flatten)) (.p .r)) (Z9 9 (Yv 9 [] [] [] (ih x1 ([us,x2].flatten) ob (by simp only [CU,Yu];omega) ob (by rw [CU];exact M5 hnn hxn)) (ZX 0 1 [10] 13 (.i (YR n ([us,x2].flatten) x1)) (de (aq (ar (Xm [(1,Z0 us),(3,WF ms),(4,.p b1 0),(13,.i (YR n ([us,x2].flatten) x1)),(14,Yz ks),(15,.i ks.length),(16,.i k),(41,.b ((decide ((YR n ([us,x2].flatten) x1)<0))||((decide ((k:Int)>0))&&((YR n ([us,x2].flatten) x1) != t))))] [.tail v2 1,.tail v1 1,.obj b2 (Y8 x1),.obj b1 [Zd n.decls,Xn n]] ?_ ?_)))))))
  ·refine ir 3 [(1,Z0 us),(3,WF ms),(4,.p b1 0),(10,.i t),(11,.i k),(13,.i (YR n ([us,x2].flatten) x1)),(14,Yz ks),(15,.i ks.length),(16,.i k),(33,.b (decide ((YR n ([us,x2].flatten) x1)<0)))] (ib (b:=(decide ((YR n ([us,x2].flatten) x1)<0))) 33 (fun Zb=>?_) (fun Zb=>?_))
   ·have ZP:(YR n ([us,x2].flatten) x1)<0:=(dq).1 Zb
    refine Z6 8 (.n 41 (.b true) (.d (.k (.k (.k (.d (.d (.w .z)))))))) (ie ?_)
    exact ZK 4 (fq (fw (fr (Zs true Zb fl))))
   have Y1:¬((YR n ([us,x2].flatten) x1)<0):=ZF dq Zb
   refine Z6 3 (.n 36 (.b (decide ((k:Int)>0))) (.w (.k (.d (.w .z))))) (ib (b:=(decide ((k:Int)>0))) 36 (fun Zv=>?_) (fun Zv=>?_))
   ·have YB:(k:Int)>0:=(dq).1 Zv
    refine Z6 5 (.n 41 (.b ((YR n ([us,x2].flatten) x1) != t)) (.k (.d .r))) (ie ?_)
    exact ZK 4 (fq (fw (fr (Zs ((YR n ([us,x2].flatten) x1) != t) (And.intro Zb Zv) fl))))
   have YM:¬((k:Int)>0):=ZF dq Zv
   refine Z6 5 (.n 41 (.b false) (.k (.d .r))) (ie ?_)
   exact ZK 4 (fq (fw (fr (Zs false (And.intro Zb Zv) fl))))
  refine ac ((decide ((YR n ([us,x2].flatten) x1)<0))||((decide ((k:Int)>0))&&((YR n ([us,x2].flatten) x1) != t))) (p:=((YR n ([us,x2].flatten) x1)<0)∨(((k:Int)>0)/\((YR n ([us,x2].flatten) x1)≠t))) (Yc dq (YF dq Yg)) (fun Zl=>?_) (fun Zl=>?_)
  ·refine ar (ir 2 [(8,.i (-1)),(9,.b false)] (ie ?_))
   have hK:Wk n us ks ms true 0=-1:=by rw [<-ZA];rw [CU] at Zl;exact LK Z3 Zy Zl
   exact Zc (r2 [] [.i (-1),.b false] ⟨rfl,rfl⟩ (Zg.tup (.cons (li (by rw [hK])) (.cons (lb (by rw [hK];rfl)) .nil))))
  refine ak (az (ir 2 [(1,Z0 us),(3,WF ms),(4,.p b1 0),(10,.i (YR n ([us,x2].flatten) x1)),(14,Yz ks),(15,.i ks.length),(16,.i k)] (ie (az (ZO k (Z6 1 (.n 16 (.i (k+1:Nat)) (.p (.w (.k (.k .z))))) (ie ?_)))))))
  exact ZU ⟨k+1,YR n ([us,x2].flatten) x1,ob,(by intro _;omega),(by rw [CU] at Zl ⊢;rw [<-ZA];exact (LM Z3 Zy Zl).symm),rfl,rfl,rfl⟩ (wk [3] (fq (fw (ZW k fl))))
 refine ax 0 (ar (ir 3 [(8,.i t),(9,.b true)] (ie ?_)))
 have hK:Wk n us ks ms true 0=t:=by rw [<-ZA];exact LL om
 exact Zc (r2 [] [.i t,.b true] ⟨rfl,rfl⟩ (Zg.tup (.cons (li (by rw [hK])) (.cons (lb (by rw [hK];exact (decide_eq_true (Zp om)).symm)) .nil))))
theorem Z0s (n:Zx) (us:List Int) (s:Z4) (hn:Xf n) (hty:Bc n) (hnn:∀t∈us,0<=t) (hb:us.length+4*s.sz<=1000000000) (hr:s.rng) (ih:∀(b:Z5) (us:List Int),(b.sz<s.sz)->(us.length+4*b.sz<=1000000000)->(b.rng)->(∀t∈us,0<=t)->Zk Tryz.prog 56 [.agg [Zd n.decls,Xn n],Z0 us,Zr b] [] (fun r h=>r=.i (YR n us b)/\h=[])):Zk Tryz.prog 93 [.agg [Zd n.decls,Xn n],Z0 us,Y2 s] [] (fun r h=>∃(t:Int),r=.tup [.i t,.b (decide (0<=ZJ n us s))]/\h=[]/\(¬Ym s.op=true->0<=ZJ n us s->t=ZJ n us s)):=by
 have Xu:=hn.decls
 have hkz:=Td s
 have haz:=Qa s
 have hse:=s.sz_eq
 rw [s.rng_eq] at hr
 obtain ⟨hnum,hkr⟩:=hr
 refine ZL 233 Tryz.func93 (ar (iA [Zd n.decls,Xn n] ?_))
 intro b1
 refine iA (Ye s) ?_
 intro b2
 refine ir 2 [(1,Z0 us),(3,.p b1 0),(5,.p b2 0)] (ie (ar (Yn 2 16 (Z0 s.args) [0] [b2] (iw (Yf s.args) (iM 0 s.args.length ?_)))))
 intro v1
 refine Z1 1 8 (Z7 [] v1) (ie (aq (ar (Yn 2 20 (Z0 s.args) [1] [b2] (iw (Yf s.args) (Z1 1 22 (.i 0) (ie (ab 0 (al (fun m F h=>∃(k:Nat) (ts:List Int) (v:Value),(k<=s.args.length)/\(ts.length=k)/\(W0 us (s.args.take k)=some ts)/\F=[(1,Z0 us),(3,.p b1 0),(5,.p b2 0),(8,Z7 ts v),(20,Z0 s.args),(21,.i s.args.length),(22,.i k)]/\h=[.obj b2 (Ye s),.obj b1 [Zd n.decls,Xn n],.tail v 1]/\m=s.args.length-k) _ _ _ ⟨0,[],v1,ob,ob,ob,rfl,rfl,rfl⟩ (wk [1,1,0] (fq (fw (Yh fl)))) ?_)))))))))
 rintro m F h ⟨k,ts,v,Yo,Zp,ZA,rfl,rfl,rfl⟩
 refine ar (Z1 1 23 (.b (decide ((k:Int)<(s.args.length:Int)))) (ie (aq (ZT ((k:Int)<(s.args.length:Int)) (fun Ze=>?_) (fun Ze=>?_)))))
 ·refine ak (aq (ab 1 (ar ?_)))
  obtain ⟨x1,Z3⟩:=Zu (xs:=s.args) (j:=k) om
  refine Zq (Zn none (k:Int) 1 (Y4 Z3)) (Z1 2 10 (.i x1) (ie (aq (ar (Xm [(1,Z0 us),(3,.p b1 0),(5,.p b2 0),(8,Z7 ts v),(10,.i x1),(20,Z0 s.args),(21,.i s.args.length),(22,.i k),(33,.b ((decide (x1<0))||(decide (x1>=(us.length:Int)))))] [.obj b2 (Ye s),.obj b1 [Zd n.decls,Xn n],.tail v 1] ?_ ?_)))))
  ·refine ir 3 [(1,Z0 us),(3,.p b1 0),(5,.p b2 0),(8,Z7 ts v),(10,.i x1),(20,Z0 s.args),(21,.i s.args.length),(22,.i k),(28,.b (decide (x1<0)))] (ib (b:=(decide (x1<0))) 28 (fun Zb=>?_) (fun Zb=>?_))
   ·have ZP:x1<0:=(dq).1 Zb
    refine Z6 5 (.n 33 (.b true) (.d (.w (.w .z)))) (ie ?_)
    exact ZK 3 (fq (fq (Zs true Zb fl)))
   have Y1:¬(x1<0):=ZF dq Zb
   refine Z6 2 (.n 29 (.i x1) (.n 30 (Z0 us) (.w (.w (.k .z))))) (iw (Yf us) (Z1 2 33 (.b (decide (x1>=(us.length:Int)))) (ie ?_)))
   exact ZK 3 (fq (fq (Zs (decide (x1>=(us.length:Int))) Zb fl)))
  refine ac ((decide (x1<0))||(decide (x1>=(us.length:Int)))) (p:=(x1<0)∨(x1>=(us.length:Int))) (Yc dq dq) (fun Zl=>?_) (fun Zl=>?_)
  ·refine ar (ir 2 [(6,.i (-1)),(7,.b false)] (ie ?_))
   have hS:ZJ n us s=-1:=Z6p (HP Z3 (Qc om))
   exact Zc (r2 [] [.i (-1),.b false] ⟨(-1),rfl,rfl,(by intro _ h;rw [hS] at h;omega)⟩ (Zg.tup (.cons (lr _) (.cons (lb (by rw [hS];rfl)) .nil))))
  refine ak (az (ir 3 [(1,Z0 us),(3,.p b1 0),(5,.p b2 0),(20,Z0 s.args),(21,.i s.args.length),(22,.i k),(34,Z7 ts v),(35,Z0 us),(36,.i x1)] ?_))
  obtain ⟨x2,Zy⟩:=Zu (xs:=us) (j:=x1.toNat) om
  refine Zq (Zn none x1 1 (Y4 Zy)) (Z1 1 38 (.i x2) (iL (Z8 [x2]) 1 1 ?_))
  intro v2
  refine Z6 0 (.n 39 (Z0 [x2]) (.p .r)) (ip 3 (Z8 (ts++[x2])) (Z8 ts) (Z8 [x2]) v none 1 (YE _) (YE _) (XY _) (by simp<;>omega) (by simp [XX,Z8]) ?_)
  intro v3
  refine Z1 1 8 (Z7 (ts++[x2]) v3) (ie (az (ZO k (Z6 1 (.n 22 (.i (k+1:Nat)) (.p (.k (.p (.d (.d (.p (.w (.k .z))))))))) (ie ?_)))))
  exact ZU ⟨k+1,(ts++[x2]),v3,ob,ob,(OH ZA Z3 (by rw [Tz om Zy])),rfl,rfl,rfl⟩ (wk [2,2,0] (fq (fw (ZW k fl))))
 refine ax 0 (aq (ar (Xm [(1,Z0 us),(3,.p b1 0),(5,.p b2 0),(8,Z7 ts v),(70,.b ((s.into != 0)&&((s.op != 6)||((decide (s.into<1))||((decide (s.into>(us.length:Int)))||((gI us (s.into-1))==0))))))] [.obj b2 (Ye s),.obj b1 [Zd n.decls,Xn n],.tail v 1] ?_ ?_)))
 ·refine iR 4 [(1,Z0 us),(3,.p b1 0),(5,.p b2 0),(8,Z7 ts v),(45,.b (s.into != 0))] [0] [b2] (ib (b:=(s.into != 0)) 45 (fun Zv=>?_) (fun Zv=>?_))
  ·have YB:s.into≠0:=(Yg).1 Zv
   refine Y0 4 (.n 49 (.b (s.op != 6)) (.w (.k .z))) [0] [b2] (ib (b:=(s.op != 6)) 49 (fun Yx=>?_) (fun Yx=>?_))
   ·have YM:s.op≠6:=(Yg).1 Yx
    refine Z6 21 (.n 70 (.b true) (.k (.d .r))) (ie ?_)
    exact ZK 3 (fq (Zs true (And.intro Zv Yx) fl))
   have YX:¬(s.op≠6):=ZF Yg Yx
   refine Y0 5 (.n 54 (.b (decide (s.into<1))) (.d (.d .r))) [0] [b2] (ib (b:=(decide (s.into<1))) 54 (fun Xh=>?_) (fun Xh=>?_))
   ·have Xv:s.into<1:=(dq).1 Xh
    refine Z6 16 (.n 70 (.b true) (.k (.d .r))) (ie ?_)
    exact ZK 3 (fq (Zs true (And.intro Zv (And.intro Yx Xh)) fl))
   have Wb:¬(s.into<1):=ZF dq Xh
   refine Y0 3 (.n 56 (.i s.into) (.n 57 (Z0 us) (.k (.d .r)))) [0] [b2] (iw (Yf us) (Z1 3 61 (.b (decide (s.into>(us.length:Int)))) (ib (b:=(decide (s.into>(us.length:Int)))) 61 (fun W9=>?_) (fun W9=>?_))))
   ·have WE:s.into>(us.length:Int):=(dq).1 W9
    refine Z6 9 (.n 70 (.b true) (.k (.d .r))) (ie ?_)
    exact ZK 3 (fq (Zs true (And.intro Zv (And.intro Yx (And.intro Xh W9))) fl))
   have WR:¬(s.into>(us.length:Int)):=ZF dq W9
   refine Y0 3 (.n 62 (Z0 us) (.n 64 (.i s.into) (.k (.d .r)))) [0] [b2] (ia ((s.into-1)) ((s.into)-(1)) (Zq (Aj (es:=Z8 us) (hv:=none) (j:=(s.into-1)) (sz:=1) (y:=.i (gI us (s.into-1))) kr om (Y4 (IT om)) rfl) (Z1 4 70 (.b ((gI us (s.into-1))==0)) (ie ?_))))
   exact ZK 3 (fq (Zs ((gI us (s.into-1))==0) (And.intro Zv (And.intro Yx (And.intro Xh W9))) fl))
  have Uc:¬(s.into≠0):=ZF Yg Zv
  refine Z6 25 (.n 70 (.b false) (.d (.w .z))) (ie ?_)
  exact ZK 3 (fq (Zs false Zv fl))
 refine ac ((s.into != 0)&&((s.op != 6)||((decide (s.into<1))||((decide (s.into>(us.length:Int)))||((gI us (s.into-1))==0))))) (p:=(s.into≠0)/\((s.op≠6)∨((s.into<1)∨((s.into>(us.length:Int))∨((gI us (s.into-1))=0))))) (YF Yg (Yc Yg (Yc dq (Yc dq Zh)))) (fun ZI=>?_) (fun ZI=>?_)
 ·refine ar (ir 2 [(6,.i (-1)),(7,.b false)] (ie ?_))
  have hS:ZJ n us s=-1:=Z6q (Jm.1 ZI)
  exact Zc (r2 [] [.i (-1),.b false] ⟨(-1),rfl,rfl,(by intro _ h;rw [hS] at h;omega)⟩ (Zg.tup (.cons (lr _) (.cons (lb (by rw [hS];rfl)) .nil))))
 refine ak (aq (ab 2 (ar (iR 2 [(1,Z0 us),(3,.p b1 0),(5,.p b2 0),(8,Z7 ts v),(73,.i s.op)] [0] [b2] (Zz [] (Lr s.op) (Z1 1 71 (.b (Ym s.op)) (ie (ac (Ym s.op) Iff.rfl (fun Yi=>?_) (fun Yi=>?_)))))))))
 ·refine ar (Z1 1 75 (Z7 ts v) (iw (Yf ts) (XH 9 [(3,.p b1 0),(5,.p b2 0),(8,Z7 ts v),(83,.b (((ts.length:Int)==1)&&((gI ts 0) != 0)))] [.obj b2 (Ye s),.obj b1 [Zd n.decls,Xn n],.tail v 1] ?_ (fun hj1=>?_))))
  ·refine XH 14 [(3,.p b1 0),(5,.p b2 0),(8,Z7 ts v),(88,.b ((((ts.length:Int)==1)&&((gI ts 0) != 0))&&(s.num==0)))] [.obj b2 (Ye s),.obj b1 [Zd n.decls,Xn n],.tail v 1] ?_ (fun hj2=>?_)
   ·refine XH 20 [(3,.p b1 0),(5,.p b2 0),(8,Z7 ts v),(94,.b (((((ts.length:Int)==1)&&((gI ts 0) != 0))&&(s.num==0))&&((s.kids.length:Int)==0)))] [.obj b2 (Ye s),.obj b1 [Zd n.decls,Xn n],.tail v 1] ?_ (fun hj3=>?_)
    ·refine ir 1 [(3,.p b1 0),(5,.p b2 0),(8,Z7 ts v),(11,.b (((((ts.length:Int)==1)&&((gI ts 0) != 0))&&(s.num==0))&&((s.kids.length:Int)==0)))] (ie (aq (ar (Xm [(3,.p b1 0),(8,Z7 ts v),(11,.b (((((ts.length:Int)==1)&&((gI ts 0) != 0))&&(s.num==0))&&((s.kids.length:Int)==0))),(105,.b ((((((ts.length:Int)==1)&&((gI ts 0) != 0))&&(s.num==0))&&((s.kids.length:Int)==0))&&((s.op==16)||(s.op==17))))] [.obj b2 (Ye s),.obj b1 [Zd n.decls,Xn n],.tail v 1] ?_ ?_))))
     ·refine ir 2 [(3,.p b1 0),(5,.p b2 0),(8,Z7 ts v),(11,.b (((((ts.length:Int)==1)&&((gI ts 0) != 0))&&(s.num==0))&&((s.kids.length:Int)==0))),(96,.b (((((ts.length:Int)==1)&&((gI ts 0) != 0))&&(s.num==0))&&((s.kids.length:Int)==0)))] (ib (b:=(((((ts.length:Int)==1)&&((gI ts 0) != 0))&&(s.num==0))&&((s.kids.length:Int)==0))) 96 (fun Wx=>?_) (fun Wx=>?_))
      ·have UH:((((ts.length:Int)=1)/\((gI ts 0)≠0))/\(s.num=0))/\((s.kids.length:Int)=0):=((YF (YF (YF Zh Yg) Zh) Zh)).1 Wx
       refine Y0 4 (.n 100 (.b (s.op==16)) (.w (.k .z))) [0] [b2] (ib (b:=(s.op==16)) 100 (fun WZ=>?_) (fun WZ=>?_))
       ·have Uv:s.op=16:=(Zh).1 WZ
        refine Z6 5 (.n 105 (.b true) (.k (.d .r))) (ie ?_)
        exact ZK 3 (fw (fr (Zs true (And.intro Wx WZ) fl)))
       have Tt:¬(s.op=16):=ZF Zh WZ
       refine Y0 5 (.n 105 (.b (s.op==17)) (.k (.d .r))) [0] [b2] (ie ?_)
       exact ZK 3 (fw (fr (Zs (s.op==17) (And.intro Wx WZ) fl)))
      have Ta:¬(((((ts.length:Int)=1)/\((gI ts 0)≠0))/\(s.num=0))/\((s.kids.length:Int)=0)):=ZF (YF (YF (YF Zh Yg) Zh) Zh) Wx
      refine Z6 9 (.n 105 (.b false) (.d (.k (.d (.k (.k .z)))))) (ie ?_)
      exact ZK 3 (fw (fr (Zs false Wx fl)))
     refine ac ((((((ts.length:Int)==1)&&((gI ts 0) != 0))&&(s.num==0))&&((s.kids.length:Int)==0))&&((s.op==16)||(s.op==17))) (p:=(((((ts.length:Int)=1)/\((gI ts 0)≠0))/\(s.num=0))/\((s.kids.length:Int)=0))/\((s.op=16)∨(s.op=17))) (YF (YF (YF (YF Zh Yg) Zh) Zh) (Yc Zh Zh)) (fun Xk=>?_) (fun Xk=>?_)
     ·refine aD 12 (W2 9 12 [0,1,2] [(108,Zd n.decls),(109,Z7 ts v)] [1] [b1] (dx 3 (Aj (es:=Z8 ts) (hv:=some v) (j:=0) (sz:=1) (y:=.i (gI ts 0)) kr om (Y4 (DE om)) rfl) (ZX 7 8 [4] 111 (.i (gI ts 0)) (dK (fun F h=>F=[(13,.b (X7 n.decls (gI ts 0)))]/\h=[.obj b2 (Ye s),.obj b1 [Zd n.decls,Xn n],.tail v 1]) ?_ ?_))))
      ·refine Vk 5 9 ?_ ?_
       ·refine Yv 5 [] [] [] (DS n.decls (gI ts 0)) (Xd 3 6 [6,7,8] [(113,Ul (Wv n.decls (gI ts 0))),(114,.b (X7 n.decls (gI ts 0)))] (Z9 9 (dA 9 [] [] [.i 0,.i 0,nl] ?_)))
        intro b3
        refine Z9 10 (YG 10 0 [] [] b3 (Wy (Wv n.decls (gI ts 0))) (Xd 0 1 [11] [(13,.b (X7 n.decls (gI ts 0)))] (de ?_)))
        exact ZV ⟨rfl,rfl⟩ (wk [1,1,1] fl)
       refine dA 9 [1] [b1] [.i 0,.i 0,nl] ?_
       intro b4
       refine Z9 5 (Yv 5 [] [] [] (DS n.decls (gI ts 0)) (Xd 2 5 [6,7,8] [(12,.p b4 0),(113,Ul (Wv n.decls (gI ts 0))),(114,.b (X7 n.decls (gI ts 0)))] (Z9 10 (YG 10 0 [] [] b4 (Wy (Wv n.decls (gI ts 0))) (Xd 0 1 [11] [(13,.b (X7 n.decls (gI ts 0)))] (de ?_))))))
       exact ZV ⟨rfl,rfl⟩ (wk [1,1,1] fl)
      rintro F h ⟨rfl,rfl⟩
      refine az (ir 3 [(11,.b (!X7 n.decls (gI ts 0)))] (ie (ar (ir 3 [(6,.i (-1)),(7,.b (!X7 n.decls (gI ts 0)))] (ie ?_)))))
      have hS0:=Al (n:=n) hnn (JP ZA om) (fun q=>ZI (Jm.2 q))
      exact Zc (r2 [] [.i (-1),.b (!X7 n.decls (gI ts 0))] ⟨(-1),rfl,rfl,(fun q=>absurd Yi q)⟩ (Zg.tup (.cons (lr _) (.cons (lb (Z67 hS0 Yi Xk)) .nil))))
     refine ak (ar (ir 3 [(6,.i (-1)),(7,.b (((((ts.length:Int)==1)&&((gI ts 0) != 0))&&(s.num==0))&&((s.kids.length:Int)==0)))] (ie ?_)))
     have hS0:=Al (n:=n) hnn (JP ZA om) (fun q=>ZI (Jm.2 q))
     exact Zc (r2 [] [.i (-1),.b (((((ts.length:Int)==1)&&((gI ts 0) != 0))&&(s.num==0))&&((s.kids.length:Int)==0))] ⟨(-1),rfl,rfl,(fun q=>absurd Yi q)⟩ (Zg.tup (.cons (lr _) (.cons (lb (Z68 hS0 Yi Xk)) .nil))))
    refine ir 1 [(3,.p b1 0),(5,.p b2 0),(8,Z7 ts v),(89,.b ((((ts.length:Int)==1)&&((gI ts 0) != 0))&&(s.num==0)))] (ib (b:=((((ts.length:Int)==1)&&((gI ts 0) != 0))&&(s.num==0))) 89 (fun WL=>?_) (fun WL=>?_))
    ·have QF:(((ts.length:Int)=1)/\((gI ts 0)≠0))/\(s.num=0):=((YF (YF Zh Yg) Zh)).1 WL
     refine Y0 2 (.n 91 (Yz s.kids) (.w .z)) [0] [b2] (iw (U1 s.kids) (Z1 2 94 (.b ((s.kids.length:Int)==0)) ?_))
     exact YC (ZK 3 (fw (fr (Zs ((s.kids.length:Int)==0) WL fl)))) hj3
    have QG:¬((((ts.length:Int)=1)/\((gI ts 0)≠0))/\(s.num=0)):=ZF (YF (YF Zh Yg) Zh) WL
    refine Z6 5 (.n 94 (.b false) (.d (.k (.k (.k .z))))) ?_
    exact YC (ZK 3 (fw (fr (Zs false WL fl)))) hj3
   refine ir 1 [(3,.p b1 0),(5,.p b2 0),(8,Z7 ts v),(84,.b (((ts.length:Int)==1)&&((gI ts 0) != 0)))] (ib (b:=(((ts.length:Int)==1)&&((gI ts 0) != 0))) 84 (fun WM=>?_) (fun WM=>?_))
   ·have Jk:((ts.length:Int)=1)/\((gI ts 0)≠0):=((YF Zh Yg)).1 WM
    refine Y0 4 (.n 88 (.b (s.num==0)) (.d (.k (.k (.k .z))))) [0] [b2] ?_
    exact YC (ZK 3 (fw (fr (Zs (s.num==0) WM fl)))) hj2
   have QH:¬(((ts.length:Int)=1)/\((gI ts 0)≠0)):=ZF (YF Zh Yg) WM
   refine Z6 4 (.n 88 (.b false) (.d (.k (.k (.k .z))))) ?_
   exact YC (ZK 3 (fw (fr (Zs false WM fl)))) hj2
  refine ir 2 [(3,.p b1 0),(5,.p b2 0),(8,Z7 ts v),(78,.b ((ts.length:Int)==1))] (ib (b:=((ts.length:Int)==1)) 78 (fun TE=>?_) (fun TE=>?_))
  ·have Lk:(ts.length:Int)=1:=(Zh).1 TE
   refine Z6 1 (.n 79 (Z7 ts v) (.w .z)) (Zq (Aj (es:=Z8 ts) (hv:=some v) (j:=0) (sz:=1) (y:=.i (gI ts 0)) kr om (Y4 (DE om)) rfl) (Z1 3 83 (.b ((gI ts 0) != 0)) ?_))
   exact YC (ZK 3 (fw (fr (Zs ((gI ts 0) != 0) TE fl)))) hj1
  have Ll:¬((ts.length:Int)=1):=ZF Zh TE
  refine Z6 5 (.n 83 (.b false) (.d (.k (.k (.k .z))))) ?_
  exact YC (ZK 3 (fw (fr (Zs false TE fl)))) hj1
 refine ar (Yn 4 118 (.b (s.op==7)) [0] [b2] (ie (ac (s.op==7) Zh (fun Xl=>?_) (fun Xl=>?_))))
 ·refine aq (ar (Z1 1 122 (Z7 ts v) (iw (Yf ts) (XH 9 [(1,Z0 us),(3,.p b1 0),(5,.p b2 0),(130,.b (((ts.length:Int) != 1)||((gI ts 0) != 0)))] [.obj b2 (Ye s),.obj b1 [Zd n.decls,Xn n],.tail v 1] ?_ (fun hj4=>?_)))))
  ·refine XH 14 [(1,Z0 us),(3,.p b1 0),(5,.p b2 0),(135,.b ((((ts.length:Int) != 1)||((gI ts 0) != 0))||(s.num != 0)))] [.obj b2 (Ye s),.obj b1 [Zd n.decls,Xn n],.tail v 1] ?_ (fun hj5=>?_)
   ·refine Xm [(1,Z0 us),(3,.p b1 0),(5,.p b2 0),(141,.b (((((ts.length:Int) != 1)||((gI ts 0) != 0))||(s.num != 0))||((s.kids.length:Int) != 2)))] [.obj b2 (Ye s),.obj b1 [Zd n.decls,Xn n],.tail v 1] ?_ ?_
    ·refine ir 1 [(1,Z0 us),(3,.p b1 0),(5,.p b2 0),(136,.b ((((ts.length:Int) != 1)||((gI ts 0) != 0))||(s.num != 0)))] (ib (b:=((((ts.length:Int) != 1)||((gI ts 0) != 0))||(s.num != 0))) 136 (fun Jh=>?_) (fun Jh=>?_))
     ·have Gc:(((ts.length:Int)≠1)∨((gI ts 0)≠0))∨(s.num≠0):=((Yc (Yc Yg Yg) Yg)).1 Jh
      refine Z6 5 (.n 141 (.b true) (.d (.k (.k (.k .z))))) (ie ?_)
      exact ZK 3 (fw (fr (Zs true Jh fl)))
     have SU:¬((((ts.length:Int)≠1)∨((gI ts 0)≠0))∨(s.num≠0)):=ZF (Yc (Yc Yg Yg) Yg) Jh
     refine Y0 2 (.n 138 (Yz s.kids) (.w .z)) [0] [b2] (iw (U1 s.kids) (Z1 2 141 (.b ((s.kids.length:Int) != 2)) (ie ?_)))
     exact ZK 3 (fw (fr (Zs ((s.kids.length:Int) != 2) Jh fl)))
    refine ac (((((ts.length:Int) != 1)||((gI ts 0) != 0))||(s.num != 0))||((s.kids.length:Int) != 2)) (p:=((((ts.length:Int)≠1)∨((gI ts 0)≠0))∨(s.num≠0))∨((s.kids.length:Int)≠2)) (Yc (Yc (Yc Yg Yg) Yg) Yg) (fun Vv=>?_) (fun Vv=>?_)
    ·refine ar (ir 2 [(6,.i (-1)),(7,.b false)] (ie ?_))
     have hS0:=Al (n:=n) hnn (JP ZA om) (fun q=>ZI (Jm.2 q))
     have hS:=Z63 hS0 Yi Xl Vv
     exact Zc (r2 [] [.i (-1),.b false] ⟨(-1),rfl,rfl,(by intro _ h;rw [hS] at h;omega)⟩ (Zg.tup (.cons (lr _) (.cons (lb (by rw [hS];rfl)) .nil))))
    refine ak (aD 10 (W2 6 10 [0,1,2,3] [(142,.agg [Zd n.decls,Xn n]),(143,Z0 us),(145,Yz s.kids)] [1,0] [b1,b2] (Z9 4 (PA 4 [0,1] [b2,b1] 2 2 ?_))))
    intro v4
    refine ZZ 5 5 [] (.n 146 (WF (List.replicate 2 [])) (.p .r)) (Z9 5 (Yv 5 [] [] [] (Ls n us s.kids (List.replicate 2 []) (hnn:=hnn) (hm3:=(by intro m hm;first|(rw [EK hm];simp;done)|(obtain ⟨c,_,rfl⟩:=W4.1 hm;exact VN Xu c))) (hmn:=(by intro m hm f hf;first|(rw [EK hm] at hf;simp at hf;done)|(obtain ⟨c,_,rfl⟩:=W4.1 hm;exact hty.fields c f hf))) (ih:=(fun b us2 h1 h2 h3 h4=>ih b us2 om h2 h3 h4))) (Xd 0 4 [6,7,8,9] [(6,.i (Wk n us s.kids (List.replicate 2 []) true 0)),(7,.b (decide (0<=Wk n us s.kids (List.replicate 2 []) true 0)))] (de ?_))))
    have hS0:=Al (n:=n) hnn (JP ZA om) (fun q=>ZI (Jm.2 q))
    have hS:=Z64 hS0 Yi Xl Vv
    exact Zc (r2 [] [.i (Wk n us s.kids (List.replicate 2 []) true 0),.b (decide (0<=Wk n us s.kids (List.replicate 2 []) true 0))] ⟨Wk n us s.kids (List.replicate 2 []) true 0,rfl,rfl,(fun _ _=>hS.symm)⟩ (Zg.tup (.cons (lr _) (.cons (lb (by rw [hS])) .nil))))
   refine ir 1 [(1,Z0 us),(3,.p b1 0),(5,.p b2 0),(131,.b (((ts.length:Int) != 1)||((gI ts 0) != 0)))] (ib (b:=(((ts.length:Int) != 1)||((gI ts 0) != 0))) 131 (fun Ji=>?_) (fun Ji=>?_))
   ·have SV:((ts.length:Int)≠1)∨((gI ts 0)≠0):=((Yc Yg Yg)).1 Ji
    refine Z6 4 (.n 135 (.b true) (.d (.k (.k (.k .z))))) ?_
    exact YC (ZK 3 (fw (fr (Zs true Ji fl)))) hj5
   have SW:¬(((ts.length:Int)≠1)∨((gI ts 0)≠0)):=ZF (Yc Yg Yg) Ji
   refine Y0 4 (.n 135 (.b (s.num != 0)) (.d (.k (.k (.k .z))))) [0] [b2] ?_
   exact YC (ZK 3 (fw (fr (Zs (s.num != 0) Ji fl)))) hj5
  refine ir 2 [(1,Z0 us),(3,.p b1 0),(5,.p b2 0),(8,Z7 ts v),(125,.b ((ts.length:Int) != 1))] (ib (b:=((ts.length:Int) != 1)) 125 (fun Ck=>?_) (fun Ck=>?_))
  ·have SX:(ts.length:Int)≠1:=(Yg).1 Ck
   refine Z6 5 (.n 130 (.b true) (.d (.k (.k (.k .z))))) ?_
   exact YC (ZK 3 (fw (fr (Zs true Ck fl)))) hj4
  have SY:¬((ts.length:Int)≠1):=ZF Yg Ck
  refine Z6 1 (.n 126 (Z7 ts v) (.w .z)) (Zq (Aj (es:=Z8 ts) (hv:=some v) (j:=0) (sz:=1) (y:=.i (gI ts 0)) kr om (Y4 (DE om)) rfl) (Z1 3 130 (.b ((gI ts 0) != 0)) ?_))
  exact YC (ZK 3 (fw (fr (Zs ((gI ts 0) != 0) Ck fl)))) hj4
 refine ar (Yn 4 150 (.b (s.op==8)) [0] [b2] (ie (ac (s.op==8) Zh (fun Vq=>?_) (fun Vq=>?_))))
 ·refine ar (ZY 3 154 (.agg [Zd n.decls,Xn n]) 156 (.i s.num) [1,0] [b1,b2] (Zz [] (Z0q _ s.num) (Z1 1 14 (WF ((Zt n.decls s.num).map (Zw n.decls))) (ie (aq (aD 24 (ZX 23 24 [0] 158 (Z7 ts v) (dw 1 (Yf ts) (AC [(1,Z0 us),(3,.p b1 0),(5,.p b2 0),(14,WF ((Zt n.decls s.num).map (Zw n.decls))),(181,.b (((ts.length:Int) != 1)||(((gI ts 0) != s.num)||((((((Zt n.decls s.num).map (Zw n.decls)).length:Nat):Int)==0)||((s.kids.length:Int) != ((((Zt n.decls s.num).map (Zw n.decls)).length:Nat):Int))))))] [.obj b2 (Ye s),.obj b1 [Zd n.decls,Xn n],.tail v 1] ?_ ?_)))))))))
  ·refine Xd 20 22 [2,3] [(1,Z0 us),(3,.p b1 0),(5,.p b2 0),(8,Z7 ts v),(14,WF ((Zt n.decls s.num).map (Zw n.decls))),(161,.b ((ts.length:Int) != 1))] (db (b:=((ts.length:Int) != 1)) 161 (fun AN=>?_) (fun AN=>?_))
   ·have SZ:(ts.length:Int)≠1:=(Yg).1 AN
    refine ZZ 0 20 [4,5,6,7,8,9,10,11,12,13,14,15,16,17,18,19,20,21,22,23] (.n 181 (.b true) (.d (.k (.k (.k (.d (.k .z))))))) (de ?_)
    exact ZK 3 (fq (Zs true AN fl))
   have Z00:¬((ts.length:Int)≠1):=ZF Yg AN
   refine ZZ 19 20 [4] (.n 162 (Z7 ts v) (.w (.d (.k .z)))) (dx 5 (Aj (es:=Z8 ts) (hv:=some v) (j:=0) (sz:=1) (y:=.i (gI ts 0)) kr om (Y4 (DE om)) rfl) (Y5 12 18 [6,7,8,9,10,11] (.n 169 (.b ((gI ts 0) != s.num)) .r) [0] [b2] (db (b:=((gI ts 0) != s.num)) 169 (fun Bw=>?_) (fun Bw=>?_))))
   ·have Z01:(gI ts 0)≠s.num:=(Yg).1 Bw
    refine ZZ 0 12 [12,13,14,15,16,17,18,19,20,21,22,23] (.n 181 (.b true) (.k (.d .r))) (de ?_)
    exact ZK 3 (fq (Zs true (And.intro AN Bw) fl))
   have Gd:¬((gI ts 0)≠s.num):=ZF Yg Bw
   refine ZZ 11 12 [12] (.n 170 (WF ((Zt n.decls s.num).map (Zw n.decls))) (.k (.d .r))) (dn 13 (.i ((((Zt n.decls s.num).map (Zw n.decls)).length:Nat):Int)) (.i (((W7 ((Zt n.decls s.num).map (Zw n.decls))).length:Nat):Int)) (li (by rw [Ds])) (ZX 7 10 [14,15,16] 174 (.b (((((Zt n.decls s.num).map (Zw n.decls)).length:Nat):Int)==0)) (db (b:=(((((Zt n.decls s.num).map (Zw n.decls)).length:Nat):Int)==0)) 174 (fun Cl=>?_) (fun Cl=>?_))))
   ·have Ge:((((Zt n.decls s.num).map (Zw n.decls)).length:Nat):Int)=0:=(Zh).1 Cl
    refine ZZ 0 7 [17,18,19,20,21,22,23] (.n 181 (.b true) (.k (.d .r))) (de ?_)
    exact ZK 3 (fq (Zs true (And.intro AN (And.intro Bw Cl)) fl))
   have Lm:¬(((((Zt n.decls s.num).map (Zw n.decls)).length:Nat):Int)=0):=ZF Zh Cl
   refine Y5 5 7 [17,18] (.n 176 (Yz s.kids) (.k (.d .r))) [0] [b2] (dw 19 (U1 s.kids) (ZX 3 4 [20] 178 (WF ((Zt n.decls s.num).map (Zw n.decls))) (dn 21 (.i ((((Zt n.decls s.num).map (Zw n.decls)).length:Nat):Int)) (.i (((W7 ((Zt n.decls s.num).map (Zw n.decls))).length:Nat):Int)) (li (by rw [Ds])) (ZX 0 2 [22,23] 181 (.b ((s.kids.length:Int) != ((((Zt n.decls s.num).map (Zw n.decls)).length:Nat):Int))) (de ?_)))))
   exact ZK 3 (fq (Zs ((s.kids.length:Int) != ((((Zt n.decls s.num).map (Zw n.decls)).length:Nat):Int)) (And.intro AN (And.intro Bw Cl)) fl))
  refine ac (((ts.length:Int) != 1)||(((gI ts 0) != s.num)||((((((Zt n.decls s.num).map (Zw n.decls)).length:Nat):Int)==0)||((s.kids.length:Int) != ((((Zt n.decls s.num).map (Zw n.decls)).length:Nat):Int))))) (p:=((ts.length:Int)≠1)∨(((gI ts 0)≠s.num)∨((((((Zt n.decls s.num).map (Zw n.decls)).length:Nat):Int)=0)∨((s.kids.length:Int)≠((((Zt n.decls s.num).map (Zw n.decls)).length:Nat):Int))))) (Yc Yg (Yc Yg (Yc Zh Yg))) (fun VH=>?_) (fun VH=>?_)
  ·refine ar (ir 2 [(6,.i (-1)),(7,.b false)] (ie ?_))
   have hS0:=Al (n:=n) hnn (JP ZA om) (fun q=>ZI (Jm.2 q))
   have hS:=Z65 hS0 Yi Xl Vq VH
   exact Zc (r2 [] [.i (-1),.b false] ⟨(-1),rfl,rfl,(by intro _ h;rw [hS] at h;omega)⟩ (Zg.tup (.cons (lr _) (.cons (lb (by rw [hS];rfl)) .nil))))
  refine ak (ar (iR 5 [(182,.agg [Zd n.decls,Xn n]),(183,Z0 us),(185,Yz s.kids),(186,WF ((Zt n.decls s.num).map (Zw n.decls)))] [1,0] [b1,b2] (Zz [] (Ls n us s.kids ((Zt n.decls s.num).map (Zw n.decls)) (hnn:=hnn) (hm3:=(by intro m hm;first|(rw [EK hm];simp;done)|(obtain ⟨c,_,rfl⟩:=W4.1 hm;exact VN Xu c))) (hmn:=(by intro m hm f hf;first|(rw [EK hm] at hf;simp at hf;done)|(obtain ⟨c,_,rfl⟩:=W4.1 hm;exact hty.fields c f hf))) (ih:=(fun b us2 h1 h2 h3 h4=>ih b us2 om h2 h3 h4))) (ir 4 [(6,.i (Wk n us s.kids ((Zt n.decls s.num).map (Zw n.decls)) true 0)),(7,.b (decide (0<=Wk n us s.kids ((Zt n.decls s.num).map (Zw n.decls)) true 0)))] (ie ?_)))))
  have hS0:=Al (n:=n) hnn (JP ZA om) (fun q=>ZI (Jm.2 q))
  have hS:=Z66 hS0 Yi Xl Vq VH
  exact Zc (r2 [] [.i (Wk n us s.kids ((Zt n.decls s.num).map (Zw n.decls)) true 0),.b (decide (0<=Wk n us s.kids ((Zt n.decls s.num).map (Zw n.decls)) true 0))] ⟨Wk n us s.kids ((Zt n.decls s.num).map (Zw n.decls)) true 0,rfl,rfl,(fun _ _=>hS.symm)⟩ (Zg.tup (.cons (lr _) (.cons (lb (by rw [hS])) .nil))))
 refine ar (Yn 2 192 (Yz s.kids) [0] [b2] (iw (U1 s.kids) (XH 33 [(3,.p b1 0),(5,.p b2 0),(8,Z7 ts v),(223,.b ((decide ((s.kids.length:Int)>0))||((s.op==10)&&((decide (s.num>=0))&&((decide (s.num<(((n.routines.map XB).length:Nat):Int)))&&(decide (((((Th n s.num).lnt).length:Nat):Int)>0)))))))] [.obj b2 (Ye s),.obj b1 [Zd n.decls,Xn n],.tail v 1] ?_ (fun hj6=>?_))))
 ·refine ir 1 [(3,.p b1 0),(5,.p b2 0),(8,Z7 ts v),(190,.b ((decide ((s.kids.length:Int)>0))||((s.op==10)&&((decide (s.num>=0))&&((decide (s.num<(((n.routines.map XB).length:Nat):Int)))&&(decide (((((Th n s.num).lnt).length:Nat):Int)>0)))))))] (ie (ac ((decide ((s.kids.length:Int)>0))||((s.op==10)&&((decide (s.num>=0))&&((decide (s.num<(((n.routines.map XB).length:Nat):Int)))&&(decide (((((Th n s.num).lnt).length:Nat):Int)>0)))))) (p:=((s.kids.length:Int)>0)∨((s.op=10)/\((s.num>=0)/\((s.num<(((n.routines.map XB).length:Nat):Int))/\(((((Th n s.num).lnt).length:Nat):Int)>0))))) (Yc dq (YF Zh (YF dq (YF dq dq)))) (fun UG=>?_) (fun UG=>?_)))
  ·refine ar (ir 2 [(6,.i (-1)),(7,.b false)] (ie ?_))
   have hS0:=Al (n:=n) hnn (JP ZA om) (fun q=>ZI (Jm.2 q))
   have hS:=stB hS0 Yi Xl Vq UG
   exact Zc (r2 [] [.i (-1),.b false] ⟨(-1),rfl,rfl,(by intro _ h;rw [hS] at h;omega)⟩ (Zg.tup (.cons (lr _) (.cons (lb (by rw [hS];rfl)) .nil))))
  refine ak (ar (iR 6 [(224,.agg [Zd n.decls,Xn n]),(226,.i s.op),(228,.i s.num),(229,Z0 ts)] [1,0,0] [b1,b2,b2] (ic [] (Z0r _ s.op s.num ts) ?_)))
  rintro _ _ ⟨t1,rfl,rfl,DM⟩
  refine ir 4 [(6,.i t1),(7,.b ((Xw n s.op s.num ts).isSome))] (ie ?_)
  have hS0:=Al (n:=n) hnn (JP ZA om) (fun q=>ZI (Jm.2 q))
  have hS:=stS hS0 Yi Xl Vq UG
  exact Zc (r2 [] [.i t1,.b ((Xw n s.op s.num ts).isSome)] ⟨t1,rfl,rfl,(Z6a hS DM)⟩ (Zg.tup (.cons (lr _) (.cons (lb (Z69 hty hS)) .nil))))
 refine ir 2 [(3,.p b1 0),(5,.p b2 0),(8,Z7 ts v),(195,.b (decide ((s.kids.length:Int)>0)))] (ib (b:=(decide ((s.kids.length:Int)>0))) 195 (fun A4=>?_) (fun A4=>?_))
 ·have Z7w:(s.kids.length:Int)>0:=(dq).1 A4
  refine Z6 28 (.n 223 (.b true) (.d (.k (.k (.k .z))))) ?_
  exact YC (ZK 3 (fw (fr (Zs true A4 fl)))) hj6
 have Z7x:¬((s.kids.length:Int)>0):=ZF dq A4
 refine Y0 4 (.n 199 (.b (s.op==10)) (.w .z)) [0] [b2] (ib (b:=(s.op==10)) 199 (fun AO=>?_) (fun AO=>?_))
 ·have Z7y:s.op=10:=(Zh).1 AO
  refine Y0 5 (.n 204 (.b (decide (s.num>=0))) (.d (.d .r))) [0] [b2] (ib (b:=(decide (s.num>=0))) 204 (fun Bx=>?_) (fun Bx=>?_))
  ·have Z7z:s.num>=0:=(dq).1 Bx
   refine Y0 4 (.n 206 (.i s.num) (.n 208 (Xn n) (.k (.d .r)))) [0,1] [b2,b1] (io (.i (((n.routines.map XB).length:Nat):Int)) (.i (((UE (n.routines.map XB)).length:Nat):Int)) (li (by rw [C8])) (Z1 3 212 (.b (decide (s.num<(((n.routines.map XB).length:Nat):Int)))) (ib (b:=(decide (s.num<(((n.routines.map XB).length:Nat):Int)))) 212 (fun By=>?_) (fun By=>?_))))
   ·have Z80:s.num<(((n.routines.map XB).length:Nat):Int):=(dq).1 By
    refine Y0 4 (.n 214 (Xn n) (.n 216 (.i s.num) (.k (.d .r)))) [1,0] [b1,b2] (Zq (Aj (es:=UE (n.routines.map XB)) (hv:=none) (j:=s.num) (sz:=3) (y:=D6 (Th n s.num)) kr om (Bp (Z4t om)) rfl) (Z1 2 219 (Z0 ((Th n s.num).lnt)) (io (.i ((((Th n s.num).lnt).length:Nat):Int)) (.i (((Z8 ((Th n s.num).lnt)).length:Nat):Int)) (li (by rw [Yf])) (Z1 3 223 (.b (decide (((((Th n s.num).lnt).length:Nat):Int)>0))) ?_))))
    exact YC (ZK 3 (fw (fr (Zs (decide (((((Th n s.num).lnt).length:Nat):Int)>0)) (And.intro A4 (And.intro AO (And.intro Bx By))) fl)))) hj6
   have Z81:¬(s.num<(((n.routines.map XB).length:Nat):Int)):=ZF dq By
   refine Z6 11 (.n 223 (.b false) (.k (.d .r))) ?_
   exact YC (ZK 3 (fw (fr (Zs false (And.intro A4 (And.intro AO (And.intro Bx By))) fl)))) hj6
  have Z82:¬(s.num>=0):=ZF dq Bx
  refine Z6 19 (.n 223 (.b false) (.k (.d .r))) ?_
  exact YC (ZK 3 (fw (fr (Zs false (And.intro A4 (And.intro AO Bx)) fl)))) hj6
 have Z83:¬(s.op=10):=ZF Zh AO
 refine Z6 24 (.n 223 (.b false) (.k (.d .r))) ?_
 exact YC (ZK 3 (fw (fr (Zs false (And.intro A4 AO) fl)))) hj6
theorem Z0j (n:Zx) (us:List Int) (b:Z5) (hn:Xf n) (hnn:∀t∈us,0<=t) (hb:us.length+4*b.sz<=1000000000) (hr:b.rng) (ih:∀(s:Z4) (us:List Int),(s.sz<b.sz)->(us.length+4*s.sz<=1000000000)->(s.rng)->(∀t∈us,0<=t)->Zk Tryz.prog 93 [.agg [Zd n.decls,Xn n],Z0 us,Y2 s] [] (fun r h=>∃(t:Int),r=.tup [.i t,.b (decide (0<=ZJ n us s))]/\h=[]/\(¬Ym s.op=true->0<=ZJ n us s->t=ZJ n us s))):Zk Tryz.prog 56 [.agg [Zd n.decls,Xn n],Z0 us,Zr b] [] (fun r h=>r=.i (YR n us b)/\h=[]):=by
 have hbz:=Vz b
 have hbe:=Dc n us b
 rw [b.rng_eq] at hr
 refine ZL 54 Tryz.func56 (ar (iA [Zd n.decls,Xn n] ?_))
 intro b1
 refine iA (Y8 b) ?_
 intro b2
 refine ir 1 [(1,Z0 us),(3,.p b1 0),(5,.p b2 0)] (ie (ar (Z1 1 12 (Z0 us) (ic [] (P7 us) ?_))))
 rintro _ _ ⟨v1,rfl,rfl⟩
 refine Z1 1 7 (Z7 us v1) (ie (aq (ar (Yn 2 15 (Ya b.steps) [1] [b2] (iw (Vp b.steps) (Z1 1 17 (.i 0) (ie (ab 0 (al (fun m F h=>∃(k:Nat) (vs:List Int) (v:Value),(k<=b.steps.length)/\(vs.length<=us.length+k)/\(∀t∈vs,0<=t)/\(Wh n (b.steps.drop k) vs=Wh n b.steps us)/\F=[(3,.p b1 0),(5,.p b2 0),(7,Z7 vs v),(15,Ya b.steps),(16,.i b.steps.length),(17,.i k)]/\h=[.obj b2 (Y8 b),.obj b1 [Zd n.decls,Xn n],.tail v 1]/\m=b.steps.length-k) _ _ _ ⟨0,us,v1,ob,ob,ob,ob,rfl,rfl,rfl⟩ (wk [1,1,0] (fq (fr (Yh fl)))) ?_)))))))))
 rintro m F h ⟨k,vs,v,Yo,Zp,ZA,YJ,rfl,rfl,rfl⟩
 refine ar (Z1 1 18 (.b (decide ((k:Int)<(b.steps.length:Int)))) (ie (aq (ZT ((k:Int)<(b.steps.length:Int)) (fun Ze=>?_) (fun Ze=>?_)))))
 ·refine ak (aq (ab 1 (ar ?_)))
  obtain ⟨x1,Z3⟩:=Zu (xs:=b.steps) (j:=k) om
  have hss:=B3 Z3
  have hsr:=Nz hr Z3
  refine Zq (Zn none (k:Int) 5 (Ww Z3)) (Z1 1 20 (Y2 x1) (iA [.i 0,.i 0,.i 0,nl,nl] ?_))
  intro b3
  refine ZG 0 b3 (Ye x1) (ie (ar (Y0 3 (.n 22 (.agg [Zd n.decls,Xn n]) (.n 23 (Z0 vs) (.n 24 (Y2 x1) .r))) [2,0] [b1,b3] (ic [] (ih x1 vs ob ob ob ob) ?_))))
  rintro _ _ ⟨t1,rfl,rfl,ZP⟩
  refine Yq 5 10 (.i t1) 11 (.b (decide (0<=ZJ n vs x1))) (ie (aq (ar (Z1 2 29 (.b (!decide (0<=ZJ n vs x1))) (ie (ac (!decide (0<=ZJ n vs x1)) (p:=¬(decide (0<=ZJ n vs x1)=true)) (Yp Iff.rfl) (fun Zl=>?_) (fun Zl=>?_)))))))
  ·refine ar (ir 1 [(6,.i (-1))] (ie ?_))
   exact Zc (r2 [] [.i (-1)] ⟨rfl,rfl⟩ (li (by rw [hbe,<-YJ,Z6s Z3 (fun q=>Zl (decide_eq_true q)) rfl])))
  refine ak (ar (Yn 2 31 (.i x1.op) [0] [b3] (Zz [] (Lr x1.op) (Z1 1 33 (.b (!Ym x1.op)) (ie (JM (fun F h=>∃(w:Value),F=[(3,.p b1 0),(5,.p b2 0),(7,Z7 (if Ym x1.op=true then vs else vs++[t1]) w),(15,Ya b.steps),(16,.i b.steps.length),(17,.i k)]/\h=[.obj b2 (Y8 b),.obj b1 [Zd n.decls,Xn n],.tail w 1]) (fun _ _=>rfl) ?_ ?_))))))
  ·refine ac (!Ym x1.op) (p:=¬(Ym x1.op=true)) (Yp Iff.rfl) (fun ZI=>?_) (fun ZI=>?_)
   ·refine az (ir 2 [(3,.p b1 0),(5,.p b2 0),(15,Ya b.steps),(16,.i b.steps.length),(17,.i k),(34,Z7 vs v),(35,.i t1)] (iL (Z8 [t1]) 1 1 ?_))
    intro v2
    refine Z6 0 (.n 36 (Z0 [t1]) (.p .r)) (ip 4 (Z8 (vs++[t1])) (Z8 vs) (Z8 [t1]) v none 1 (YE _) (YE _) (XY _) (by simp<;>omega) (by simp [XX,Z8]) ?_)
    intro v3
    refine Z1 1 7 (Z7 (vs++[t1]) v3) (ie ?_)
    exact ZV ⟨v3,rfl,rfl⟩ (wk [3,3,0] (fw (fc (x:=Z7 (vs++[t1]) v3) (Zg.slh _ (Yw Z8 (by first|rfl|(rw [Zj ZI])|(rw [Za ZI])|(simp [ZI];done)|(rw [Xo];simp [ZI];done)|omega))) fl)))
   refine ak ?_
   exact ZV ⟨v,rfl,rfl⟩ (wk [1,1,1] (fw (fc (x:=Z7 vs v) (Zg.slh _ (Yw Z8 (by first|rfl|(rw [Zj ZI])|(rw [Za ZI])|(simp [ZI];done)|(rw [Xo];simp [ZI];done)|omega))) fl)))
  rintro F h ⟨w,rfl,rfl⟩
  refine az (ZO k (ir 1 [(3,.p b1 0),(5,.p b2 0),(7,Z7 (if Ym x1.op=true then vs else vs++[t1]) w),(15,Ya b.steps),(16,.i b.steps.length),(17,.i (k+1:Nat))] (ie ?_)))
  have h0:0<=ZJ n vs x1:=of_decide_eq_true (U5.1 Zl)
  exact ZU ⟨k+1,(if Ym x1.op=true then vs else vs++[t1]),w,ob,(by split<;>(try simp)<;>omega),(Z2e ZA (fun q=>by rw [ZP q h0];exact h0)),(Z6r Z3 h0 ZP YJ),rfl,rfl,rfl⟩ (ZK 3 (fq (fr (ZW k fl))))
 refine ax 0 (aq (ar (Xm [(5,.p b2 0),(7,Z7 vs v),(48,.b ((decide (b.result<0))||(decide (b.result>=(vs.length:Int)))))] [.obj b2 (Y8 b),.obj b1 [Zd n.decls,Xn n],.tail v 1] ?_ ?_)))
 ·refine iR 4 [(5,.p b2 0),(7,Z7 vs v),(42,.b (decide (b.result<0)))] [0] [b2] (ib (b:=(decide (b.result<0))) 42 (fun Zb=>?_) (fun Zb=>?_))
  ·have Y1:b.result<0:=(dq).1 Zb
   refine Z6 6 (.n 48 (.b true) (.d (.k (.k .z)))) (ie ?_)
   exact ZK 3 (fw (Zs true Zb fl))
  have YB:¬(b.result<0):=ZF dq Zb
  refine Y0 3 (.n 44 (.i b.result) (.n 45 (Z7 vs v) (.k (.k (.k .z))))) [0] [b2] (iw (Yf vs) (Z1 2 48 (.b (decide (b.result>=(vs.length:Int)))) (ie ?_)))
  exact ZK 3 (fw (Zs (decide (b.result>=(vs.length:Int))) Zb fl))
 refine ac ((decide (b.result<0))||(decide (b.result>=(vs.length:Int)))) (p:=(b.result<0)∨(b.result>=(vs.length:Int))) (Yc dq dq) (fun Yi=>?_) (fun Yi=>?_)
 ·refine ar (ir 1 [(6,.i (-1))] (ie ?_))
  exact Zc (r2 [] [.i (-1)] ⟨rfl,rfl⟩ (li (by rw [hbe,<-YJ,Xz om];show _=(Xj vs b.result).getD (-1);rw [Qc om];rfl)))
 refine ak (ar (iR 3 [(49,Z7 vs v),(51,.i b.result)] [0] [b2] ?_))
 obtain ⟨x2,Zy⟩:=Zu (xs:=vs) (j:=b.result.toNat) om
 refine Zq (Zn (some v) b.result 1 (Y4 Zy)) (ir 2 [(6,.i x2)] (ie ?_))
 exact Zc (r2 [] [.i x2] ⟨rfl,rfl⟩ (li (by rw [hbe,<-YJ,Xz om];show _=(Xj vs b.result).getD (-1);rw [Tz om Zy];rfl)))
theorem Z0h (n:Zx) (hn:Xf n) (hty:Bc n) (m:Nat):∀(b:Z5) (us:List Int),(b.sz<=m)->(us.length+4*b.sz<=1000000000)->(b.rng)->(∀t∈us,0<=t)->Zk Tryz.prog 56 [.agg [Zd n.decls,Xn n],Z0 us,Zr b] [] (fun r h=>r=.i (YR n us b)/\h=[]):=by
 induction m with
 | zero=>intro b us h;have:=b.sz_pos;omega
 | succ m ih=>intro b us h1 h2 h3 h4;exact Z0j n us b hn h4 h2 h3 fun s us2 k1 k2 k3 k4=>Z0s n us2 s hn hty k4 k2 k3 fun b2 us3 q1 q2 q3 q4=>ih b2 us3 om q2 q3 q4
theorem Z0i (n:Zx) (us:List Int) (b:Z5) (hn:Xf n) (hty:Bc n) (hnn:∀t∈us,0<=t) (hb:us.length+4*b.sz<=1000000000) (hr:b.rng):Zk Tryz.prog 56 [.agg [Zd n.decls,Xn n],Z0 us,Zr b] [] (fun r h=>r=.i (YR n us b)/\h=[]):=
 Z0h n hn hty b.sz b us (Xa _) hb hr hnn
open Go.Proofs
theorem Nh (n:Zx) (us:List Int) (b:Z5) (hz:Qw n:=by exact ob) (hul:us.length<=1000000:=by exact ob) (hb:b.sz<=20000000:=by exact ob):Zk Tryz.prog 17 [ZB n,Z0 us,Zr b] [] (fun r h=>r=.i (YS n us b)/\h=[]):=by
 have hdl:=hz.decls.len
 refine ZL 26 Tryz.func17 (ar (iA (ZM n) ?_))
 intro b1
 refine iA (Y8 b) ?_
 intro b2
 refine ir 1 [(1,Z0 us),(3,.p b1 0),(5,.p b2 0)] (ie (aq (ar (Yn 1 7 (ZB n) [1] [b1] (Zz [] (Nw n (hz:=hz.decls) (hr:=(fun r hr=>⟨hz.params r hr,hz.lent r hr⟩))) (XH 10 [(1,Z0 us),(3,.p b1 0),(5,.p b2 0),(16,.b ((!XI n)||(!X1 n.decls.length us)))] [.obj b2 (Y8 b),.obj b1 (ZM n)] ?_ (fun hj1=>?_)))))))
 ·refine Xm [(1,Z0 us),(3,.p b1 0),(5,.p b2 0),(21,.b (((!XI n)||(!X1 n.decls.length us))||(decide ((Wm b)<0))))] [.obj b2 (Y8 b),.obj b1 (ZM n)] ?_ ?_
  ·refine ir 1 [(1,Z0 us),(3,.p b1 0),(5,.p b2 0),(17,.b ((!XI n)||(!X1 n.decls.length us)))] (ib (b:=((!XI n)||(!X1 n.decls.length us))) 17 (fun Zb=>?_) (fun Zb=>?_))
   ·have ZP:(¬(XI n=true))∨(¬(X1 n.decls.length us=true)):=((Yc (Yp Iff.rfl) (Yp Iff.rfl))).1 Zb
    refine Z6 4 (.n 21 (.b true) (.d (.k (.k (.k .z))))) (ie ?_)
    exact wk [0,0] (fw (fr (Zs true Zb fl)))
   have Y1:¬((¬(XI n=true))∨(¬(X1 n.decls.length us=true))):=ZF (Yc (Yp Iff.rfl) (Yp Iff.rfl)) Zb
   refine Y0 1 (.n 18 (Zr b) (.w .z)) [0] [b2] (Zz [] (Nu b) (Z1 2 21 (.b (decide ((Wm b)<0))) (ie ?_)))
   exact wk [0,0] (fw (fr (Zs (decide ((Wm b)<0)) Zb fl)))
  refine ac (((!XI n)||(!X1 n.decls.length us))||(decide ((Wm b)<0))) (p:=((¬(XI n=true))∨(¬(X1 n.decls.length us=true)))∨((Wm b)<0)) (Yc (Yc (Yp Iff.rfl) (Yp Iff.rfl)) dq) (fun Ze=>?_) (fun Ze=>?_)
  ·refine ar (ir 1 [(6,.i (-1))] (ie ?_))
   exact Zc (r2 [] [.i (-1)] ⟨rfl,rfl⟩ (li (by first|rw [YS,Za (fun z=>Ze.elim (fun h=>h.elim (fun q=>q z.1.1) (fun q=>q z.1.2)) z.2)]|(rw [YS,Za (fun z=>by have h:=z.1.1;rw [‹XI n=false›] at h;cases h)])|rw [YS,Zj (And.intro (And.intro hsg hat) hst)])))
  have hsg:XI n=true:=B7 fun z=>Ze (.inl (.inl z))
  have hat:X1 n.decls.length us=true:=B7 fun z=>Ze (.inl (.inr z))
  have hst:¬Wm b<0:=fun z=>Ze (.inr z)
  have hok:=E9 hz hsg
  refine ak (ar (iR 3 [(22,ZB n),(23,Z0 us),(24,Zr b)] [1,0] [b1,b2] (Zz [] (Hc n us b ob ob) (ir 1 [(6,.i (YR n us b))] (ie ?_)))))
  exact Zc (r2 [] [.i (YR n us b)] ⟨rfl,rfl⟩ (li (by first|rw [YS,Za (fun z=>Ze.elim (fun h=>h.elim (fun q=>q z.1.1) (fun q=>q z.1.2)) z.2)]|(rw [YS,Za (fun z=>by have h:=z.1.1;rw [‹XI n=false›] at h;cases h)])|rw [YS,Zj (And.intro (And.intro hsg hat) hst)])))
 refine ir 2 [(1,Z0 us),(3,.p b1 0),(5,.p b2 0),(10,.b (!XI n))] (ib (b:=(!XI n)) 10 (fun Zv=>?_) (fun Zv=>?_))
 ·have YB:¬(XI n=true):=((Yp Iff.rfl)).1 Zv
  refine Z6 6 (.n 16 (.b true) (.d (.k (.k (.k .z))))) ?_
  exact YC (wk [0,0] (fw (fr (Zs true Zv fl)))) hj1
 have YM:¬(¬(XI n=true)):=ZF (Yp Iff.rfl) Zv
 refine Y0 3 (.n 12 (Zd n.decls) (.n 13 (Z0 us) (.w .z))) [1] [b1] (Zz [] (Hb n.decls us) (Z1 2 16 (.b (!X1 n.decls.length us)) ?_))
 exact YC (wk [0,0] (fw (fr (Zs (!X1 n.decls.length us) Zv fl)))) hj1
theorem Gf (n:Zx) (us:List Int) (b:Z5) (hz:Qw n:=by exact ob) (hul:us.length<=1000000:=by exact ob) (hb:b.sz<=20000000:=by exact ob) (hr:b.rng:=by exact ob):Zk Tryz.prog 16 [ZB n,Z0 us,Zr b] [] (fun r h=>r=.i (YS n us b)/\h=[]):=by
 have hdl:=hz.decls.len
 refine ZL 32 Tryz.func16 (ar (iA (ZM n) ?_))
 intro b1
 refine iA (Y8 b) ?_
 intro b2
 refine ir 1 [(1,Z0 us),(3,.p b1 0),(5,.p b2 0)] (ie (ar (Yn 1 10 (ZB n) [1] [b1] (ic [] (Z0p n) ?_))))
 rintro _ _ (⟨rfl,rfl,ZP⟩|⟨rfl,rfl,Y1⟩)
 ·refine Yq 3 12 (.agg [Zd n.decls,Xn n]) 13 (.b (XI n)) (iA [nl,nl] ?_)
  intro b3
  refine ZG 0 b3 [Zd n.decls,Xn n] (Z1 1 8 (.b (XI n)) (ie (aq (ar (XH 9 [(1,Z0 us),(5,.p b2 0),(7,.p b3 0),(22,.b ((!XI n)||(!X1 n.decls.length us)))] [.obj b3 [Zd n.decls,Xn n],.obj b2 (Y8 b),.obj b1 (ZM n)] ?_ (fun hj1=>?_))))))
  ·refine Xm [(1,Z0 us),(5,.p b2 0),(7,.p b3 0),(27,.b (((!XI n)||(!X1 n.decls.length us))||(decide ((Wm b)<0))))] [.obj b3 [Zd n.decls,Xn n],.obj b2 (Y8 b),.obj b1 (ZM n)] ?_ ?_
   ·refine ir 1 [(1,Z0 us),(5,.p b2 0),(7,.p b3 0),(23,.b ((!XI n)||(!X1 n.decls.length us)))] (ib (b:=((!XI n)||(!X1 n.decls.length us))) 23 (fun Zb=>?_) (fun Zb=>?_))
    ·have YB:(¬(XI n=true))∨(¬(X1 n.decls.length us=true)):=((Yc (Yp Iff.rfl) (Yp Iff.rfl))).1 Zb
     refine Z6 4 (.n 27 (.b true) (.d (.k (.k (.k .z))))) (ie ?_)
     exact ZK 3 (fw (fr (Zs true Zb fl)))
    have YM:¬((¬(XI n=true))∨(¬(X1 n.decls.length us=true))):=ZF (Yc (Yp Iff.rfl) (Yp Iff.rfl)) Zb
    refine Y0 1 (.n 24 (Zr b) (.w .z)) [1] [b2] (Zz [] (Lp b) (Z1 2 27 (.b (decide ((Wm b)<0))) (ie ?_)))
    exact ZK 3 (fw (fr (Zs (decide ((Wm b)<0)) Zb fl)))
   refine ac (((!XI n)||(!X1 n.decls.length us))||(decide ((Wm b)<0))) (p:=((¬(XI n=true))∨(¬(X1 n.decls.length us=true)))∨((Wm b)<0)) (Yc (Yc (Yp Iff.rfl) (Yp Iff.rfl)) dq) (fun Ze=>?_) (fun Ze=>?_)
   ·refine ar (ir 1 [(6,.i (-1))] (ie ?_))
    exact Zc (r2 [] [.i (-1)] ⟨rfl,rfl⟩ (li (by first|rw [YS,Za (fun z=>Ze.elim (fun h=>h.elim (fun q=>q z.1.1) (fun q=>q z.1.2)) z.2)]|(rw [YS,Za (fun z=>by have h:=z.1.1;rw [‹XI n=false›] at h;cases h)])|rw [YS,Zj (And.intro (And.intro hsg hat) hst)])))
   have hsg:XI n=true:=B7 fun z=>Ze (.inl (.inl z))
   have hat:X1 n.decls.length us=true:=B7 fun z=>Ze (.inl (.inr z))
   have hst:¬Wm b<0:=fun z=>Ze (.inr z)
   have hok:=E9 hz hsg
   have hty:=Z2f hsg
   refine ak (ar (iR 3 [(28,.agg [Zd n.decls,Xn n]),(29,Z0 us),(30,Zr b)] [0,1] [b3,b2] (Zz [] (Z0i n us b ob hty (fun t ht=>(EZ hat t ht).1) ob hr) (ir 1 [(6,.i (YR n us b))] (ie ?_)))))
   exact Zc (r2 [] [.i (YR n us b)] ⟨rfl,rfl⟩ (li (by first|rw [YS,Za (fun z=>Ze.elim (fun h=>h.elim (fun q=>q z.1.1) (fun q=>q z.1.2)) z.2)]|(rw [YS,Za (fun z=>by have h:=z.1.1;rw [‹XI n=false›] at h;cases h)])|rw [YS,Zj (And.intro (And.intro hsg hat) hst)])))
  refine ir 3 [(1,Z0 us),(3,.p b1 0),(5,.p b2 0),(7,.p b3 0),(16,.b (!XI n))] (ib (b:=(!XI n)) 16 (fun Zv=>?_) (fun Zv=>?_))
  ·have YX:¬(XI n=true):=((Yp Iff.rfl)).1 Zv
   refine Z6 6 (.n 22 (.b true) (.d (.k (.d (.k (.k .z)))))) ?_
   exact YC (ZK 3 (fw (fr (Zs true Zv fl)))) hj1
  have Xv:¬(¬(XI n=true)):=ZF (Yp Iff.rfl) Zv
  refine Y0 3 (.n 18 (Zd n.decls) (.n 19 (Z0 us) (.k (.k (.d (.k (.k .z))))))) [2] [b1] (Zz [] (Gg n.decls us) (Z1 2 22 (.b (!X1 n.decls.length us)) ?_))
  exact YC (ZK 3 (fw (fr (Zs (!X1 n.decls.length us) Zv fl)))) hj1
 refine Yq 3 12 (.agg [Zd [],Vm []]) 13 (.b false) (iA [nl,nl] ?_)
 intro b4
 refine ZG 0 b4 [Zd [],Vm []] (Z1 1 8 (.b false) (ie (aq (ar (Z1 14 27 (.b true) (ie (WW (ar (ir 1 [(6,.i (-1))] (ie ?_))))))))))
 exact Zc (r2 [] [.i (-1)] ⟨rfl,rfl⟩ (li (by first|rw [YS,Za (fun z=>Ze.elim (fun h=>h.elim (fun q=>q z.1.1) (fun q=>q z.1.2)) z.2)]|(rw [YS,Za (fun z=>by have h:=z.1.1;rw [‹XI n=false›] at h;cases h)])|rw [YS,Zj (And.intro (And.intro hsg hat) hst)])))
theorem Z1k (s:Z4) :Zk Tryz.prog 23 [Y2 s] [] (fun r h=>r=.b (Ym s.op)/\h=[]):=by
 refine ZL 11 Tryz.func23 (ar (iA (Ye s) ?_))
 intro b1
 refine ir 1 [(1,.p b1 0)] (ie (ar (XH 8 [(10,.b ((decide (s.op>=14))&&(decide (s.op<=17))))] [.obj b1 (Ye s)] ?_ (fun hj1=>?_))))
 ·refine ir 1 [(2,.b ((decide (s.op>=14))&&(decide (s.op<=17))))] (ie ?_)
  exact Zc (r2 [] [.b ((decide (s.op>=14))&&(decide (s.op<=17)))] ⟨rfl,rfl⟩ (lb (by rw [Ym,Bool.decide_and])))
 refine iR 4 [(1,.p b1 0),(6,.b (decide (s.op>=14)))] [0] [b1] (ib (b:=(decide (s.op>=14))) 6 (fun Zb=>?_) (fun Zb=>?_))
 ·have ZP:s.op>=14:=(dq).1 Zb
  refine iR 4 [(10,.b (decide (s.op<=17)))] [0] [b1] ?_
  exact YC (wk [0] (Zs (decide (s.op<=17)) Zb fl)) hj1
 have Y1:¬(s.op>=14):=ZF dq Zb
 refine ir 4 [(10,.b false)] ?_
 exact YC (wk [0] (Zs false Zb fl)) hj1
theorem Z1l (b:Z5) (q:Nat) (xs:List Z4) (hq:q<=b.steps.length:=by exact ob) (hbl:b.steps.length<=100000000:=by exact ob) (hxl:xs.length<=100000000:=by exact ob):Zk Tryz.prog 24 [Zr b,.i q,Ya xs] [] (fun r h=>r=Zr (VL b q xs)/\h=[]):=by
 refine ZL 26 Tryz.func24 (ar (iA (Y8 b) ?_))
 intro b1
 refine iA [nl,.i 0] ?_
 intro b2
 refine ie (ar (iL (Zo []) 0 5 ?_))
 intro v1
 refine iR 3 [(1,.i q),(2,Ya xs),(3,.p b1 0),(6,.p b2 0),(8,ZQ [] v1),(10,Ya b.steps),(11,.i q)] [2] [b1] (Zq (Qo (es:=Zo b.steps) (hv:=none) (l:=0) (m:=(q:Int)) (sz:=5) (es':=Zo (b.steps.take q)) kr om (by simp<;>omega) (by simp<;>omega) (YZ _) (by first|(simp only [Vh,WP,TC,TB];done)|(simp only [Vh,WP,TC,TB];rfl)|(simp [TC,TB];done))) (ip 0 (Zo (b.steps.take q)) (Zo []) (Zo (b.steps.take q)) v1 none 5 (YZ _) (YZ _) (Ve _) (by simp<;>omega) (by simp [WY]) ?_))
 intro v2
 refine Z1 1 7 (ZQ (b.steps.take q) v2) (ie (ar (Yq 2 14 (ZQ (b.steps.take q) v2) 15 (Ya xs) (ip 0 (Zo ((b.steps.take q)++xs)) (Zo (b.steps.take q)) (Zo xs) v2 none 5 (YZ _) (YZ _) (Ve _) (by simp<;>omega) (by simp [Ws,Zo]) ?_))))
 intro v3
 refine Z6 1 (.n 7 (ZQ ((b.steps.take q)++xs) v3) (.q 16 (.k (.k (.d .r))))) (ie (aD 10 (Y5 6 10 [0,1,2,3] (.n 17 (ZQ ((b.steps.take q)++xs) v3) (.n 19 (Ya b.steps) (.n 20 (.i q) .r))) [2] [b1] (dx 4 (Qo (es:=Zo b.steps) (hv:=none) (l:=(q:Int)) (m:=(((Zo b.steps).length:Nat):Int)) (sz:=5) (es':=Zo (b.steps.drop q)) kr om (by simp<;>omega) (by simp<;>omega) (YZ _) (by first|(simp only [Vh,WP,TC,TB];done)|(simp only [Vh,WP,TC,TB];rfl)|(simp [TC,TB];done))) (Y5 3 5 [6,7] (.n 24 (.i b.result) .r) [2] [b1] (Z9 5 (dp 5 0 [1] [b1] (Zo (((b.steps.take q)++xs)++(b.steps.drop q))) (Zo ((b.steps.take q)++xs)) (Zo (b.steps.drop q)) v3 none 5 (YZ _) (YZ _) (Ve _) (by simp<;>omega) (by simp [Ws,Zo]) ?_)))))))
 intro v4
 refine ZX 1 2 [8] 25 (.agg [ZQ (((b.steps.take q)++xs)++(b.steps.drop q)) v4,.i b.result]) (Z9 9 (YG 9 1 [] [] b2 [ZQ (((b.steps.take q)++xs)++(b.steps.drop q)) v4,.i b.result] (de ?_)))
 exact Zc (r3 [] [.agg [ZQ (((b.steps.take q)++xs)++(b.steps.drop q)) v4,.i b.result]] [0] [(b2,b2)] ⟨rfl,rfl⟩ (Zg.agg (.cons (Zg.sl _ (Yw Zo ob)) (.cons li .nil))))
theorem Z1j (code:List Int) (hcb:∀z∈code,0<=z/\z<=255):Zk Tryz.prog 5 [Xb code] [] (fun r h=>r=.b true/\h=[]):=by
 refine ZL 88 Tryz.func5 (ar (ir 1 [(0,Xb code)] (ie (aq (ar (Z1 1 10 (Xb code) (iw (QC code) (Z1 1 12 (.b (decide ((code.length:Int)>1048576))) (ie (ZT ((code.length:Int)>1048576) (fun Ze=>?_) (fun Ze=>?_)))))))))))
 ·refine ar (ir 1 [(2,.b true)] (ie ?_))
  exact Zc (r1 [] ⟨rfl,rfl⟩)
 have hcl:code.length<=1048576:=by omega
 refine ak (ar (ir 1 [(14,Xb code)] (ic [] (RD code (hcl:=hcl) (hcb:=hcb)) ?_)))
 rintro _ _ ⟨n21,us1,b1,rfl,rfl,ZP⟩
 obtain ⟨hzs,husl,hbz,hbr⟩:=ZP
 have hzn:=hzs.sz om om
 refine ir 4 [(16,ZB n21),(17,Z0 us1),(18,Zr b1)] (iA [nl,nl] ?_)
 intro b2
 refine iA [nl,.i 0] ?_
 intro b3
 refine ZG 1 b2 (ZM n21) (Z1 1 4 (Z0 us1) (ZG 1 b3 (Y8 b1) (ie (ar (Y0 3 (.n 19 (ZB n21) (.n 20 (Z0 us1) (.n 21 (Zr b1) .r))) [1,0] [b2,b3] (Zz [] (Gf n21 us1 b1 (hz:=hzn) (hb:=(by first|omega|(rw [GF];omega)|(have h:=b1.sz_eq;rw [Z5.sz];omega))) (hr:=(by first|exact hbr|exact GC hbr|(have h:=hbr;rw [Z5.rng_eq] at h;rw [Z5.rng];exact h)))) (Z1 1 6 (.i (YS n21 us1 b1)) (ie (aq (ar (Y0 4 (.n 23 (.i (YS n21 us1 b1)) (.n 24 (ZB n21) (.n 25 (Z0 us1) (.n 26 (Zr b1) .r)))) [1,0] [b2,b3] (Zz [] (Nh n21 us1 b1 (hz:=hzn)) (XH 10 [(3,.p b2 0),(4,Z0 us1),(5,.p b3 0),(6,.i (YS n21 us1 b1)),(32,.b (((YS n21 us1 b1) != (YS n21 us1 b1))||(decide ((YS n21 us1 b1)<0))))] [.obj b3 (Y8 b1),.obj b2 (ZM n21)] ?_ (fun hj1=>?_))))))))))))))
 ·refine Xm [(3,.p b2 0),(4,Z0 us1),(5,.p b3 0),(6,.i (YS n21 us1 b1)),(37,.b ((((YS n21 us1 b1) != (YS n21 us1 b1))||(decide ((YS n21 us1 b1)<0)))||((Wm b1)==600)))] [.obj b3 (Y8 b1),.obj b2 (ZM n21)] ?_ ?_
  ·refine ir 1 [(3,.p b2 0),(4,Z0 us1),(5,.p b3 0),(6,.i (YS n21 us1 b1)),(33,.b (((YS n21 us1 b1) != (YS n21 us1 b1))||(decide ((YS n21 us1 b1)<0))))] (ib (b:=(((YS n21 us1 b1) != (YS n21 us1 b1))||(decide ((YS n21 us1 b1)<0)))) 33 (fun Zb=>?_) (fun Zb=>?_))
   ·have Y1:((YS n21 us1 b1)≠(YS n21 us1 b1))∨((YS n21 us1 b1)<0):=((Yc Yg dq)).1 Zb
    refine Z6 4 (.n 37 (.b true) (.d (.w .z))) (ie ?_)
    exact wk [0,0] (fq (Zs true Zb fl))
   have YB:¬(((YS n21 us1 b1)≠(YS n21 us1 b1))∨((YS n21 us1 b1)<0)):=ZF (Yc Yg dq) Zb
   refine Y0 1 (.n 34 (Zr b1) (.w (.k .z))) [0] [b3] (Zz [] (Lp b1) (Z1 2 37 (.b ((Wm b1)==600)) (ie ?_)))
   exact wk [0,0] (fq (Zs ((Wm b1)==600) Zb fl))
  refine ac ((((YS n21 us1 b1) != (YS n21 us1 b1))||(decide ((YS n21 us1 b1)<0)))||((Wm b1)==600)) (p:=(((YS n21 us1 b1)≠(YS n21 us1 b1))∨((YS n21 us1 b1)<0))∨((Wm b1)=600)) (Yc (Yc Yg dq) Zh) (fun Zl=>?_) (fun Zl=>?_)
  ·refine ar (iR 4 [(38,.i (YS n21 us1 b1)),(39,ZB n21),(40,Z0 us1),(41,Zr b1)] [1,0] [b2,b3] (Zz [] (Nh n21 us1 b1 (hz:=hzn)) (ir 2 [(2,.b ((YS n21 us1 b1)==(YS n21 us1 b1)))] (ie ?_))))
   exact Zc (r2 [] [.b ((YS n21 us1 b1)==(YS n21 us1 b1))] ⟨rfl,rfl⟩ (lb (by simp)))
  have hbn:¬YS n21 us1 b1<0:=fun z=>Zl (.inl (.inr z))
  have Wx:Wm b1≠600:=fun z=>Zl (.inr z)
  have hnx:=OV hbn Wx
  have hlb:=Z1y b1
  refine ak (ar (ir 1 [(3,.p b2 0),(4,Z0 us1),(5,.p b3 0),(44,Z0 us1)] (iw (Yf us1) (Z1 1 7 (.i us1.length) (ie (aq (ar (Z1 1 8 (.i 0) (ie (ab 0 (al (fun m F h=>∃(k:Nat),(k<=b1.steps.length)/\F=[(3,.p b2 0),(4,Z0 us1),(5,.p b3 0),(7,.i ((us1.length+W1 (b1.steps.take k):Nat):Int)),(8,.i k)]/\h=[.obj b3 (Y8 b1),.obj b2 (ZM n21)]/\m=b1.steps.length-k) _ _ _ ⟨0,ob,rfl,rfl,rfl⟩ (wk [0,0] (fw (fr (fc (x:=.i us1.length) li (Yh fl))))) ?_)))))))))))
  rintro m F h ⟨k,Yo,rfl,rfl,rfl⟩
  refine aq (ar (ZY 3 46 (.i k) 48 (Ya b1.steps) [0] [b3] (iw (Vp b1.steps) (Z1 1 50 (.b (decide ((k:Int)<(b1.steps.length:Int)))) (ie (ZT ((k:Int)<(b1.steps.length:Int)) (fun ZI=>?_) (fun ZI=>?_)))))))
  ·have hnl:W1 (b1.steps.take k)<=k:=V3 M4 (by rw [Wp];omega)
   refine ak (aq (ab 1 (ar (ZY 3 54 (Ya b1.steps) 55 (.i k) [0] [b3] ?_))))
   obtain ⟨x1,Z3⟩:=Zu (xs:=b1.steps) (j:=k) om
   have hnt:=Z2c Z3
   refine Zq (Zn none (k:Int) 5 (Ww Z3)) (Z1 1 57 (Y2 x1) (Zz [] (Z1k x1) (Z1 1 59 (.b (!Ym x1.op)) (ie (ac (!Ym x1.op) (p:=¬(Ym x1.op=true)) (Yp Iff.rfl) (fun Yi=>?_) (fun Yi=>?_))))))
   ·rw [Za Yi] at hnt
    refine az (Z1 1 60 (.i ((us1.length+W1 (b1.steps.take k):Nat):Int)) (ia (((us1.length+W1 (b1.steps.take k)+1:Nat):Int)) ((((us1.length+W1 (b1.steps.take k):Nat):Int))+(1)) (ir 1 [(3,.p b2 0),(4,Z0 us1),(5,.p b3 0),(7,.i ((us1.length+W1 (b1.steps.take k)+1:Nat):Int)),(8,.i k)] (ie (az (Z1 1 51 (.i k) (ZO k (Z6 1 (.n 8 (.i (k+1:Nat)) (.p (.d (.w .z)))) (ie ?_)))))))))
    exact ZU ⟨k+1,ob,rfl,rfl,rfl⟩ (wk [0,0] (fw (fr (fc (x:=.i ((us1.length+W1 (b1.steps.take k)+1:Nat):Int)) li (ZW k fl)))))
   rw [Zj (by simpa using Yi)] at hnt
   refine ak (az (Z1 1 51 (.i k) (ZO k (Z6 1 (.n 8 (.i (k+1:Nat)) (.p (.d (.d (.p (.d (.p (.d (.d (.d (.p (.d (.d (.w .z)))))))))))))) (ie ?_)))))
   exact ZU ⟨k+1,ob,rfl,rfl,rfl⟩ (wk [0,0] (fw (fr (fc (x:=.i ((us1.length+W1 (b1.steps.take k):Nat):Int)) li (ZW k fl)))))
  have hnd:W1 (b1.steps.take k)=W1 b1.steps:=by rw [Vb om]
  rw [<-hnd] at hnx
  have hnl:W1 (b1.steps.take k)<=k:=V3 M4 (by rw [Wp];omega)
  refine ax 0 (ar (ZY 3 62 (Zr b1) 64 (Ya b1.steps) [0,0] [b3,b3] (iw (Vp b1.steps) (Z1 1 66 (.agg [.i 0,.i 5,.i 0,.sl [] none,.sl [] none]) (VR [Y2 (Z4.mk 0 5 0 [] [])] (Zo [Z4.mk 0 5 0 [] []]) (WY [Z4.mk 0 5 0 [] []]).symm 1 5 ?_)))))
  intro v1
  refine Z6 0 (.n 67 (Ya [Z4.mk 0 5 0 [] []]) (.p .r)) (Zz [] (Z1l b1 b1.steps.length [Z4.mk 0 5 0 [] []]) (iA [nl,.i 0] ?_))
  intro b4
  refine ZG 0 b4 (Y8 (VL b1 b1.steps.length [Z4.mk 0 5 0 [] []])) (ie (ar (Y0 6 (.n 69 (ZB n21) (.n 70 (Z0 us1) (.n 74 (.agg [Ya ((VL b1 b1.steps.length [Z4.mk 0 5 0 [] []]).steps),.i ((us1.length+W1 (b1.steps.take k):Nat):Int)]) .r))) [3,0] [b2,b4] (Zz [] (Gf n21 us1 (Z5.mk ((VL b1 b1.steps.length [Z4.mk 0 5 0 [] []]).steps) ((us1.length+W1 (b1.steps.take k):Nat):Int)) (hz:=hzn) (hb:=(by first|omega|(rw [GF];omega)|(have h:=b1.sz_eq;rw [Z5.sz];omega))) (hr:=(by first|exact hbr|exact GC hbr|(have h:=hbr;rw [Z5.rng_eq] at h;rw [Z5.rng];exact h)))) (XH 19 [(87,.b (((YS n21 us1 (Z5.mk ((VL b1 b1.steps.length [Z4.mk 0 5 0 [] []]).steps) ((us1.length+W1 (b1.steps.take k):Nat):Int)))==0)&&((YS n21 us1 (Z5.mk ((VL b1 b1.steps.length [Z4.mk 0 5 0 [] []]).steps) ((us1.length+W1 (b1.steps.take k)+1:Nat):Int)))==(-1))))] [.obj b4 (Y8 (VL b1 b1.steps.length [Z4.mk 0 5 0 [] []])),.tail v1 5,.obj b3 (Y8 b1),.obj b2 (ZM n21)] ?_ (fun hj2=>?_))))))
  ·refine ir 1 [(2,.b (((YS n21 us1 (Z5.mk ((VL b1 b1.steps.length [Z4.mk 0 5 0 [] []]).steps) ((us1.length+W1 (b1.steps.take k):Nat):Int)))==0)&&((YS n21 us1 (Z5.mk ((VL b1 b1.steps.length [Z4.mk 0 5 0 [] []]).steps) ((us1.length+W1 (b1.steps.take k)+1:Nat):Int)))==(-1))))] (ie ?_)
   exact Zc (r2 [] [.b (((YS n21 us1 (Z5.mk ((VL b1 b1.steps.length [Z4.mk 0 5 0 [] []]).steps) ((us1.length+W1 (b1.steps.take k):Nat):Int)))==0)&&((YS n21 us1 (Z5.mk ((VL b1 b1.steps.length [Z4.mk 0 5 0 [] []]).steps) ((us1.length+W1 (b1.steps.take k)+1:Nat):Int)))==(-1)))] ⟨rfl,rfl⟩ (lb (by rw [hnx.1,hnx.2];rfl)))
  refine ir 2 [(3,.p b2 0),(4,Z0 us1),(7,.i ((us1.length+W1 (b1.steps.take k):Nat):Int)),(9,.p b4 0),(77,.b ((YS n21 us1 (Z5.mk ((VL b1 b1.steps.length [Z4.mk 0 5 0 [] []]).steps) ((us1.length+W1 (b1.steps.take k):Nat):Int)))==0))] (ib (b:=((YS n21 us1 (Z5.mk ((VL b1 b1.steps.length [Z4.mk 0 5 0 [] []]).steps) ((us1.length+W1 (b1.steps.take k):Nat):Int)))==0)) 77 (fun Zv=>?_) (fun Zv=>?_))
  ·have YM:(YS n21 us1 (Z5.mk ((VL b1 b1.steps.length [Z4.mk 0 5 0 [] []]).steps) ((us1.length+W1 (b1.steps.take k):Nat):Int)))=0:=(Zh).1 Zv
   refine iR 5 [(77,.b true),(78,ZB n21),(79,Z0 us1),(81,Ya ((VL b1 b1.steps.length [Z4.mk 0 5 0 [] []]).steps)),(82,.i ((us1.length+W1 (b1.steps.take k):Nat):Int))] [3,0] [b2,b4] (ia (((us1.length+W1 (b1.steps.take k)+1:Nat):Int)) ((((us1.length+W1 (b1.steps.take k):Nat):Int))+(1)) (Z1 1 84 (.agg [Ya ((VL b1 b1.steps.length [Z4.mk 0 5 0 [] []]).steps),.i ((us1.length+W1 (b1.steps.take k)+1:Nat):Int)]) (Zz [] (Gf n21 us1 (Z5.mk ((VL b1 b1.steps.length [Z4.mk 0 5 0 [] []]).steps) ((us1.length+W1 (b1.steps.take k)+1:Nat):Int)) (hz:=hzn) (hb:=(by first|omega|(rw [GF];omega)|(have h:=b1.sz_eq;rw [Z5.sz];omega))) (hr:=(by first|exact hbr|exact GC hbr|(have h:=hbr;rw [Z5.rng_eq] at h;rw [Z5.rng];exact h)))) (ir 2 [(87,.b ((YS n21 us1 (Z5.mk ((VL b1 b1.steps.length [Z4.mk 0 5 0 [] []]).steps) ((us1.length+W1 (b1.steps.take k)+1:Nat):Int)))==(-1)))] ?_))))
   exact YC (ZK 4 (Zs ((YS n21 us1 (Z5.mk ((VL b1 b1.steps.length [Z4.mk 0 5 0 [] []]).steps) ((us1.length+W1 (b1.steps.take k)+1:Nat):Int)))==(-1)) Zv fl)) hj2
  have YX:¬((YS n21 us1 (Z5.mk ((VL b1 b1.steps.length [Z4.mk 0 5 0 [] []]).steps) ((us1.length+W1 (b1.steps.take k):Nat):Int)))=0):=ZF Zh Zv
  refine ir 10 [(87,.b false)] ?_
  exact YC (ZK 4 (Zs false Zv fl)) hj2
 refine ir 2 [(3,.p b2 0),(4,Z0 us1),(5,.p b3 0),(6,.i (YS n21 us1 b1)),(29,.b ((YS n21 us1 b1) != (YS n21 us1 b1)))] (ib (b:=((YS n21 us1 b1) != (YS n21 us1 b1))) 29 (fun Yx=>?_) (fun Yx=>?_))
 ·have Xv:(YS n21 us1 b1)≠(YS n21 us1 b1):=(Yg).1 Yx
  refine Z6 3 (.n 32 (.b true) (.d (.w .z))) ?_
  exact YC (wk [0,0] (fq (Zs true Yx fl))) hj1
 have Wb:¬((YS n21 us1 b1)≠(YS n21 us1 b1)):=ZF Yg Yx
 refine Z6 3 (.n 32 (.b (decide ((YS n21 us1 b1)<0))) (.d (.w .z))) ?_
 exact YC (wk [0,0] (fq (Zs (decide ((YS n21 us1 b1)<0)) Yx fl))) hj1
end Go.Abs
section
namespace Go.Proofs.YthllacimcjakdaaGreat.fnBlockTypeStep
open Go.ChangeShapes Go.WideShapes Go.ChangeAt Go.RowKit Go.Abs
theorem own:ownKnob Tryz.prog.godebug=none:=by kernel_rfl
theorem kids:Kids Tryz.prog (·<Tryz.prog.types.size):=kids_rows kr kr
theorem RC:∀t e,t<Tryz.prog.types.size->Tryz.prog.underlying t=some (.slice e)->0<Tryz.prog.cellsOf e:=slices_full_of Tryz.prog kr
theorem N0 {w w':World} {G G':Yb} {h':List Res} (hx:YU w G [] w' G' h'):∀b,b<w.heap.size->w'.heap[b]? = w.heap[b]?:=
 fun b hb=>(hx.same b hb).eq fun o ⟨r,hr,_⟩=>by cases hr
theorem P5 {w w':World} {b o:Nat} (h:w'.heap[b]? = w.heap[b]?):w'.cell? ⟨b,o,none⟩=w.cell? ⟨b,o,none⟩:=by simp [World.cell?,h]
theorem Z24 {t:Nat} (h:Nat.blt t Tryz.prog.types.size=true):t<Tryz.prog.types.size:=Nat.le_of_ble_eq_true h
set_option maxRecDepth 100000 in
theorem Pr (H:Type) (enc:TypeId × Value->H) (W:World) (base:Nat) (args:Array Value) (ds gs:List (DataW H)) (before:List MemPlace) (hval:∀(j:Nat) t v,Tryz.f5.params[j]? = some t->args[j]? = some v->Value.okWide Tryz.prog W .any base t v)
  (hW:DataW.Whole enc Tryz.prog Tryz.f5.params.toList Rows.fnBlockTypeStepSpec.vars false W args.toList ds gs before) :
  Calls Tryz.prog 5 args W fun e W'=>∃v,e=.returned v/\Rows.fnBlockTypeStepSpec.post enc Tryz.prog Tryz.f5 false true false false W args v W':=by
 have hW':=hW
 obtain ⟨p,q,hA0,hV,rfl,hfz,hnd⟩:=hW
 have hA:DataW.TrodAll enc Tryz.prog W 0 (fun _=>true) true Tryz.f5.params.toList args.toList ds p:=hA0
 rw [Tryz.params5] at hA
 obtain ⟨v0,vs0,d0,ds0,p0,q0,hargs,rfl,rfl,h0,r0⟩:=trodAll_cons hA
 obtain ⟨rfl,rfl,rfl⟩:=trodAll_nil r0
 obtain rfl:args=#[v0]:=by cases args;simp_all
 obtain ⟨rfl,rfl⟩:=trodVars_none hV
 obtain ⟨fuel,htr⟩:=h0
 obtain ⟨qa,ql,qc,rfl⟩:=okWide_slice Tryz.underlying22 (hval 0 22 v0 kr rfl)
 obtain ⟨v1,code,hv1,hrv,hcb⟩:=Z3d htr
 have hv1:[Value.slice qa ql qc]=[v1]:=hv1
 cases hv1
 have hh:YA W (GA W) []:=⟨(fun r hr=>by cases hr),List.Pairwise.nil,(fun r hr=>by cases hr),fun b o hg=>hg⟩
 refine (Z1j code hcb W (GA W) [.slice qa ql qc] (.cons hrv .nil) hh).mono ?_
 rintro e W' ⟨v,r,h',G',rfl,⟨rfl,rfl⟩,hv,hh',hx⟩
 have hvb:=hv.val_inv
 subst hvb
 refine ⟨_,rfl,[d0],[],p0++[]++[],[],p0++[],[],hW',?_,?_,rfl,?_,(fun h=>by cases h)⟩
 ·exact trodAll_cons_mk (shut_bool Tryz.underlying4 _) trodAll_mk0
 ·have hold:∀b,b<W.heap.size->W'.heap[b]? = W.heap[b]?:=N0 hx
  have hlt:=hW'.lt
  have hcar:DataW.TrodAll enc Tryz.prog W' 0 (fun _=>true) true Tryz.f5.params.toList [.slice qa ql qc] [d0] (p0++[]):=by
   rw [Tryz.params5]
   refine ⟨p0,[],⟨fuel,DataW.trod_carry fuel 22 _ _ htr fun y hy=>?_⟩,rfl,rfl⟩
   have hyl:=hlt y (by simpa using hy)
   cases y with
   | cell b o=>exact P5 (hold b hyl)
   | map b=>exact hold b hyl
  exact DataW.TrodAll.respare kids RC (by rw [Tryz.params5];intro t ht;rw [List.mem_singleton.1 ht];exact Z24 kr) hcar (fun y hy=>by have:=hlt y (by simpa using hy);simpa using this)
 ·refine ⟨hx.os,hx.output,fun i hi=>?_⟩
  rw [N0 hx i hi]
  cases W.heap[i]? with
  | none=>rfl
  | some o=>cases o<;>first | rfl | exact ⟨rfl,rfl,rfl,fun _ _=>rfl⟩ | exact .inr ⟨rfl,rfl⟩
set_option maxRecDepth 100000 in
theorem Z22 (os:Os) (started:os.Started) (H:Type) (enc:TypeId × Value->H) (F:Stop.Interp) :
  ReturnsInHanded {} Tryz.checked os 5 .any ((Rows.OpenSpec.upto Rows.fnBlockTypeStepSpec).pre6 enc Tryz.prog Tryz.f5 Rows.fnBlockTypeStepUptoRow.domain false) (((Rows.OpenSpec.upto Rows.fnBlockTypeStepSpec).at F).post enc Tryz.prog Tryz.f5 false true false false):=by
 refine returnsInHanded_of_cond (C:=Tryz.checked) (s:=Rows.OpenSpec.upto Rows.fnBlockTypeStepSpec) (k:=Rows.uptoSmall) rfl own started kr Tryz.func5
  (OpenSpec.witness (enc:=enc) (C:=Tryz.checked) (s:=Rows.OpenSpec.upto Rows.fnBlockTypeStepSpec) (k:=Rows.uptoSmall) rfl false ⟨#[],#[.slice none 0 0],[]⟩ 8 kr kr kr
   (x:=([.nil],[],[])) kr rfl kr) ?_
 intro W base args ds gs before hval hW _ hk _
 exact Pr H enc W base args ds gs before hval hW
theorem Ox {a b:Bool} (ha:a=true) (hb:b=true):(a&&b)=true:=by rw [ha,hb];rfl
set_option maxHeartbeats 4000000 in
theorem P8:joinedFacts Tryz.pinned.checked.prog 5 Tryz.f5 (Rows.OpenSpec.upto Rows.fnBlockTypeStepSpec).bare Rows.fnBlockTypeStepUptoRow=true:=by
 unfold joinedFacts
 iterate 31 refine Ox ?_ (by as_aux_lemma=>kernel_rfl)
 as_aux_lemma=>kernel_rfl
theorem Z39:Rows.fnBlockTypeStepUptoRow.holds Tryz.pinned (Rows.OpenSpec.upto Rows.fnBlockTypeStepSpec):=
 OpenClaim.holds_of_cond 5 Tryz.f5 rfl rfl rfl rfl rfl rfl rfl ⟨rfl,rfl,rfl,rfl,rfl⟩ rfl rfl rfl rfl rfl (by as_aux_lemma=>kernel_rfl) Tryz.func5 P8
  (of_decide_eq_true kr) (by unfold Func.isWrapper;first|(rw [if_pos (by decide +kernel)];kernel_rfl)|(rw [if_neg (by decide +kernel)];exact ⟨rfl,rfl⟩))
  (fun os started H enc _ F=>Z22 os started H enc F)
theorem proved:Rows.FnBlockTypeStepUptoSaid:=
 Z39
#print axioms proved
end Go.Proofs.YthllacimcjakdaaGreat.fnBlockTypeStep
end
