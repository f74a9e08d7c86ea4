/-
  FnPlainOfStepsUptoSaid: the law FnPlainOfSteps returns true at every argument of bulk at most 1048576, and the argument reads behind the call as it read before.
-/
import Derived.Test.YthllacimcjakdaaGreatPosD
import Derived.Test.YthllacimcjakdaaGreatRows
import Derived.WalkKit
import Derived.ProofKit
import Derived.OpenShut
import Derived.JoinedCond
import Derived.ReadAgain
set_option linter.all false
set_option linter.unusedVariables false
set_option linter.unusedSimpArgs false
set_option linter.unusedSectionVars false
set_option maxRecDepth 10000
set_option maxHeartbeats 4000000
namespace Go.Abs
open Go.Proofs
theorem Z3u (rd:Nat) (bs:LI) (p:Nat) (xs:LI) (ZB:∀z∈bs,0<=z/\z<=255) (hp:p+3<=1000000000:=by exact ob) (hl:xs.length<=1000000:=by exact ob):Zl 52 [.p rd 0,Z6 xs] [Yk rd bs p] (fun r h=>∃(zs:LI) (p2:Nat),r=Z6 zs/\h=[Yk rd bs p2]/\zs.length<=xs.length+1/\p<=p2/\p2<=p+3):=by
 refine ZC 32 Tryz.func52 (ar (Z0 1 (ie (ar (Z0 1 (ic [] (AL xs) ?_))))))
 rintro _ _ ⟨v1,rfl,rfl⟩
 refine Z0 1 (ie (aq (ar (Z0 1 (Zp (JZ 0 v1 xs) (Z0 2 (ib (b:=(decide ((xs.length:Int)>0))) 11 (fun Zf=>?_) (fun Zf=>?_))))))))
 ·have Y2:(xs.length:Int)>0:=(dq).1 Zf
  refine Z0 1 (ic [1] (XO rd bs p 2 (ZB:=ob)) ?_)
  rintro _ _ ⟨k1,rfl,rfl,Yl⟩
  refine Z0 2 (ie (ac (k1==0) Zt (fun Zb=>?_) (fun Zb=>?_)))
  ·refine ar (Z0 3 (Zp (JZ 1 v1 xs) (ic [0] (J6 rd bs (p+1) xs.length (ZB:=ob)) ?_)))
   rintro _ _ ⟨Yw,rfl,rfl,YO⟩
   refine Z0 1 (iL (Z7 [0,1,-1,7,1000,1001]) 6 1 fun v2=>ZM 0 [(22,Z6 [0,1,-1,7,1000,1001])] (ic [1] (Vw rd bs ((p+1)+1) [0,1,-1,7,1000,1001] (ZB:=ob)) ?_))
   rintro _ _ ⟨z1,rfl,rfl,YV⟩
   exact Zp (Vk 2 v1 xs (Yw:Int) Yw) (Ht 2 v1 xs Yw z1 (ie (ar (Z0 2 (ie (DY 4 0 (v:=v1) (xs:=(xs.set Yw z1)) (Za (r2 [1] [ZT (xs.set Yw z1) v1.v] ⟨(xs.set Yw z1),((p+1)+1)+1,rfl,rfl,⟨by simp,by omega,by omega⟩⟩ (Zc.forget _ _)))))))))
  refine ak (ar (Z0 2 (iL (Z7 [0,1,2,-1,1000]) 5 1 fun v3=>ZM 0 [(28,Z6 [0,1,2,-1,1000])] (ic [1] (Vw rd bs (p+1) [0,1,2,-1,1000] (ZB:=ob)) ?_))))
  rintro _ _ ⟨z2,rfl,rfl,X9⟩
  exact iL (Z7 [z2]) 1 1 fun v4=>ZM 0 [(30,Z6 [z2])] (J8 3 v1 xs [z2] none fun v5=>Z0 1 (ie (DY 4 0 (v:=v5) (xs:=(xs++[z2])) (Za (r2 [2] [ZT (xs++[z2]) v5.v] ⟨(xs++[z2]),(p+1)+1,rfl,rfl,⟨by simp,by omega,by omega⟩⟩ (Zc.forget _ _))))))
 have XX:¬((xs.length:Int)>0):=Yi dq Zf
 refine Z0 4 (ie (WH (ak (ar (Z0 2 (iL (Z7 [0,1,2,-1,1000]) 5 1 fun v6=>ZM 0 [(28,Z6 [0,1,2,-1,1000])] (ic [2] (Vw rd bs p [0,1,2,-1,1000] (ZB:=ob)) ?_)))))))
 rintro _ _ ⟨z3,rfl,rfl,Wx⟩
 exact iL (Z7 [z3]) 1 1 fun v7=>ZM 0 [(30,Z6 [z3])] (J8 3 v1 xs [z3] none fun v8=>Z0 1 (ie (DY 4 0 (v:=v8) (xs:=(xs++[z3])) (Za (r2 [2] [ZT (xs++[z3]) v8.v] ⟨(xs++[z3]),p+1,rfl,rfl,⟨by simp,by omega,by omega⟩⟩ (Zc.forget _ _))))))
theorem SX (s:Z3) (hz:s.sz<=1000000000:=by exact ob):Zl 127 [Ys s] [] (fun r h=>∃(v:Hd),r=.agg [.i s.op,.i s.num,.i s.into,.h v,Xb s.kids]/\h=[rV v s.args]):=by
 have hkz:=Ud s
 have haz:=Te s
 refine ZC 33 Tryz.func127 (ar (iA (Xa s) fun b1=>iA [.i 0,.i 0,.i 0,nl,nl] fun b2=>ie (ar (iL (Yt []) 0 2 fun v1=>?_))))
 refine Z0 1 (ie (aq (ar (Z0 1 (ie (ab 0 (ZV (fun fz gz m F h=>∃(k:Nat) (v:Value),(k<=s.kids.length)/\F=sF [1,2] fz [(3,Ue (s.kids.take k) v),(4,.i k)]/\h=[Zh gz 1,Zh gz 2,.tail v 2]/\m=s.kids.length-k) _ _ _ ⟨0,v1,ob,rfl,rfl,rfl⟩ (wk [1,1,0] (fc (x:=Ue [] v1) (Zc.slh _ (Yc Yt rfl)) (ZZ fl))) ?_)))))))
 rintro m F h ⟨k,v,Y4,rfl,rfl,rfl⟩
 refine aq (ar (Z4 3 [1] (iw (Vh s.kids) (Z0 1 (ie (ZF ((k:Int)<(s.kids.length:Int)) (fun Zb=>?_) (fun Zb=>?_)))))))
 ·refine ak (aq (ab 1 (az (Z4 4 [1] ?_))))
  obtain ⟨x1,Z2⟩:=Zs s.kids k om
  have hks:=Uc Z2
  exact Zp (Zi none (k:Int) 2 (VR Z2)) (Z0 1 (Zx [] (FJ x1) (iL [ZE x1] 1 2 fun v2=>ZM 0 [(20,.sl [ZE x1] none)] (ip 3 (Yt (s.kids.take (k+1))) (Yt (s.kids.take k)) [ZE x1] v none 2 (UO _) (UX rfl) rfl (by simp<;>omega) (by rw [We Z2];simp [U8]) fun v3=>Z0 1 (ie (az (Z0 1 (ZD k (Z0 1 (ie (ZG ⟨k+1,v3,ob,rfl,rfl,rfl⟩ (wk [2,2,0] (fr (ZK k fl))))))))))))))
 refine ax 0 (aD 12 (ZL 3 12 [0,1,2,3,4,5,6,7,9] [1,1,1,1] (Z8 8 (dc 8 [] [1,1,1] [b1,b1,b1] (AL s.args) ?_))))
 rintro _ _ ⟨v4,rfl,rfl⟩
 exact Zj 1 2 [10] (Z8 11 (YA 11 1 [] [] b2 [.i s.op,.i s.num,.i s.into,.h v4,Ue (s.kids.take k) v] (de (Za (r3 [1] [.agg [.i s.op,.i s.num,.i s.into,.h v4,Ue (s.kids.take k) v]] [0] [(b2,b2)] ⟨v4,rfl,rfl⟩ (Zc.agg (.cons (lr _) (.cons (lr _) (.cons (lr _) (.cons (lr _) (.cons (Zc.sl _ (Yc Yt (by rw [WA om]))) .nil)))))))))))
theorem MC (rd:Nat) (bs:LI) (p:Nat) (s:Z3) (ZB:∀z∈bs,0<=z/\z<=255) (hp:p+3<=1000000000:=by exact ob) (hz:s.sz<=100000000:=by exact ob) (hg:s.rng:=by exact ob):Zl 89 [.p rd 0,Ys s] [Yk rd bs p] (fun r h=>∃(y:Z3) (p2:Nat),r=Ys y/\h=[Yk rd bs p2]/\VD s y/\p<=p2/\p2<=p+3):=by
 have haz:=Te s
 have hkz:=Ud s
 refine ZC 66 Tryz.func89 (ar (iA (Xa s) fun b1=>iA [.i 0,.i 0,.i 0,nl,nl] fun b2=>ie (ar (Z4 1 [1] (ic [] (SX s) ?_)))))
 rintro _ _ ⟨v1,rfl,rfl⟩
 refine iA [.i 0,.i 0,.i 0,nl,nl] fun b3=>Zy 0 b3 [.i s.op,.i s.num,.i s.into,.h v1,Xb s.kids] (ie (aq (ar (Z0 1 (ic [4] (XO rd bs p 6 (ZB:=ob)) ?_)))))
 rintro _ _ ⟨k1,rfl,rfl,Y2⟩
 refine ie (ab 0 (ar (Z0 2 (ie (ac (k1==0) Zt (fun Zb=>?_) (fun Zb=>?_))))))
 ·refine az (Z0 1 (iL (Z7 [14,15,16,17,6,9,12,0,1]) 9 1 fun v2=>ZM 0 [(13,Z6 [14,15,16,17,6,9,12,0,1])] (ic [1] (Vw rd bs (p+1) [14,15,16,17,6,9,12,0,1] (ZB:=ob)) ?_)))
  rintro _ _ ⟨z1,rfl,rfl,Yl⟩
  have hon:=Yl
  exact Z0 1 (Zy 2 b3 [.i z1,.i s.num,.i s.into,.h v1,Xb s.kids] (ie (ar (XD (Jh 3 v1 s.args) (XD (UJ 0 0 3 v1.v 1 b3 (Z7 s.args) [.i z1,.i s.num,.i s.into,.h v1,Xb s.kids] (Yu _) rfl) (Z4 1 [0] (Zy 4 b2 [.i z1,.i s.num,.i s.into,ZT s.args v1.v,Xb s.kids] (ie (Za (r3 [3] [.agg [.i z1,.i s.num,.i s.into,ZT s.args v1.v,Xb s.kids]] [0] [(b2,b2)] ⟨(Z3.mk z1 s.num s.into s.args s.kids),(p+1)+1,rfl,rfl,⟨by first|exact VD.refl hg|exact VD.of hg (by first|exact .inl rfl|exact .inr hon) (by first|exact Nat.le_succ _|(simp<;>omega)) (by first|exact .inl rfl|exact .inr rfl),by omega,by omega⟩⟩ (Zc.agg (.cons (lr _) (.cons (lr _) (.cons (lr _) (.cons (Zc.forget _ _) (.cons (lr _) .nil))))))))))))))))
 refine ar (Z0 2 (ie (ac (k1==1) Zt (fun Zg=>?_) (fun Zg=>?_))))
 ·refine az (Z0 1 (iL (Z7 [0,1,2,3,-1,1000]) 6 1 fun v3=>ZM 0 [(19,Z6 [0,1,2,3,-1,1000])] (ic [1] (Vw rd bs (p+1) [0,1,2,3,-1,1000] (ZB:=ob)) ?_)))
  rintro _ _ ⟨z2,rfl,rfl,YO⟩
  have hon:=YO
  exact Z0 1 (Zy 2 b3 [.i s.op,.i z2,.i s.into,.h v1,Xb s.kids] (ie (ar (XD (Jh 3 v1 s.args) (XD (UJ 0 0 3 v1.v 1 b3 (Z7 s.args) [.i s.op,.i z2,.i s.into,.h v1,Xb s.kids] (Yu _) rfl) (Z4 1 [0] (Zy 4 b2 [.i s.op,.i z2,.i s.into,ZT s.args v1.v,Xb s.kids] (ie (Za (r3 [3] [.agg [.i s.op,.i z2,.i s.into,ZT s.args v1.v,Xb s.kids]] [0] [(b2,b2)] ⟨(Z3.mk s.op z2 s.into s.args s.kids),(p+1)+1,rfl,rfl,⟨by first|exact VD.refl hg|exact VD.of hg (by first|exact .inl rfl|exact .inr hon) (by first|exact Nat.le_succ _|(simp<;>omega)) (by first|exact .inl rfl|exact .inr rfl),by omega,by omega⟩⟩ (Zc.agg (.cons (lr _) (.cons (lr _) (.cons (lr _) (.cons (Zc.forget _ _) (.cons (lr _) .nil))))))))))))))))
 refine ar (Z0 2 (ie (ac (k1==2) Zt (fun ZA=>?_) (fun ZA=>?_))))
 ·refine az (Z0 1 (iL (Z7 [1,2,0,-1,90]) 5 1 fun v4=>ZM 0 [(25,Z6 [1,2,0,-1,90])] (ic [1] (Vw rd bs (p+1) [1,2,0,-1,90] (ZB:=ob)) ?_)))
  rintro _ _ ⟨z3,rfl,rfl,YV⟩
  have hon:=YV
  exact Z0 1 (Zy 2 b3 [.i s.op,.i s.num,.i z3,.h v1,Xb s.kids] (ie (ar (XD (Jh 3 v1 s.args) (XD (UJ 0 0 3 v1.v 1 b3 (Z7 s.args) [.i s.op,.i s.num,.i z3,.h v1,Xb s.kids] (Yu _) rfl) (Z4 1 [0] (Zy 4 b2 [.i s.op,.i s.num,.i z3,ZT s.args v1.v,Xb s.kids] (ie (Za (r3 [3] [.agg [.i s.op,.i s.num,.i z3,ZT s.args v1.v,Xb s.kids]] [0] [(b2,b2)] ⟨(Z3.mk s.op s.num z3 s.args s.kids),(p+1)+1,rfl,rfl,⟨by first|exact VD.refl hg|exact VD.of hg (by first|exact .inl rfl|exact .inr hon) (by first|exact Nat.le_succ _|(simp<;>omega)) (by first|exact .inl rfl|exact .inr rfl),by omega,by omega⟩⟩ (Zc.agg (.cons (lr _) (.cons (lr _) (.cons (lr _) (.cons (Zc.forget _ _) (.cons (lr _) .nil))))))))))))))))
 refine ar (Z0 2 (ie (ac (k1==3) Zt (fun Yf=>?_) (fun Yf=>?_))))
 ·refine aE 9 (ZL 6 9 [0,1,2] [1] (Z8 3 (dL 3 [1] [b3] (Z7 [0,1,-1]) 3 1 fun v5=>Yh 5 5 [] [(33,Z6 [0,1,-1])] (Z8 4 (dc 4 [1] [0] [b3] (Vw rd bs (p+1) [0,1,-1] (ZB:=ob)) ?_)))))
  rintro _ _ ⟨z4,rfl,rfl,X9⟩
  have hon:=X9
  exact Z8 5 (dL 5 [1] [b3] (Z7 [z4]) 1 1 fun v6=>Yh 3 3 [] [(35,Z6 [z4])] (Z8 6 (dVP 6 4 [] [] v1 s.args [z4] none fun v7=>Zj 1 2 [7] (Z8 8 (YA 8 4 [] [] b3 [.i s.op,.i s.num,.i s.into,.h v7,Xb s.kids] (de (ar (XD (Jh 1 v7 (s.args++[z4])) (XD (UJ 0 0 3 v7.v 1 b3 (Z7 (s.args++[z4])) [.i s.op,.i s.num,.i s.into,.h v7,Xb s.kids] (Yu _) rfl) (Z4 1 [0] (Zy 5 b2 [.i s.op,.i s.num,.i s.into,ZT (s.args++[z4]) v7.v,Xb s.kids] (ie (Za (r3 [4] [.agg [.i s.op,.i s.num,.i s.into,ZT (s.args++[z4]) v7.v,Xb s.kids]] [0] [(b2,b2)] ⟨(Z3.mk s.op s.num s.into (s.args++[z4]) s.kids),(p+1)+1,rfl,rfl,⟨by first|exact VD.refl hg|exact VD.of hg (by first|exact .inl rfl|exact .inr hon) (by first|exact Nat.le_succ _|(simp<;>omega)) (by first|exact .inl rfl|exact .inr rfl),by omega,by omega⟩⟩ (Zc.agg (.cons (lr _) (.cons (lr _) (.cons (lr _) (.cons (Zc.forget _ _) (.cons (lr _) .nil))))))))))))))))))))
 refine ar (Z0 2 (ie (ac (k1==4) Zt (fun X3=>?_) (fun X3=>?_))))
 ·refine ar (Z4 2 [1] (Zp (JZ 2 v1 s.args) (Z0 1 (ie (ZF ((s.args.length:Int)>0) (fun Xe=>?_) (fun Xe=>?_))))))
  ·refine aE 12 (ZL 7 12 [0,1,2,3,4] [1,1] (dx 5 (JZ 2 v1 s.args) (Zj 5 6 [7] (Vg 6 8 ?_ ?_))))
   ·refine dc 6 [0] [0] [b3] (J6 rd bs (p+1) s.args.length (ZB:=ob)) ?_
    rintro _ _ ⟨Yw,rfl,rfl,XX⟩
    refine Z8 8 (dL 8 [1] [b3] (Z7 [0,1,2,3,-1,99]) 6 1 fun v8=>Yh 3 3 [] [(52,Z6 [0,1,2,3,-1,99])] (Z8 9 (dc 9 [1] [0] [b3] (Vw rd bs ((p+1)+1) [0,1,2,3,-1,99] (ZB:=ob)) ?_)))
    rintro _ _ ⟨z5,rfl,rfl,Wx⟩
    have hon:=Wx
    exact dx 10 (Vk 3 v1 s.args (Yw:Int) Yw) (Z8 11 (An 11 3 [] [] v1 s.args Yw z5 (de (ar (XD (Jh 0 v1 (s.args.set Yw z5)) (XD (UJ 0 2 3 v1.v 1 b3 (Z7 (s.args.set Yw z5)) [.i s.op,.i s.num,.i s.into,.h v1,Xb s.kids] (Yu _) rfl) (Z4 1 [0] (Zy 4 b2 [.i s.op,.i s.num,.i s.into,ZT (s.args.set Yw z5) v1.v,Xb s.kids] (ie (Za (r3 [3] [.agg [.i s.op,.i s.num,.i s.into,ZT (s.args.set Yw z5) v1.v,Xb s.kids]] [0] [(b2,b2)] ⟨(Z3.mk s.op s.num s.into (s.args.set Yw z5) s.kids),((p+1)+1)+1,rfl,rfl,⟨by first|exact VD.refl hg|exact VD.of hg (by first|exact .inl rfl|exact .inr hon) (by first|exact Nat.le_succ _|(simp<;>omega)) (by first|exact .inl rfl|exact .inr rfl),by omega,by omega⟩⟩ (Zc.agg (.cons (lr _) (.cons (lr _) (.cons (lr _) (.cons (Zc.forget _ _) (.cons (lr _) .nil)))))))))))))))))
   refine dL 8 [1,1] [b3,b3] (Z7 [0,1,2,3,-1,99]) 6 1 fun v9=>Z8 6 (dc 6 [1] [0] [b3] (J6 rd bs (p+1) s.args.length (ZB:=ob)) ?_)
   rintro _ _ ⟨YQ,rfl,rfl,Vd⟩
   refine Yh 3 3 [] [(52,Z6 [0,1,2,3,-1,99])] (Z8 9 (dc 9 [0] [0] [b3] (Vw rd bs ((p+1)+1) [0,1,2,3,-1,99] (ZB:=ob)) ?_))
   rintro _ _ ⟨z6,rfl,rfl,Vo⟩
   have hon:=Vo
   exact dx 10 (Vk 3 v1 s.args (YQ:Int) YQ) (Z8 11 (An 11 3 [] [] v1 s.args YQ z6 (de (ar (XD (Jh 0 v1 (s.args.set YQ z6)) (XD (UJ 0 2 3 v1.v 1 b3 (Z7 (s.args.set YQ z6)) [.i s.op,.i s.num,.i s.into,.h v1,Xb s.kids] (Yu _) rfl) (Z4 1 [0] (Zy 4 b2 [.i s.op,.i s.num,.i s.into,ZT (s.args.set YQ z6) v1.v,Xb s.kids] (ie (Za (r3 [3] [.agg [.i s.op,.i s.num,.i s.into,ZT (s.args.set YQ z6) v1.v,Xb s.kids]] [0] [(b2,b2)] ⟨(Z3.mk s.op s.num s.into (s.args.set YQ z6) s.kids),((p+1)+1)+1,rfl,rfl,⟨by first|exact VD.refl hg|exact VD.of hg (by first|exact .inl rfl|exact .inr hon) (by first|exact Nat.le_succ _|(simp<;>omega)) (by first|exact .inl rfl|exact .inr rfl),by omega,by omega⟩⟩ (Zc.agg (.cons (lr _) (.cons (lr _) (.cons (lr _) (.cons (Zc.forget _ _) (.cons (lr _) .nil)))))))))))))))))
  exact ak (ar (XD (Jh 2 v1 s.args) (XD (UJ 0 1 3 v1.v 1 b3 (Z7 s.args) [.i s.op,.i s.num,.i s.into,.h v1,Xb s.kids] (Yu _) rfl) (Z4 1 [0] (Zy 3 b2 [.i s.op,.i s.num,.i s.into,ZT s.args v1.v,Xb s.kids] (ie (Za (r3 [3] [.agg [.i s.op,.i s.num,.i s.into,ZT s.args v1.v,Xb s.kids]] [0] [(b2,b2)] ⟨s,p+1,rfl,rfl,⟨by first|exact VD.refl hg|exact VD.of hg (by first|exact .inl rfl|exact .inr hon) (by first|exact Nat.le_succ _|(simp<;>omega)) (by first|exact .inl rfl|exact .inr rfl),by omega,by omega⟩⟩ (Zc.agg (.cons (lr _) (.cons (lr _) (.cons (lr _) (.cons (Zc.forget _ _) (.cons (lr _) .nil))))))))))))))
 refine ar (Z0 2 (ie (ac (k1==5) Zt (fun Vx=>?_) (fun Vx=>?_))))
 ·refine ar (Z4 2 [1] (iw (Vh s.kids) (Z0 1 (ie (ZF ((s.kids.length:Int)>0) (fun Vn=>?_) (fun Vn=>?_))))))
  ·exact az (Z4 2 [1] (Zp (KD (es:=Yt s.kids) (hv:=none) (l:=1) (m:=(((Yt s.kids).length:Nat):Int)) (sz:=2) (es':=Yt (s.kids.drop 1)) kr om (by simp<;>omega) (by simp<;>omega) (UO _) (by first|(simp only [VW,Vl,GM,GK];done)|(simp only [VW,Vl,GM,GK];rfl)|(simp [GM,GK];done))) (Z0 1 (Zy 1 b3 [.i s.op,.i s.num,.i s.into,.h v1,Xb (s.kids.drop 1)] (ie (ar (XD (Jh 2 v1 s.args) (XD (UJ 0 0 3 v1.v 1 b3 (Z7 s.args) [.i s.op,.i s.num,.i s.into,.h v1,Xb (s.kids.drop 1)] (Yu _) rfl) (Z4 1 [0] (Zy 3 b2 [.i s.op,.i s.num,.i s.into,ZT s.args v1.v,Xb (s.kids.drop 1)] (ie (Za (r3 [3] [.agg [.i s.op,.i s.num,.i s.into,ZT s.args v1.v,Xb (s.kids.drop 1)]] [0] [(b2,b2)] ⟨(Z3.mk s.op s.num s.into s.args (s.kids.drop 1)),p+1,rfl,rfl,⟨by first|exact VD.refl hg|exact VD.of hg (by first|exact .inl rfl|exact .inr hon) (by first|exact Nat.le_succ _|(simp<;>omega)) (by first|exact .inl rfl|exact .inr rfl),by omega,by omega⟩⟩ (Zc.agg (.cons (lr _) (.cons (lr _) (.cons (lr _) (.cons (Zc.forget _ _) (.cons (lr _) .nil)))))))))))))))))))
  exact ak (ar (XD (Jh 2 v1 s.args) (XD (UJ 0 1 3 v1.v 1 b3 (Z7 s.args) [.i s.op,.i s.num,.i s.into,.h v1,Xb s.kids] (Yu _) rfl) (Z4 1 [0] (Zy 3 b2 [.i s.op,.i s.num,.i s.into,ZT s.args v1.v,Xb s.kids] (ie (Za (r3 [3] [.agg [.i s.op,.i s.num,.i s.into,ZT s.args v1.v,Xb s.kids]] [0] [(b2,b2)] ⟨s,p+1,rfl,rfl,⟨by first|exact VD.refl hg|exact VD.of hg (by first|exact .inl rfl|exact .inr hon) (by first|exact Nat.le_succ _|(simp<;>omega)) (by first|exact .inl rfl|exact .inr rfl),by omega,by omega⟩⟩ (Zc.agg (.cons (lr _) (.cons (lr _) (.cons (lr _) (.cons (Zc.forget _ _) (.cons (lr _) .nil))))))))))))))
 exact ak (ar (XD (Jh 2 v1 s.args) (XD (UJ 0 1 3 v1.v 1 b3 (Z7 s.args) [.i s.op,.i s.num,.i s.into,.h v1,Xb s.kids] (Yu _) rfl) (Z4 1 [0] (Zy 3 b2 [.i s.op,.i s.num,.i s.into,ZT s.args v1.v,Xb s.kids] (ie (Za (r3 [3] [.agg [.i s.op,.i s.num,.i s.into,ZT s.args v1.v,Xb s.kids]] [0] [(b2,b2)] ⟨s,p+1,rfl,rfl,⟨by first|exact VD.refl hg|exact VD.of hg (by first|exact .inl rfl|exact .inr hon) (by first|exact Nat.le_succ _|(simp<;>omega)) (by first|exact .inl rfl|exact .inr rfl),by omega,by omega⟩⟩ (Zc.agg (.cons (lr _) (.cons (lr _) (.cons (lr _) (.cons (Zc.forget _ _) (.cons (lr _) .nil))))))))))))))
theorem Z3k (rd:Nat) (bs:LI) (p:Nat) (mx:Int) (ZB:∀z∈bs,0<=z/\z<=255) (hp:p+1<=1000000000):Zl 50 [.p rd 0,.i mx] [Yk rd bs p] (fun r h=>∃(k:Int),r=.i k/\h=[.obj rd [VK bs,.i (p+1:Nat)]]/\Pk mx k/\k=JW bs p mx):=by
 refine ZC 99 Tryz.func50 (ar (Z0 1 (ie (ar (Z4 5 [0] (ZD p (Z0 2 (Zy 0 rd [VK bs,.i (p+1:Nat)] (ie (aq (ar (X8 [0,1] [(24,.b ((decide (mx<1))||((bs.length:Int)==0)))] (fun gz=>gz) ?_ ?_))))))))))))
 ·refine Z0 3 (ib (b:=(decide (mx<1))) 17 (fun Zf=>?_) (fun Zf=>?_))
  ·exact Z0 7 (ie (wk [0] (Zr true Zf fl)))
  exact Z4 4 [0] (iw (QX bs) (Z0 2 (ie (wk [0] (Zr ((bs.length:Int)==0) Zf fl)))))
 refine ac ((decide (mx<1))||((bs.length:Int)==0)) (p:=(mx<1)∨((bs.length:Int)=0)) (Yn dq Zt) (fun Zb=>?_) (fun Zb=>?_)
 ·exact ar (Z0 1 (ie (Za (r1 [0] ⟨0,rfl,rfl,⟨Pk.zero,by rw [JW,Zk om]⟩⟩))))
 refine ak (ar (Z4 4 [0] (ia ((p:Int)) ((((p+1:Nat):Int))-(1)) (Z0 1 (ie (aq (ar (Z4 5 [0] (iw (QX bs) (Z0 1 (ie (ZF ((p:Int)<(bs.length:Int)) (fun Zg=>?_) (fun Zg=>?_)))))))))))))
 ·refine ar (Z4 5 [0] ?_)
  obtain ⟨x1,Z2⟩:=Zs bs p om
  have hz:=ZB _ (Y0 Z2)
  exact Zp (Zi none (p:Int) 1 (BN Z2)) (Z0 1 (Zp (C8 x1 om) (Z0 1 (Zp (Df x1 mx om om) (Z0 1 (ie (Za (r1 [0] ⟨(x1 % mx),rfl,rfl,⟨Pk.rem om om,by rw [JW,Z9 om,Zk om,Z2];rfl⟩⟩))))))))
 have hq1:p / bs.length<=p:=Nat.div_le_self _ _
 have hq0:(0:Int)<=((p / bs.length:Nat):Int):=Int.natCast_nonneg _
 refine ak (aD 46 (ZL 37 46 [0,1,2,3,4,5,6,7,8] [0,0] (dw 9 (QX bs) (dx 10 (EX p bs.length om om) ?_))))
 obtain ⟨x2,Zo⟩:=Zs bs (p % bs.length) (Nat.mod_lt _ om)
 have hz:=ZB _ (Y0 Zo)
 have hy2:=Zo
 refine dx 11 (Zi none ((p % bs.length:Nat):Int) 1 (BN Zo)) (Zj 33 34 [12] (dx 13 (C8 x2 om) (da 14 ((x2*131)) ((x2)*(131)) (ZL 26 31 [15,16,17,18,19] [0] (da 20 (((p*7:Nat):Int)) (((p:Int))*(7)) (da 21 (((p*7+3:Nat):Int)) ((((p*7:Nat):Int))+(3)) (ZL 20 24 [22,23,24,25] [0] (dw 26 (QX bs) (dx 27 (EX (p*7+3) bs.length om om) ?_)))))))))
 obtain ⟨x3,YJ⟩:=Zs bs ((p*7+3) % bs.length) (Nat.mod_lt _ om)
 have hz3:=ZB _ (Y0 YJ)
 have hy3:=YJ
 exact dx 28 (Zi none (((p*7+3) % bs.length:Nat):Int) 1 (BN YJ)) (Zj 16 17 [29] (dx 30 (C8 x3 om) (da 31 ((x3*1117)) ((x3)*(1117)) (da 32 (((x2*131)+(x3*1117))) (((x2*131))+((x3*1117))) (Zj 12 13 [33] (da 34 (((p*29:Nat):Int)) (((p:Int))*(29)) (da 35 ((((x2*131)+(x3*1117))+((p*29:Nat):Int))) ((((x2*131)+(x3*1117)))+(((p*29:Nat):Int))) (ZL 5 10 [36,37,38,39,40] [0] (dw 41 (QX bs) (dx 42 (Bo p bs.length om om) (da 43 ((((p / bs.length:Nat):Int)*53)) ((((p / bs.length:Nat):Int))*(53)) (da 44 (((((x2*131)+(x3*1117))+((p*29:Nat):Int))+(((p / bs.length:Nat):Int)*53))) (((((x2*131)+(x3*1117))+((p*29:Nat):Int)))+((((p / bs.length:Nat):Int)*53))) (Zj 0 1 [45] (de (ar (Z0 2 (Zp (HA ((((x2*131)+(x3*1117))+((p*29:Nat):Int))+(((p / bs.length:Nat):Int)*53)) 64 om om) (Zp (N3 ((((x2*131)+(x3*1117))+((p*29:Nat):Int))+(((p / bs.length:Nat):Int)*53)) (((((x2*131)+(x3*1117))+((p*29:Nat):Int))+(((p / bs.length:Nat):Int)*53)) / 64)) (Z0 1 (ie (ar (Z0 2 (Zp (Df (A1 ((((x2*131)+(x3*1117))+((p*29:Nat):Int))+(((p / bs.length:Nat):Int)*53)) (((((x2*131)+(x3*1117))+((p*29:Nat):Int))+(((p / bs.length:Nat):Int)*53)) / 64)) mx om (FZ ⟨by omega,by omega⟩ ⟨by omega,by omega⟩).1) (Z0 1 (ie (Za (r1 [0] ⟨((A1 ((((x2*131)+(x3*1117))+((p*29:Nat):Int))+(((p / bs.length:Nat):Int)*53)) (((((x2*131)+(x3*1117))+((p*29:Nat):Int))+(((p / bs.length:Nat):Int)*53)) / 64)) % mx),rfl,rfl,⟨Pk.rem (FZ ⟨by omega,by omega⟩ ⟨by omega,by omega⟩).1 om,by rw [JW,Z9 om,Z9 om,hy2,hy3];rfl⟩⟩)))))))))))))))))))))))))))
theorem Z3l (rd:Nat) (bs:LI) (p:Nat) (mx:Nat) (ZB:∀z∈bs,0<=z/\z<=255) (hp:p+1<=1000000000:=by exact ob) (hmx:0<mx:=by exact ob):Zl 50 [.p rd 0,.i mx] [Yk rd bs p] (fun r h=>∃(kn:Nat),r=.i kn/\h=[.obj rd [VK bs,.i (p+1:Nat)]]/\kn<mx/\kn=(JW bs p mx).toNat):=(Z3k rd bs p mx ZB hp).mono fun r h ⟨z,hr,hh,hz,he⟩=>by
  have h0:=hz.lt om
  exact ⟨z.toNat,by rw [hr,Int.toNat_of_nonneg h0.1],hh,by omega,by rw [he]⟩
theorem SW (s:Z3) (hz:s.sz<=1000000000):Zl 127 [Ys s] [] (fun r h=>∃(v:Hd),r=.agg [.i s.op,.i s.num,.i s.into,Z6 s.args,.h v]/\h=[rK v 2 (Ze (Yt s.kids))]):=by
 have hkz:=Ud s
 have haz:=Te s
 refine ZC 33 Tryz.func127 (ar (iA (Xa s) fun b1=>iA [.i 0,.i 0,.i 0,nl,nl] fun b2=>ie (ar (C4 2 fun g1=>?_))))
 refine Z0 1 (ie (aq (ar (Z0 1 (ie (ab 0 (ZV (fun fz gz m F h=>∃(k:Nat) (v:Hd),(k<=s.kids.length)/\F=sF [1,2] fz [(3,.h v),(4,.i k)]/\h=[Zh gz 1,Zh gz 2,rK v 2 (Ze (Yt (s.kids.take k)))]/\m=s.kids.length-k) _ _ _ ⟨0,(⟨some ⟨g1,0,none⟩,0,0⟩:Hd),ob,rfl,rfl,rfl⟩ (wk [1,1,0] (fr (ZZ fl)) (e:=(rc (rc (rr (ls:=[]) ob rz))))) ?_)))))))
 rintro m F h ⟨k,v,Y4,rfl,rfl,rfl⟩
 refine aq (ar (Z4 3 [1] (iw (Vh s.kids) (Z0 1 (ie (ZF ((k:Int)<(s.kids.length:Int)) (fun Zb=>?_) (fun Zb=>?_)))))))
 ·refine ak (aq (ab 1 (az (Z4 4 [1] ?_))))
  obtain ⟨x1,Z2⟩:=Zs s.kids k om
  have hks:=Uc Z2
  exact Zp (Zi none (k:Int) 2 (VR Z2)) (Z0 1 (Zx [] (FJ x1) (iL [ZE x1] 1 2 fun v1=>ZM 0 [(20,.sl [ZE x1] none)] (EQ 3 k v 2 (Ze (Yt (s.kids.take k))) [ZE x1] none (by rw [CV,Wm,Va om]) (UX rfl) rfl (List.cons_ne_nil _ _) (by simp<;>omega) fun v2=>Z0 1 (ie (az (Z0 1 (ZD k (Z0 1 (ie (ZG ⟨k+1,v2,ob,rfl,rfl,rfl⟩ (wk [2,2,0] (fr (ZK k fl)) (e:=(rc (rc (rr (ls:=Ze (Yt (s.kids.take k))++Ze [ZE x1]) (Z1n Z2) rz))))))))))))))))
 refine ax 0 (aD 12 (ZL 3 12 [0,1,2,3,4,5,6,7,9] [1,1,1,1] (Z8 8 (dc 8 [] [1,1,1] [b1,b1,b1] (VL s.args) ?_))))
 rintro _ _ ⟨v3,rfl,rfl⟩
 exact Zj 1 2 [10] (Z8 11 (YA 11 1 [] [] b2 [.i s.op,.i s.num,.i s.into,ZT s.args v3,.h v] (de (Za (r3 [3] [.agg [.i s.op,.i s.num,.i s.into,ZT s.args v3,.h v]] [0] [(b2,b2)] ⟨v,rfl,rfl⟩ (Zc.agg (.cons (lr _) (.cons (lr _) (.cons (lr _) (.cons (Zc.forget _ _) (.cons (lr _) .nil)))))) (eq:=(rr (ls:=Ze (Yt (s.kids.take k))) (by rw [WA om]) rz)))))))
theorem SV (s:Z3) (fl:Bool) (hz:s.sz<=1000000000:=by exact ob):Zl 127 [Ys s] [] (fun r h=>(∃(v:Hd),r=.agg [.i s.op,.i s.num,.i s.into,Z6 s.args,.h v]/\h=[rK v 2 (Ze (Yt s.kids))]/\fl=true)∨(r=Ys s/\h=[]/\fl=false)):=by
 cases fl with
 | true=>exact (SW s hz).mono fun r h ⟨v,hr,hh⟩=>.inl ⟨v,hr,hh,rfl⟩
 | false=>exact (Pn s hz).mono fun r h ⟨hr,hh⟩=>.inr ⟨hr,hh,rfl⟩
theorem SR (b:Z5) (kk:Nat) (hz:b.sz<=1000000000:=by exact ob) (hkk:kk<b.steps.length:=by exact ob):Zl 86 [ZE b] [] (fun r h=>∃(v:Hd) (u:Hd),r=.agg [.h v,.i b.result]/\h=[rK v 5 (Wy b kk u.v b.steps.length),rK u 2 (UE b kk b.steps.length)]):=by
 have hbz:=V3 b
 refine ZC 28 Tryz.func86 (ar (iA (YU b) fun b1=>iA [nl,.i 0] fun b2=>ie (ar (C4 5 fun g1=>Z4 3 [2] (iA [nl,.i 0] fun b3=>?_)))))
 refine Zy 0 b3 [.ms g1 0 0 0,.i b.result] (ie (aq (ar (XD (Ix (k:=2)) (Z0 1 (ie (ab 0 (ZV (fun fz gz m F h=>∃(k:Nat) (v:Hd) (u:Hd),(k<=b.steps.length)/\F=sF [1,2,3] fz [(4,.i k)]/\h=[.obj b3 [.h v,.i b.result],Zh gz 3,Zh gz 4,rK v 5 (Wy b kk u.v k),rK u 2 (UE b kk k)]/\m=b.steps.length-k) _ _ _ ⟨0,(⟨some ⟨g1,0,none⟩,0,0⟩:Hd),hN,ob,rfl,rfl,rfl⟩ (wk [1,2,2,1,0] (ZZ fl) (e:=(rc (rc (rc (rr (ls:=[]) (by first|exact N6.symm|exact N9.symm) (rr (ls:=[]) (by first|exact N6.symm|exact N9.symm) rz))))))) ?_))))))))
 rintro m F h ⟨k,v,u,Y4,rfl,rfl,rfl⟩
 refine aq (ar (Z4 3 [2] (iw (WW b.steps) (Z0 1 (ie (ZF ((k:Int)<(b.steps.length:Int)) (fun Zb=>?_) (fun Zb=>?_)))))))
 ·refine ak (aq (ab 1 (aE 12 (ZL 7 12 [0,1,2,3,4] [0,2] ?_))))
  obtain ⟨x1,Z2⟩:=Zs b.steps k om
  have hss:=Qq Z2
  refine dx 5 (Zi none (k:Int) 5 (W3 Z2)) (Zj 5 6 [6] (Z8 7 (dc 7 [] [0] [b3] (SV x1 (decide (k=kk))) ?_)))
  rintro _ _ (⟨v1,rfl,rfl,Y2⟩|⟨rfl,rfl,Yl⟩)
  ·have hke:k=kk:=of_decide_eq_true Y2
   exact Eg (PW [1,1,1,0,0,0] (h':=[.obj b3 [.h v,.i b.result],.obj b2 [nl,.i 0],.obj b1 (YU b),rK v1 2 (Ze (Yt x1.kids)),rK v 5 (Wy b kk u.v k),rK u 2 (UE b kk k)]) (d:=[]) kr) (Z8 8 (dL 8 [0] [b3] [.agg [.i x1.op,.i x1.num,.i x1.into,Z6 x1.args,.h v1]] 1 5 fun v2=>Yh 3 3 [] [(24,.sl [.agg [.i x1.op,.i x1.num,.i x1.into,Z6 x1.args,.h v1]] none)] (Z8 9 (Gz 9 5 k [] [] v 5 (Wy b kk u.v k) [.agg [.i x1.op,.i x1.num,.i x1.into,Z6 x1.args,.h v1]] none (HD om) (UX rfl) rfl (List.cons_ne_nil _ _) (by simp<;>omega) fun v3=>Zj 1 2 [10] (Z8 11 (YA 11 2 [] [] b3 [.h v3,.i b.result] (de (az (Z0 1 (ZD k (Z0 1 (ie (ZG ⟨k+1,v3,v1,ob,rfl,rfl,rfl⟩ (wk [0,2,2,0,1] (ZK k fl) (e:=(rc (rc (rc (rr (ls:=Wy b kk u.v k++Ze [.agg [.i x1.op,.i x1.num,.i x1.into,Z6 x1.args,.h v1]]) (by first|(subst hke;exact N5 Z2)|(subst hke;exact N8 Z2)) (rr (ls:=Ze (Yt x1.kids)) (by first|(subst hke;exact N5 Z2)|(subst hke;exact N8 Z2)) rz))))))))))))))))))))
  have hke:¬k=kk:=of_decide_eq_false Yl
  exact Z8 8 (dL 8 [0] [b3] [Ys x1] 1 5 fun v4=>Yh 3 3 [] [(24,.sl [Ys x1] none)] (Z8 9 (Gz 9 4 k [] [] v 5 (Wy b kk u.v k) [Ys x1] none (HD om) (UX rfl) rfl (List.cons_ne_nil _ _) (by simp<;>omega) fun v5=>Zj 1 2 [10] (Z8 11 (YA 11 2 [] [] b3 [.h v5,.i b.result] (de (az (Z0 1 (ZD k (Z0 1 (ie (ZG ⟨k+1,v5,u,ob,rfl,rfl,rfl⟩ (wk [0,2,2,0,1] (ZK k fl) (e:=(rc (rc (rc (rr (ls:=Wy b kk u.v k++Ze [Ys x1]) (by first|exact N4 Z2 hke|exact N7 hke) (rr (ls:=UE b kk k) (by first|exact N4 Z2 hke|exact N7 hke) rz)))))))))))))))))))
 exact ax 0 (ar (Z4 1 [0] (Zy 1 b2 [.h v,.i b.result] (ie (Za (r3 [3,3] [.agg [.h v,.i b.result]] [0] [(b2,b2)] ⟨v,u,rfl,rfl⟩ (lr _) (eq:=(rr (ls:=Wy b kk u.v k) (by rw [show k=b.steps.length by omega]) (rr (ls:=UE b kk k) (by rw [show k=b.steps.length by omega]) rz)))))))))
theorem Z3s (rd:Nat) (bs:LI) (p:Nat) (b:Z5) (ZB:∀z∈bs,0<=z/\z<=255) (hp:p+(10*b.sz)<=1000000000) (hz:b.sz<=20000000) (hg:b.rng) (h0:b.steps.length=0):Zl 53 [.p rd 0,ZE b] [Yk rd bs p] (fun r h=>∃(y:Z5) (p2:Nat),r=ZE y/\h=[Yk rd bs p2]/\Xm b y/\p<=p2/\p2<=p+(10*b.sz)):=by
 have hbp:=b.sz_pos
 refine ZC 109 Tryz.func53 (ar (iA (YU b) fun b1=>iA [nl,.i 0] fun b2=>ie (ar (Z4 1 [1] (Zx [] (FJ b) (iA [nl,.i 0] fun b3=>Zy 0 b3 (YU b) (ie (aq (ar (Z4 2 [0] (iw (WW b.steps) (Z0 2 (ib (b:=((b.steps.length:Int)==0)) 14 (fun Zf=>?_) (fun Zf=>?_))))))))))))))
 ·refine Z0 4 (ie (WI (ar (Z0 1 (iL (Z7 [0,1,2,3,-1,99]) 6 1 fun v1=>ZM 0 [(20,Z6 [0,1,2,3,-1,99])] (ic [4] (Vw rd bs p [0,1,2,3,-1,99] (ZB:=ob)) ?_))))))
  rintro _ _ ⟨z1,rfl,rfl,Yl⟩
  exact Z0 1 (Zy 2 b3 [Wz b.steps,.i z1] (ie (ar (Z4 1 [0] (Zy 3 b2 [Wz b.steps,.i z1] (ie (Za (r3 [2] [.agg [Wz b.steps,.i z1]] [0] [(b2,b2)] ⟨(Z5.mk b.steps z1),p+1,rfl,rfl,⟨Xm.result hg _,by have:=b.sz_pos;omega,by have:=b.sz_pos;omega⟩⟩ (lr _)))))))))
 have YO:¬((b.steps.length:Int)=0):=Yi Zt Zf
 exact absurd (show (b.steps.length:Int)=0 by omega) YO
theorem Z3t (rd:Nat) (bs:LI) (p:Nat) (b:Z5) (ZB:∀z∈bs,0<=z/\z<=255) (hp:p+(10*b.sz)<=1000000000) (hz:b.sz<=20000000) (hg:b.rng) (h0:0<b.steps.length) (ih:∀(rd:Nat) (bs:LI) (p:Nat) (b2:Z5),(∀z∈bs,0<=z/\z<=255)->(p+(10*b2.sz)<=1000000000)->(b2.sz<=20000000)->(b2.rng)->(b2.sz<b.sz)->Zl 53 [.p rd 0,ZE b2] [Yk rd bs p] (fun r h=>∃(y:Z5) (p2:Nat),r=ZE y/\h=[Yk rd bs p2]/\Xm b2 y/\p<=p2/\p2<=p+(10*b2.sz))):Zl 53 [.p rd 0,ZE b] [Yk rd bs p] (fun r h=>∃(y:Z5) (p2:Nat),r=ZE y/\h=[Yk rd bs p2]/\Xm b y/\p<=p2/\p2<=p+(10*b.sz)):=by
 have hbp:=b.sz_pos
 obtain ⟨kk,hkk⟩:∃kk,kk=(JW bs (p+1) (b.steps.length:Int)).toNat:=⟨_,rfl⟩
 have hkl:kk<b.steps.length:=by have:=Z89 (bs:=bs) (p:=p+1) (mx:=(b.steps.length:Int)) om;omega
 obtain ⟨sk,hsk⟩:=Zs b.steps kk hkl
 have hsb:=Qq hsk
 have hsg:=Z8x hg hsk
 have hst:=V3 b
 refine ZC 109 Tryz.func53 (ar (iA (YU b) fun b1=>iA [nl,.i 0] fun b2=>ie (ar (Z4 1 [1] (ic [] (SR b kk) ?_)))))
 rintro _ _ ⟨v1,u1,rfl,rfl⟩
 refine EP 0 b.steps.length (v:=v1) (HD (kk:=kk) (u:=u1.v) (YR b.steps.length)) om (fun g1 c1 he1=>?_)
 subst he1
 refine XD (PW [0,1,1,1,0] (h':=[.row (.slice (some ⟨g1,0,none⟩) b.steps.length c1) 5 (Wy b kk u1.v b.steps.length),.obj b2 [nl,.i 0],.obj b1 (YU b),Yk rd bs p,rK u1 2 (UE b kk b.steps.length)]) (d:=[]) kr) (iA [nl,.i 0] fun b3=>Zy 0 b3 [.ms g1 0 b.steps.length c1,.i b.result] (ie (aq (ar (Z4 2 [0] (io (.i b.steps.length) (.i b.steps.length) (lr _) (Z0 2 (ib (b:=((b.steps.length:Int)==0)) 14 (fun Zf=>?_) (fun Zf=>?_)))))))))
 ·have Y2:(b.steps.length:Int)=0:=(Zt).1 Zf
  exact absurd Y2 om
 have Yl:¬((b.steps.length:Int)=0):=Yi Zt Zf
 refine Z0 1 (ic [4] (XO rd bs p 5 (ZB:=ob)) ?_)
 rintro _ _ ⟨k1,rfl,rfl,YO⟩
 refine Z0 2 (ie (ac (k1==0) Zt (fun Zb=>?_) (fun Zb=>?_)))
 ·refine ar (XD (It 5 2 b kk sk u1.v (.slice (some ⟨g1,0,none⟩) b.steps.length c1) hsk) (XD (UJ 0 2 0 (.slice (some ⟨g1,0,none⟩) b.steps.length c1) 5 b3 (Zv b.steps) [.ms g1 0 b.steps.length c1,.i b.result] (YZ _) rfl) (Z0 1 (iL (Z7 [0,1,2,3,-1,99]) 6 1 fun v2=>ZM 0 [(20,Z6 [0,1,2,3,-1,99])] (ic [4] (Vw rd bs (p+1) [0,1,2,3,-1,99] (ZB:=ob)) ?_)))))
  rintro _ _ ⟨z1,rfl,rfl,YV⟩
  exact Z0 1 (Zy 2 b3 [YE b.steps (.slice (some ⟨g1,0,none⟩) b.steps.length c1),.i z1] (ie (ar (Z4 1 [0] (Zy 5 b2 [YE b.steps (.slice (some ⟨g1,0,none⟩) b.steps.length c1),.i z1] (ie (Za (r3 [2] [.agg [YE b.steps (.slice (some ⟨g1,0,none⟩) b.steps.length c1),.i z1]] [0] [(b2,b2)] ⟨(Z5.mk b.steps z1),(p+1)+1,rfl,rfl,(by first|exact ⟨Xm.result hg _,by omega,by omega⟩|exact ⟨Xm.kid hg hsk hck hyb.1,by omega,by omega⟩|exact ⟨Xm.del hg,by omega,by omega⟩|exact ⟨Xm.put hg,by omega,by omega⟩|exact ⟨Xm.set hg hsk ⟨by have:=hys.1.1;omega,hys.1.2⟩,by omega,by omega⟩)⟩ (Zc.agg (.cons (Zc.forget _ _) (.cons (lr _) .nil)))))))))))
 refine ak (ar (Z4 3 [1] (io (.i b.steps.length) (.i b.steps.length) (lr _) (ic [0] (Z3l rd bs (p+1) b.steps.length (ZB:=ob)) ?_))))
 rintro _ _ ⟨Yw,rfl,rfl,X9⟩
 have hkn:Yw=kk:=by have:=X9.2;omega
 refine Z0 1 (ie (aq (ar (Z4 3 [1] (Zp (XJ g1 b.steps.length c1 Yw 5 (Yw:Int)) (Z0 1 (Vz (WL 2 g1 b.steps.length c1 5 (Yw*5+4) (Wy b kk u1.v b.steps.length) [.h u1] 42 (.h u1) (by rw [hkn];exact F3 hsk)) (Zp (N2 5 sk.kids.length u1 2 (UE b kk b.steps.length) (by rw [HE hsk];exact CV _)) (Z0 2 (ib (b:=(decide ((sk.kids.length:Int)>0))) 37 (fun ZH=>?_) (fun ZH=>?_)))))))))))
 ·have XX:(sk.kids.length:Int)>0:=(dq).1 ZH
  refine Z0 1 (ic [0] (XO rd bs ((p+1)+1) 3 (ZB:=ob)) ?_)
  rintro _ _ ⟨k2,rfl,rfl,Wx⟩
  refine Z0 2 (ie (ZF (k2>0) (fun Zg=>?_) (fun Zg=>?_)))
  ·refine ar (XD (Cq 5 u1.v 2 (UE b kk b.steps.length) (Ze (Yt sk.kids)) (HE hsk)) (EP 0 sk.kids.length (v:=u1) (CV _) om (fun g2 c2 he2=>?_)))
   subst he2
   refine Z4 4 [2] (Zp (XJ g1 b.steps.length c1 Yw 5 (Yw:Int)) (Z0 1 (Vz (WL 3 g1 b.steps.length c1 5 (Yw*5+4) (Wy b kk (.slice (some ⟨g2,0,none⟩) sk.kids.length c2) b.steps.length) [.ms g2 0 sk.kids.length c2] 42 (.ms g2 0 sk.kids.length c2) (by rw [hkn];exact F3 hsk)) (io (.i sk.kids.length) (.i sk.kids.length) (lr _) (ic [1] (J6 rd bs (((p+1)+1)+1) sk.kids.length (ZB:=ob)) ?_)))))
   rintro _ _ ⟨YQ,rfl,rfl,Vd⟩
   obtain ⟨ck,hck⟩:=Zs sk.kids YQ om
   have hckz:=Uc hck
   have hckb:=Qq hsk
   have hckg:=Z8u hg hsk hck
   refine Z0 1 (ie (aD 20 (ZL 17 20 [0,1,2] [2] (dx 3 (XJ g1 b.steps.length c1 Yw 5 (Yw:Int)) (Zj 15 16 [4] (VQ 5 (WL 3 g1 b.steps.length c1 5 (Yw*5+4) (Wy b kk (.slice (some ⟨g2,0,none⟩) sk.kids.length c2) b.steps.length) [.ms g2 0 sk.kids.length c2] 42 (.ms g2 0 sk.kids.length c2) (by rw [hkn];exact F3 hsk)) (ZL 9 14 [6,7,8,9,10] [2] (dx 11 (XJ g1 b.steps.length c1 Yw 5 (Yw:Int)) (Zj 7 8 [12] (VQ 13 (WL 3 g1 b.steps.length c1 5 (Yw*5+4) (Wy b kk (.slice (some ⟨g2,0,none⟩) sk.kids.length c2) b.steps.length) [.ms g2 0 sk.kids.length c2] 42 (.ms g2 0 sk.kids.length c2) (by rw [hkn];exact F3 hsk)) (Zj 5 6 [14] (dx 15 (XJ g2 sk.kids.length c2 YQ 2 (YQ:Int)) (VQ 16 (WL 1 g2 sk.kids.length c2 2 (YQ*2) (Ze (Yt sk.kids)) (YU ck) 30 (ZE ck) (Z1m hck)) (Z8 17 (dc 17 [0] [2,1] [g1,b3] (ih rd bs ((((p+1)+1)+1)+1) ck ob ob ob ob ob) ?_)))))))))))))))
   rintro _ _ ⟨y1,p21,rfl,rfl,Vo⟩
   have hyb:=Vo
   exact dx 18 (XJ g2 sk.kids.length c2 YQ 2 (YQ:Int)) (Z8 19 (Am 19 1 [] [] g2 sk.kids.length c2 2 (YQ*2) (YU y1) (Ze (Yt sk.kids)) (Ze (Yt (sk.kids.set YQ y1))) (by rw [CV];simp only [YH,Xg];omega) (Z1o y1 om) (de (ar (XD (PN 0 2 b kk sk (sk.kids.set YQ y1) (.slice (some ⟨g2,0,none⟩) sk.kids.length c2) (.slice (some ⟨g1,0,none⟩) b.steps.length c1) hsk) (XD (UJ 0 2 0 (.slice (some ⟨g1,0,none⟩) b.steps.length c1) 5 b3 (Zv (b.steps.set kk (Z3.mk sk.op sk.num sk.into sk.args (sk.kids.set YQ y1)))) [.ms g1 0 b.steps.length c1,.i b.result] (YZ _) rfl) (Z4 1 [0] (Zy 4 b2 [YE (b.steps.set kk (Z3.mk sk.op sk.num sk.into sk.args (sk.kids.set YQ y1))) (.slice (some ⟨g1,0,none⟩) b.steps.length c1),.i b.result] (ie (Za (r3 [4] [.agg [YE (b.steps.set kk (Z3.mk sk.op sk.num sk.into sk.args (sk.kids.set YQ y1))) (.slice (some ⟨g1,0,none⟩) b.steps.length c1),.i b.result]] [0] [(b2,b2)] ⟨(Z5.mk (b.steps.set kk (Z3.mk sk.op sk.num sk.into sk.args (sk.kids.set YQ y1))) b.result),p21,rfl,rfl,(by first|exact ⟨Xm.result hg _,by omega,by omega⟩|exact ⟨Xm.kid hg hsk hck hyb.1,by omega,by omega⟩|exact ⟨Xm.del hg,by omega,by omega⟩|exact ⟨Xm.put hg,by omega,by omega⟩|exact ⟨Xm.set hg hsk ⟨by have:=hys.1.1;omega,hys.1.2⟩,by omega,by omega⟩)⟩ (Zc.agg (.cons (Zc.forget _ _) (.cons (lr _) .nil))))))))))))))
  refine ak (aq (ar (XD (It 5 2 b kk sk u1.v (.slice (some ⟨g1,0,none⟩) b.steps.length c1) hsk) (Z0 1 (ic [2] (XO rd bs (((p+1)+1)+1) 4 (ZB:=ob)) ?_)))))
  rintro _ _ ⟨k3,rfl,rfl,UT⟩
  refine ie (ab 0 (ar (Z0 2 (ie (ac (k3==0) Zt (fun ZA=>?_) (fun ZA=>?_))))))
  ·exact aE 12 (ZL 9 12 [0,1,2] [3] (dx 3 (Hz 1 g1 b.steps.length c1 Yw 5 (Ze (Zv b.steps))) (ZL 5 8 [4,5,6] [3] (da 7 (((Yw+1:Nat):Int)) (((Yw:Int))+(1)) (dx 8 (N0 1 g1 b.steps.length c1 (Yw+1) 5 (Ze (Zv b.steps))) (Z8 9 (LG 9 1 [] [] g1 b.steps.length c1 Yw (Yw+1) 5 (Ze (Zv b.steps)) (Vv _) (Zj 1 2 [10] (Z8 11 (YA 11 3 [] [] b3 [.ms g1 0 (Yw+(b.steps.length-(Yw+1))) c1,.i b.result] (de (ar (XD (Cq 1 (.slice (some ⟨g1,0,none⟩) (Yw+(b.steps.length-(Yw+1))) c1) 5 (((Ze (Zv b.steps)).take (Yw*5))++((Ze (Zv b.steps)).drop ((Yw+1)*5))) (Ze (Zv (b.steps.take kk++b.steps.drop (kk+1)))) (by rw [hkn];exact Mb hkl)) (XD (UJ 0 0 0 (.slice (some ⟨g1,0,none⟩) (Yw+(b.steps.length-(Yw+1))) c1) 5 b3 (Zv (b.steps.take kk++b.steps.drop (kk+1))) [.ms g1 0 (Yw+(b.steps.length-(Yw+1))) c1,.i b.result] (YZ _) rfl) (Z4 1 [0] (Zy 4 b2 [YE (b.steps.take kk++b.steps.drop (kk+1)) (.slice (some ⟨g1,0,none⟩) (Yw+(b.steps.length-(Yw+1))) c1),.i b.result] (ie (Za (r3 [3] [.agg [YE (b.steps.take kk++b.steps.drop (kk+1)) (.slice (some ⟨g1,0,none⟩) (Yw+(b.steps.length-(Yw+1))) c1),.i b.result]] [0] [(b2,b2)] ⟨(Z5.mk (b.steps.take kk++b.steps.drop (kk+1)) b.result),(((p+1)+1)+1)+1,rfl,rfl,(by first|exact ⟨Xm.result hg _,by omega,by omega⟩|exact ⟨Xm.kid hg hsk hck hyb.1,by omega,by omega⟩|exact ⟨Xm.del hg,by omega,by omega⟩|exact ⟨Xm.put hg,by omega,by omega⟩|exact ⟨Xm.set hg hsk ⟨by have:=hys.1.1;omega,hys.1.2⟩,by omega,by omega⟩)⟩ (Zc.agg (.cons (Zc.forget _ _) (.cons (lr _) .nil))))))))))))))))))))))
  refine ar (Z0 2 (ie (ac (k3==1) Zt (fun Yf=>?_) (fun Yf=>?_))))
  ·refine aD 10 (Eg (UJ 1 2 0 (.slice (some ⟨g1,0,none⟩) b.steps.length c1) 5 b3 (Zv b.steps) [.ms g1 0 b.steps.length c1,.i b.result] (YZ _) rfl) (ZL 6 10 [0,1,2,5] [0] (Z8 3 (dL 3 [0] [b3] (Z7 [14,15,15,16,17]) 5 1 fun v3=>Yh 5 5 [] [(102,Z6 [14,15,15,16,17])] (Z8 4 (dc 4 [3] [0] [b3] (Vw rd bs ((((p+1)+1)+1)+1) [14,15,15,16,17] (ZB:=ob)) ?_))))))
   rintro _ _ ⟨z2,rfl,rfl,T8⟩
   refine Z8 6 (dc 6 [0] [0] [b3] (XO rd bs (((((p+1)+1)+1)+1)+1) 4 (ZB:=ob)) ?_)
   rintro _ _ ⟨k4,rfl,rfl,UD⟩
   exact Z8 7 (Ye 7 [] [1] [b3] (Jg z2 k4) (Yh 2 2 [] [(99,ZE b)] (Z8 8 (Ye 8 [] [] [] (ED b Yw (Zw z2 k4)) (Z8 9 (YA 9 5 [] [] b2 (YU (Z5.mk (Wd b.steps Yw (Zw z2 k4)) b.result)) (de (Za (r3 [1] [ZE (Z5.mk (Wd b.steps Yw (Zw z2 k4)) b.result)] [0] [(b2,b2)] ⟨(Z5.mk (Wd b.steps Yw (Zw z2 k4)) b.result),(((((p+1)+1)+1)+1)+1)+1,rfl,rfl,(by first|exact ⟨Xm.result hg _,by omega,by omega⟩|exact ⟨Xm.kid hg hsk hck hyb.1,by omega,by omega⟩|exact ⟨Xm.del hg,by omega,by omega⟩|exact ⟨Xm.put hg,by omega,by omega⟩|exact ⟨Xm.set hg hsk ⟨by have:=hys.1.1;omega,hys.1.2⟩,by omega,by omega⟩)⟩ (lr _))))))))))
  refine aE 12 (ZL 5 12 [0,1,2,3,4,5,6] [3,3] (dx 7 (XJ g1 b.steps.length c1 Yw 5 (Yw:Int)) (VQ 8 (WL 1 g1 b.steps.length c1 5 (Yw*5) (Ze (Zv b.steps)) (Xa sk) 44 (Ys sk) (by rw [hkn];exact H5 hsk)) (Z8 9 (dc 9 [0] [1] [b3] (MC rd bs ((((p+1)+1)+1)+1) sk (ZB:=ob)) ?_)))))
  rintro _ _ ⟨y2,p22,rfl,rfl,TS⟩
  have hys:=TS
  exact dx 10 (XJ g1 b.steps.length c1 Yw 5 (Yw:Int)) (Z8 11 (Am 11 1 [] [] g1 b.steps.length c1 5 (Yw*5) (Xa y2) (Ze (Zv b.steps)) (Ze (Zv (b.steps.set kk y2))) (by rw [Q9];simp only [YH,Xg];omega) (by rw [hkn];exact Ey hsk) (de (ar (XD (UJ 0 2 0 (.slice (some ⟨g1,0,none⟩) b.steps.length c1) 5 b3 (Zv (b.steps.set kk y2)) [.ms g1 0 b.steps.length c1,.i b.result] (YZ _) rfl) (Z4 1 [0] (Zy 4 b2 [YE (b.steps.set kk y2) (.slice (some ⟨g1,0,none⟩) b.steps.length c1),.i b.result] (ie (Za (r3 [3] [.agg [YE (b.steps.set kk y2) (.slice (some ⟨g1,0,none⟩) b.steps.length c1),.i b.result]] [0] [(b2,b2)] ⟨(Z5.mk (b.steps.set kk y2) b.result),p22,rfl,rfl,(by first|exact ⟨Xm.result hg _,by omega,by omega⟩|exact ⟨Xm.kid hg hsk hck hyb.1,by omega,by omega⟩|exact ⟨Xm.del hg,by omega,by omega⟩|exact ⟨Xm.put hg,by omega,by omega⟩|exact ⟨Xm.set hg hsk ⟨by have:=hys.1.1;omega,hys.1.2⟩,by omega,by omega⟩)⟩ (Zc.agg (.cons (Zc.forget _ _) (.cons (lr _) .nil)))))))))))))
 have TF:¬((sk.kids.length:Int)>0):=Yi dq ZH
 refine Z0 4 (ie (WH (ak (aq (ar (XD (It 5 2 b kk sk u1.v (.slice (some ⟨g1,0,none⟩) b.steps.length c1) hsk) (Z0 1 (ic [2] (XO rd bs ((p+1)+1) 4 (ZB:=ob)) ?_))))))))
 rintro _ _ ⟨k5,rfl,rfl,K0⟩
 refine ie (ab 0 (ar (Z0 2 (ie (ac (k5==0) Zt (fun X3=>?_) (fun X3=>?_))))))
 ·exact aE 12 (ZL 9 12 [0,1,2] [3] (dx 3 (Hz 1 g1 b.steps.length c1 Yw 5 (Ze (Zv b.steps))) (ZL 5 8 [4,5,6] [3] (da 7 (((Yw+1:Nat):Int)) (((Yw:Int))+(1)) (dx 8 (N0 1 g1 b.steps.length c1 (Yw+1) 5 (Ze (Zv b.steps))) (Z8 9 (LG 9 1 [] [] g1 b.steps.length c1 Yw (Yw+1) 5 (Ze (Zv b.steps)) (Vv _) (Zj 1 2 [10] (Z8 11 (YA 11 3 [] [] b3 [.ms g1 0 (Yw+(b.steps.length-(Yw+1))) c1,.i b.result] (de (ar (XD (Cq 1 (.slice (some ⟨g1,0,none⟩) (Yw+(b.steps.length-(Yw+1))) c1) 5 (((Ze (Zv b.steps)).take (Yw*5))++((Ze (Zv b.steps)).drop ((Yw+1)*5))) (Ze (Zv (b.steps.take kk++b.steps.drop (kk+1)))) (by rw [hkn];exact Mb hkl)) (XD (UJ 0 0 0 (.slice (some ⟨g1,0,none⟩) (Yw+(b.steps.length-(Yw+1))) c1) 5 b3 (Zv (b.steps.take kk++b.steps.drop (kk+1))) [.ms g1 0 (Yw+(b.steps.length-(Yw+1))) c1,.i b.result] (YZ _) rfl) (Z4 1 [0] (Zy 4 b2 [YE (b.steps.take kk++b.steps.drop (kk+1)) (.slice (some ⟨g1,0,none⟩) (Yw+(b.steps.length-(Yw+1))) c1),.i b.result] (ie (Za (r3 [3] [.agg [YE (b.steps.take kk++b.steps.drop (kk+1)) (.slice (some ⟨g1,0,none⟩) (Yw+(b.steps.length-(Yw+1))) c1),.i b.result]] [0] [(b2,b2)] ⟨(Z5.mk (b.steps.take kk++b.steps.drop (kk+1)) b.result),((p+1)+1)+1,rfl,rfl,(by first|exact ⟨Xm.result hg _,by omega,by omega⟩|exact ⟨Xm.kid hg hsk hck hyb.1,by omega,by omega⟩|exact ⟨Xm.del hg,by omega,by omega⟩|exact ⟨Xm.put hg,by omega,by omega⟩|exact ⟨Xm.set hg hsk ⟨by have:=hys.1.1;omega,hys.1.2⟩,by omega,by omega⟩)⟩ (Zc.agg (.cons (Zc.forget _ _) (.cons (lr _) .nil))))))))))))))))))))))
 refine ar (Z0 2 (ie (ac (k5==1) Zt (fun Xe=>?_) (fun Xe=>?_))))
 ·refine aD 10 (Eg (UJ 1 2 0 (.slice (some ⟨g1,0,none⟩) b.steps.length c1) 5 b3 (Zv b.steps) [.ms g1 0 b.steps.length c1,.i b.result] (YZ _) rfl) (ZL 6 10 [0,1,2,5] [0] (Z8 3 (dL 3 [0] [b3] (Z7 [14,15,15,16,17]) 5 1 fun v4=>Yh 5 5 [] [(102,Z6 [14,15,15,16,17])] (Z8 4 (dc 4 [3] [0] [b3] (Vw rd bs (((p+1)+1)+1) [14,15,15,16,17] (ZB:=ob)) ?_))))))
  rintro _ _ ⟨z3,rfl,rfl,K1⟩
  refine Z8 6 (dc 6 [0] [0] [b3] (XO rd bs ((((p+1)+1)+1)+1) 4 (ZB:=ob)) ?_)
  rintro _ _ ⟨k6,rfl,rfl,Av⟩
  exact Z8 7 (Ye 7 [] [1] [b3] (Jg z3 k6) (Yh 2 2 [] [(99,ZE b)] (Z8 8 (Ye 8 [] [] [] (ED b Yw (Zw z3 k6)) (Z8 9 (YA 9 5 [] [] b2 (YU (Z5.mk (Wd b.steps Yw (Zw z3 k6)) b.result)) (de (Za (r3 [1] [ZE (Z5.mk (Wd b.steps Yw (Zw z3 k6)) b.result)] [0] [(b2,b2)] ⟨(Z5.mk (Wd b.steps Yw (Zw z3 k6)) b.result),((((p+1)+1)+1)+1)+1,rfl,rfl,(by first|exact ⟨Xm.result hg _,by omega,by omega⟩|exact ⟨Xm.kid hg hsk hck hyb.1,by omega,by omega⟩|exact ⟨Xm.del hg,by omega,by omega⟩|exact ⟨Xm.put hg,by omega,by omega⟩|exact ⟨Xm.set hg hsk ⟨by have:=hys.1.1;omega,hys.1.2⟩,by omega,by omega⟩)⟩ (lr _))))))))))
 refine aE 12 (ZL 5 12 [0,1,2,3,4,5,6] [3,3] (dx 7 (XJ g1 b.steps.length c1 Yw 5 (Yw:Int)) (VQ 8 (WL 1 g1 b.steps.length c1 5 (Yw*5) (Ze (Zv b.steps)) (Xa sk) 44 (Ys sk) (by rw [hkn];exact H5 hsk)) (Z8 9 (dc 9 [0] [1] [b3] (MC rd bs (((p+1)+1)+1) sk (ZB:=ob)) ?_)))))
 rintro _ _ ⟨y3,p23,rfl,rfl,Ku⟩
 have hys:=Ku
 exact dx 10 (XJ g1 b.steps.length c1 Yw 5 (Yw:Int)) (Z8 11 (Am 11 1 [] [] g1 b.steps.length c1 5 (Yw*5) (Xa y3) (Ze (Zv b.steps)) (Ze (Zv (b.steps.set kk y3))) (by rw [Q9];simp only [YH,Xg];omega) (by rw [hkn];exact Ey hsk) (de (ar (XD (UJ 0 2 0 (.slice (some ⟨g1,0,none⟩) b.steps.length c1) 5 b3 (Zv (b.steps.set kk y3)) [.ms g1 0 b.steps.length c1,.i b.result] (YZ _) rfl) (Z4 1 [0] (Zy 4 b2 [YE (b.steps.set kk y3) (.slice (some ⟨g1,0,none⟩) b.steps.length c1),.i b.result] (ie (Za (r3 [3] [.agg [YE (b.steps.set kk y3) (.slice (some ⟨g1,0,none⟩) b.steps.length c1),.i b.result]] [0] [(b2,b2)] ⟨(Z5.mk (b.steps.set kk y3) b.result),p23,rfl,rfl,(by first|exact ⟨Xm.result hg _,by omega,by omega⟩|exact ⟨Xm.kid hg hsk hck hyb.1,by omega,by omega⟩|exact ⟨Xm.del hg,by omega,by omega⟩|exact ⟨Xm.put hg,by omega,by omega⟩|exact ⟨Xm.set hg hsk ⟨by have:=hys.1.1;omega,hys.1.2⟩,by omega,by omega⟩)⟩ (Zc.agg (.cons (Zc.forget _ _) (.cons (lr _) .nil)))))))))))))
theorem Z3r (rd:Nat) (bs:LI) (p:Nat) (b:Z5) (ZB:∀z∈bs,0<=z/\z<=255) (hp:p+10*b.sz<=1000000000:=by exact ob) (hz:b.sz<=20000000:=by exact ob) (hg:b.rng:=by exact ob):Zl 53 [.p rd 0,ZE b] [Yk rd bs p] (fun r h=>∃(y:Z5) (p2:Nat),r=ZE y/\h=[Yk rd bs p2]/\Xm b y/\p<=p2/\p2<=p+(10*b.sz)):=by
 have key:∀k:Nat,∀(rd:Nat) (bs:LI) (p:Nat) (b2:Z5),(∀z∈bs,0<=z/\z<=255)->(p+(10*b2.sz)<=1000000000)->(b2.sz<=20000000)->(b2.rng)->(b2.sz<k)->Zl 53 [.p rd 0,ZE b2] [Yk rd bs p] (fun r h=>∃(y:Z5) (p2:Nat),r=ZE y/\h=[Yk rd bs p2]/\Xm b2 y/\p<=p2/\p2<=p+(10*b2.sz)):=by
  intro k
  induction k with
  | zero=>intro rd bs p b2 h1 h2 h3 h4 h5;omega
  | succ k ih=>
   intro rd bs p b2 h1 h2 h3 h4 h5
   by_cases h0:b2.steps.length=0
   ·exact Z3s rd bs p b2 h1 h2 h3 h4 h0
   ·exact Z3t rd bs p b2 h1 h2 h3 h4 om fun rd bs p b3 q1 q2 q3 q4 q5=>ih rd bs p b3 q1 q2 q3 q4 om
 exact key (b.sz+1) rd bs p b ZB hp hz hg om
theorem MB (rd:Nat) (bs:LI) (p:Nat) (n:Zq) (often:Nat) (q:Nat) (l:Nat) (ZB:∀z∈bs,0<=z/\z<=255) (hp:p+(10*q+20)<=1000000000:=by exact ob) (hzn:ZS n q l:=by exact ob) (hq:q<=9999000:=by exact ob) (hl:l<=100:=by exact ob) (ho:0<often:=by exact ob):Zl 61 [.p rd 0,Yb n,.i often] [Yk rd bs p] (fun r h=>∃(n2:Zq) (p2:Nat),r=Yb n2/\h=[Yk rd bs p2]/\ZS n2 (q+2) (l+1)/\p<=p2/\p2<=p+(10*q+20)):=by
 have hnl:=hzn.len
 refine ZC 64 Tryz.func61 (ar (iA (Yz n) fun b1=>iA [nl,nl] fun b2=>ie (aq (ar (Z0 2 (ic [2] (J6 rd bs p often (ZB:=ob)) ?_))))))
 rintro _ _ ⟨Yw,rfl,rfl,Y2⟩
 refine Z0 1 (ie (ZF ((Yw:Int)>0) (fun Zb=>?_) (fun Zb=>?_)))
 ·exact ar (Z4 1 [2] (Zy 1 b2 (Yz n) (ie (Za (r3 [1] [Yb n] [0] [(b2,b2)] ⟨n,p+1,rfl,rfl,(by first|exact ⟨hzn.le om om,by omega,by omega⟩|exact ⟨hzn.set hx1k om om om om hz1.2.2.2,by omega,by omega⟩|exact ⟨(hzn.le om om).ds had.1,by omega,by omega⟩|exact ⟨hzn.set hx2k om om om (by have:=hsb.1.1;omega) hsb.1.2,by omega,by omega⟩)⟩ (lr _))))))
 refine ak (ar (Z4 3 [2] (iw (Vm n.routines) (ic [0] (J6 rd bs (p+1) n.routines.length (ZB:=ob)) ?_))))
 rintro _ _ ⟨YQ,rfl,rfl,Yl⟩
 refine Z0 1 (ie (aq (ar (Z0 1 (ic [0] (XO rd bs ((p+1)+1) 8 (ZB:=ob)) ?_)))))
 rintro _ _ ⟨k1,rfl,rfl,YO⟩
 refine ie (ab 0 (ar (Z0 2 (ie (ac (k1==0) Zt (fun Zg=>?_) (fun Zg=>?_))))))
 ·refine aD 11 (ZL 6 11 [0,1,2,3,4] [2,2] ?_)
  obtain ⟨x1,Z2⟩:=Zs n.routines YQ om
  have hx1k:=Z2
  have hz1:=hzn.rt _ (Y0 Z2)
  refine dx 5 (Zi none (YQ:Int) 5 (Wi Z2)) (Zj 3 5 [6,7] (Kn (fun fz gz F h=>∃(g1:Nat) (c1:Nat) (b3:Nat),F=sF [0,6,7] fz [(8,.p b3 0)]/\h=[.obj b3 [Ya n.decls,.ms g1 0 n.routines.length c1],.row (.slice (some ⟨g1,0,none⟩) n.routines.length c1) 5 (Ze (Yr (n.routines.set YQ (ZX.mk x1.params x1.lent x1.result x1.body)))),Zh gz 0,Zh gz 1,Zh gz 2]) ?_ ?_))
  ·refine Vg 8 9 ?_ ?_
   ·refine dc 8 [] [] [] (Hh n YQ x1.body x1 (hr:=Z2)) ?_
    rintro _ _ ⟨g1,c1,rfl,rfl⟩
    exact Z8 9 (dA 9 [] [] [nl,nl] fun b3=>Z8 10 (YA 10 0 [] [] b3 [Ya n.decls,.ms g1 0 n.routines.length c1] (de (ZO ⟨g1,c1,b3,rfl,rfl⟩ (ZI 5 fl)))))
   refine dA 9 [2,2] [b1,b1] [nl,nl] fun b4=>Z8 8 (dc 8 [] [] [] (Hh n YQ x1.body x1 (hr:=Z2)) ?_)
   rintro _ _ ⟨g2,c2,rfl,rfl⟩
   exact Z8 10 (YA 10 1 [] [] b4 [Ya n.decls,.ms g2 0 n.routines.length c2] (de (ZO ⟨g2,c2,b4,rfl,rfl⟩ (ZI 5 fl))))
  rintro F h ⟨g1,c1,b3,rfl,rfl⟩
  refine aD 14 (ZL 7 14 [0,1,2,3,4,5,6] [0,0] (dx 7 (XJ g1 n.routines.length c1 YQ 5 (YQ:Int)) (Zj 5 6 [8] (VQ 9 (WL 1 g1 n.routines.length c1 5 (YQ*5+1) (Ze (Yr (n.routines.set YQ (ZX.mk x1.params x1.lent x1.result x1.body)))) [Z6 x1.lent] 27 (Z6 x1.lent) (Z1t om _)) (Z8 10 (dc 10 [2] [0] [b3] (Z3u rd bs (((p+1)+1)+1) x1.lent (ZB:=ob)) ?_))))))
  rintro _ _ ⟨zs1,p21,rfl,rfl,YV⟩
  have hsi:=YV
  exact dx 11 (XJ g1 n.routines.length c1 YQ 5 (YQ:Int)) (Zj 1 2 [12] (Z8 13 (Am 13 2 [] [] g1 n.routines.length c1 5 (YQ*5+1) [Z6 zs1] (Ze (Yr (n.routines.set YQ (ZX.mk x1.params x1.lent x1.result x1.body)))) (Ze (Yr (n.routines.set YQ (ZX.mk x1.params zs1 x1.result x1.body)))) (by rw [Ew,T3];simp only [YH,Xg];omega) (Z1v om _ _) (de (ar (XD (UJ 0 1 1 (.slice (some ⟨g1,0,none⟩) n.routines.length c1) 5 b3 (Yr (n.routines.set YQ (ZX.mk x1.params zs1 x1.result x1.body))) [Ya n.decls,.ms g1 0 n.routines.length c1] (VH _) rfl) (Z4 1 [0] (Zy 3 b2 [Ya n.decls,XK (n.routines.set YQ (ZX.mk x1.params zs1 x1.result x1.body)) (.slice (some ⟨g1,0,none⟩) n.routines.length c1)] (ie (Za (r3 [3] [.agg [Ya n.decls,XK (n.routines.set YQ (ZX.mk x1.params zs1 x1.result x1.body)) (.slice (some ⟨g1,0,none⟩) n.routines.length c1)]] [0] [(b2,b2)] ⟨(Zq.mk n.decls (n.routines.set YQ (ZX.mk x1.params zs1 x1.result x1.body))),p21,rfl,rfl,(by first|exact ⟨hzn.le om om,by omega,by omega⟩|exact ⟨hzn.set hx1k om om om om hz1.2.2.2,by omega,by omega⟩|exact ⟨(hzn.le om om).ds had.1,by omega,by omega⟩|exact ⟨hzn.set hx2k om om om (by have:=hsb.1.1;omega) hsb.1.2,by omega,by omega⟩)⟩ (Zc.agg (.cons (lr _) (.cons (Zc.forget _ _) .nil))))))))))))))
 refine ar (Z0 2 (ie (ac (k1==1) Zt (fun ZA=>?_) (fun ZA=>?_))))
 ·refine aD 6 (ZL 3 6 [0,2,3] [2] (Z8 1 (dc 1 [0] [1] [b1] (Z23 rd bs (((p+1)+1)+1) (ZB:=ob)) ?_)))
  rintro _ _ ⟨dz1,p22,rfl,rfl,X9⟩
  have had:=X9
  exact Zj 1 2 [4] (Z8 5 (YA 5 1 [] [] b2 [Ya dz1,TT n.routines] (de (Za (r3 [1] [.agg [Ya dz1,TT n.routines]] [0] [(b2,b2)] ⟨(Zq.mk dz1 n.routines),p22,rfl,rfl,(by first|exact ⟨hzn.le om om,by omega,by omega⟩|exact ⟨hzn.set hx1k om om om om hz1.2.2.2,by omega,by omega⟩|exact ⟨(hzn.le om om).ds had.1,by omega,by omega⟩|exact ⟨hzn.set hx2k om om om (by have:=hsb.1.1;omega) hsb.1.2,by omega,by omega⟩)⟩ (lr _))))))
 refine ak (aD 12 (ZL 6 12 [0,1,2,3,4,5] [2,2] ?_))
 obtain ⟨x2,Zo⟩:=Zs n.routines YQ om
 have hx2k:=Zo
 have hz2:=hzn.rt _ (Y0 Zo)
 refine dx 6 (Zi none (YQ:Int) 5 (Wi Zo)) (Zj 3 5 [7,8] (Z8 9 (dc 9 [0] [1] [b1] (Z3r rd bs (((p+1)+1)+1) x2.body (ZB:=ob) (hg:=hz2.2.2.2)) ?_)))
 rintro _ _ ⟨y1,p23,rfl,rfl,XX⟩
 have hsb:=XX
 exact Z8 10 (Ye 10 [] [] [] (MD n YQ y1 x2 (hr:=Zo)) (Z8 11 (YA 11 1 [] [] b2 (Yz (withR n YQ x2 y1)) (de (Za (r3 [1] [Yb (withR n YQ x2 y1)] [0] [(b2,b2)] ⟨(withR n YQ x2 y1),p23,rfl,rfl,(by first|exact ⟨hzn.le om om,by omega,by omega⟩|exact ⟨hzn.set hx1k om om om om hz1.2.2.2,by omega,by omega⟩|exact ⟨(hzn.le om om).ds had.1,by omega,by omega⟩|exact ⟨hzn.set hx2k om om om (by have:=hsb.1.1;omega) hsb.1.2,by omega,by omega⟩)⟩ (lr _)))))))
theorem Z24 (rd:Nat) (bs:LI) (p:Nat) (ZB:∀z∈bs,0<=z/\z<=255) (hp:p+73706400<=1000000000:=by exact ob):Zl 49 [.p rd 0] [Yk rd bs p] (fun r h=>∃(n2:Zq) (p2:Nat),r=Yb n2/\h=[Yk rd bs p2]/\ZS n2 7330632 11/\p<=p2/\p2<=p+73706400):=by
 refine ZC 14 Tryz.func49 (ar (iA [nl,nl] fun b1=>ie (aq (ar (Z0 1 (ic [1] (XO rd bs p 4 (ZB:=ob)) ?_))))))
 rintro _ _ ⟨k1,rfl,rfl,Y2⟩
 refine Z0 1 (ie (ac (k1==0) Zt (fun Zb=>?_) (fun Zb=>?_)))
 ·refine ar (Z0 2 (ic [0] (My rd bs (p+1) (ZB:=ob)) ?_))
  rintro _ _ ⟨n1,p21,rfl,rfl,Yl⟩
  have hpf:=((FO.zn Yl.1).le (show 181<=7330630 by omega)).zs
  refine ic [0] (MB rd bs p21 n1 8 7330630 10 (ZB:=ob) (hzn:=(by first|exact hpf|exact hbf))) ?_
  rintro _ _ ⟨n21,p22,rfl,rfl,YO⟩
  have hsf:=YO
  exact Zy 1 b1 (Yz n21) (ie (Za (r3 [1] [Yb n21] [0] [(b1,b1)] ⟨n21,p22,rfl,rfl,⟨hsf.1,by omega,by omega⟩⟩ (lr _))))
 refine ak (ar (Z0 2 (ic [0] (Z26 rd bs (p+1) (ZB:=ob)) ?_)))
 rintro _ _ ⟨n2,p23,rfl,rfl,YV⟩
 have hbf:=YV.1.zs
 refine ic [0] (MB rd bs p23 n2 8 7330630 10 (ZB:=ob) (hzn:=(by first|exact hpf|exact hbf))) ?_
 rintro _ _ ⟨n22,p24,rfl,rfl,X9⟩
 have hsf:=X9
 exact Zy 1 b1 (Yz n22) (ie (Za (r3 [1] [Yb n22] [0] [(b1,b1)] ⟨n22,p24,rfl,rfl,⟨hsf.1,by omega,by omega⟩⟩ (lr _))))
theorem CG (xs:LI) (hl_xs:xs.length<=4294967296:=by exact ob):Zl 92 [Z6 xs] [] (fun r h=>∃(v:Value),r=ZT xs v/\h=[.tail v 1]):=by
 refine ZC 8 Tryz.func92 (ar (Z0 1 (ie (aq (ar (Z0 1 (iN (Z7 xs) (fun hz1=>?_) ?_)))))))
 ·have hz1:=Z10 hz1
  exact ie (WI (ar (Z0 1 (ie (B3 1 (Za (r2 [0] [nl] ⟨(.slice none 0 0),rfl,rfl⟩ (Zc.slh _ (by first|rfl|(subst_vars;rfl))))))))))
 exact ie (WH (ak (ar (iL (Z7 []) 0 1 fun v1=>Z0 1 (ip 0 (Z7 xs) (Z7 []) (Z7 xs) v1 none 1 (Yu _) (Yu _) (XR _) (by simp<;>omega) (by simp [Z7]) fun v2=>Z0 1 (ie (Za (r1 [0] ⟨v2,rfl,rfl⟩))))))))
theorem DE (xs:LI) (ys:LI) (hl_xs:xs.length<=4294967296:=by exact ob) (hl_ys:ys.length<=4294967296:=by exact ob):Zl 170 [Z6 xs,Z6 ys] [] (Y7 (.b (decide (xs=ys)))):=by
 refine ZC 26 Tryz.func170 (ar (Z0 1 (ie (aq (ar (Z0 1 (iw (Y9 xs) (Z0 1 (iw (Y9 ys) (Z0 1 (ie (ac ((xs.length:Int) != (ys.length:Int)) Yg (fun Zb=>?_) (fun Zb=>?_)))))))))))))
 ·exact ar (Z0 1 (ie (Za (ZU (.b false) (lb (eq_comm.1 (decide_eq_false (fun q=>by rw [q] at Zb;exact Zb rfl))))))))
 refine ak (aq (ar (Z0 1 (iw (Y9 xs) (Z0 1 (ie (ab 0 (ZV (fun fz gz m F h=>∃(k:Nat),(k<=xs.length)/\(xs.take k=ys.take k)/\F=sF [0,1,12] fz [(13,.i k)]/\h=gz/\m=xs.length-k) _ _ _ ⟨0,ob,ob,rfl,rfl,rfl⟩ (wk [] (ZZ fl)) ?_))))))))
 rintro m F h ⟨k,Y4,Zm,rfl,rfl,rfl⟩
 refine ar (Z0 1 (ie (aq (ZF ((k:Int)<(xs.length:Int)) (fun Zg=>?_) (fun Zg=>?_)))))
 ·refine ak (aq (ab 1 (ar (Z0 2 (ie (aD 9 (Zj 7 9 [0,1] ?_)))))))
  obtain ⟨x1,Z2⟩:=Zs xs k om
  refine dx 2 (Zi none (k:Int) 1 (ZY Z2)) (Zj 3 6 [3,4,5] ?_)
  obtain ⟨x2,Zo⟩:=Zs ys k om
  refine dx 6 (Zi none (k:Int) 1 (ZY Zo)) (Zj 0 2 [7,8] (de (ac (x1 != x2) Yg (fun ZA=>?_) (fun ZA=>?_))))
  ·exact ar (Z0 1 (ie (Za (ZU (.b false) (lb (eq_comm.1 (decide_eq_false (fun q=>by subst q;rw [Z2] at Zo;cases Zo;exact ZA rfl))))))))
  refine ak (az (ZD k (Z0 1 (ie ?_))))
  have hdr:=Y3 Z2
  exact ZG ⟨k+1,ob,(by rw [We Z2,We Zo,Zm];have hxx:x1=x2:=om;rw [hxx]),rfl,rfl,rfl⟩ (wk [] (ZK k fl))
 exact ax 0 (ar (Z0 1 (ie (Za (ZU (.b true) (lb (eq_comm.1 (decide_eq_true (by rw [WA om,WA om] at Zm;exact Zm)))))))))
theorem Zab (m:Nat) (hm:m<=4294967296:=by exact ob):Zl 210 [nl,.i m] [] (fun r h=>∃(v:Hd),r=.h v/\h=[rV v []]):=by
 refine ZC 27 Tryz.func210 (QS AR (B4 (F':=[(0,.h hN),(1,.i m)]) (h':=[rV hN []]) (wk [0] (fc (x:=nl) (Zc.hd (v:=hN)) ( fc (x:=.i m) (lr _) (Mi _)))) (ar (Z0 1 (ie (aq (ar (Z0 2 (ie (ZF ((m:Int)<0) (fun Zb=>?_) (fun Zb=>?_)))))))))))
 ·exfalso;omega
 refine ak (aq (ar (Z0 2 (Zp (Xr.le (PE hN) (li (by rfl))) (Z0 1 (Zp (Xr.le (JZ 0 hN []) (li (by rfl))) (ia ((0-0)) ((0)-(0)) (ia ((m:Int)) (((m:Int))-((0-0))) (Z0 1 (ie (ar (Z0 2 (ie (ZF ((m:Int)>0) (fun Zg=>?_) (fun Zg=>?_)))))))))))))))
 ·exact az (Z0 2 (Zp (Xr.le (PE hN) (li (by rfl))) (Zp (AS 0 hN [] 0) (Z0 1 (iZ m fun v1=>Z0 1 (Zp (Xr.le (JZ 1 hN []) (li (by rfl))) (Zp (AS 0 v1 (List.replicate m 0) 0) (Z0 1 (ie (ar (Z0 2 (ie (QS (Bx 0 0 v1 (List.replicate m 0)) (Za (r1 [0] ⟨(v1.cut 0),rfl,rfl⟩ (eq:=(rv (xs:=((List.replicate m 0).take 0)) ob rz)))))))))))))))))
 exact ak (ar (Z0 2 (ie (Za (r1 [0] ⟨hN,rfl,rfl⟩)))))
theorem Zaa (xss:List LI) (hl_xss:xss.length<=4294967296:=by exact ob) (hf:xss.flatten.length<=4294967296:=by exact ob):Zl 166 [K7 xss] [] (fun r h=>∃(v:Value),r=ZT xss.flatten v/\h=[.tail v 1]):=by
 have hft:=Mg xss
 refine ZC 36 Tryz.func166 (ar (Z0 1 (ie (ar (Z0 1 (ie (aq (ar (Z0 1 (iw (En xss) (Z0 1 (ie (ab 0 (ZV (fun fz gz m F h=>∃(k:Nat) (q:Nat),(k<=xss.length)/\(q=(xss.take k).flatten.length)/\F=sF [0,9,10] fz [(3,.i q),(11,.i k)]/\h=gz/\m=xss.length-k) _ _ _ ⟨0,0,ob,(by simp),rfl,rfl,rfl⟩ (wk [] (ZZ (ZZ fl))) ?_))))))))))))))
 rintro m F h ⟨k,q,Y4,Zm,rfl,rfl,rfl⟩
 refine ar (Z0 1 (ie (aq (ZF ((k:Int)<(xss.length:Int)) (fun Zb=>?_) (fun Zb=>?_)))))
 ·refine ak (aq (ab 1 (ar ?_)))
  obtain ⟨x1,Z2⟩:=Zs xss k om
  refine Zp (Zi none (k:Int) 1 (Em Z2)) (Z0 2 (ie (ar (Z0 2 (iw (Y9 x1) (ia (((q+x1.length:Nat):Int)) (((q:Int))+((x1.length:Int))) (hb:=(by have:=Mf Z2;omega)) (Z0 1 (ie (ar (Z0 2 (ie (ZF (((q+x1.length:Nat):Int)<0) (fun Zg=>?_) (fun Zg=>?_)))))))))))))
  ·exfalso;omega
  refine ak (az (ZD k (Z0 1 (ie ?_))))
  have hdr:=Y3 Z2
  exact ZG ⟨k+1,q+x1.length,ob,(by rw [H6 Z2,Ym,Zm]),rfl,rfl,rfl⟩ (wk [] (fc (x:=.i (q+x1.length:Nat)) li (ZK k fl)))
 refine ax 0 (ar (Z0 1 (ic [] (Zab q (hm:=(by have:=hft k;omega))) ?_)))
 rintro _ _ ⟨v1,rfl,rfl⟩
 refine Z0 1 (ie (aq (ar (Z0 1 (iw (En xss) (Z0 1 (ie (ab 2 (ZV (fun fz gz m F h=>∃(j:Nat) (v:Hd),(j<=xss.length)/\F=sF [25,26] fz [(6,.h v),(27,.i j)]/\h=[rV v ((xss.take j).flatten)]/\m=xss.length-j) _ _ _ ⟨0,v1,ob,rfl,rfl,rfl⟩ (wk [0] (fr (ZZ fl)) (e:=(rv (xs:=[]) ob rz))) ?_)))))))))
 rintro m F h ⟨j,v,Vs,rfl,rfl,rfl⟩
 refine ar (Z0 1 (ie (aq (ZF ((j:Int)<(xss.length:Int)) (fun ZA=>?_) (fun ZA=>?_)))))
 ·refine ak (aq (ab 3 (ar ?_)))
  obtain ⟨x2,Zo⟩:=Zs xss j om
  refine Zp (Zi none (j:Int) 1 (Em Zo)) (Z0 2 (ie (az (Z0 2 (J8 0 v ((xss.take j).flatten) x2 none (hbound:=(by have:=Mf Zo;omega)) fun v2=>Z0 1 (ie (az (ZD j (Z0 1 (ie ?_))))))))))
  have hdr:=Y3 Zo
  exact ZG ⟨j+1,v2,ob,rfl,rfl,rfl⟩ (wk [0] (fr (ZK j fl)) (e:=(rv (xs:=((xss.take j).flatten++x2)) (H6 Zo).symm rz)))
 exact ax 2 (ar (Z0 2 (ie (DY 2 0 (v:=v) (xs:=(xss.take j).flatten) (Za (r2 [0] [ZT ((xss.take j).flatten) v.v] ⟨v.v,rfl,rfl⟩ (Zc.slh _ (Yc Z7 (by rw [WA om])))))))))
theorem ET (ds:List Zd) (t:Int) (hl_ds:ds.length<=4294967296:=by exact ob):Zl 91 [Ya ds,.i t] [] (fun r h=>r=.b (decide (0<=t/\t<=ds.length))/\h=[]):=by
 refine ZC 13 Tryz.func91 (ar (Z0 1 (ie (ar (Xx 8 [] [(12,.b ((decide (t>=0))&&(decide (t<=(ds.length:Int)))))] (fun gz=>gz) ?_ (fun hj1=>?_))))))
 ·exact Z0 1 (ie (Za (ZU (.b ((decide (t>=0))&&(decide (t<=(ds.length:Int))))) (lb (by rw [Xf];simp)))))
 refine Z0 3 (ib (b:=(decide (t>=0))) 7 (fun Zf=>?_) (fun Zf=>?_))
 ·exact Z0 2 (iw (Vu ds) (Z0 2 (Yp (wk [] (Zr (decide (t<=(ds.length:Int))) Zf fl)) hj1)))
 exact Z0 5 (Yp (wk [] (Zr false Zf fl)) hj1)
theorem MR (ds:List Zd) (xs:LI) (hl_ds:ds.length<=4294967296:=by exact ob) (hl_xs:xs.length<=4294967296:=by exact ob):Zl 55 [Ya ds,Z6 xs] [] (Y7 (.b (XU ds.length xs))):=by
 refine ZC 18 Tryz.func55 (ar (Z0 1 (ie (aq (ar (Z0 1 (iw (Y9 xs) (Z0 1 (ie (ab 0 (ZV (fun fz gz m F h=>∃(k:Nat),(k<=xs.length)/\(XU ds.length (xs.drop k)=XU ds.length xs)/\F=sF [0,7,8] fz [(9,.i k)]/\h=gz/\m=xs.length-k) _ _ _ ⟨0,ob,ob,rfl,rfl,rfl⟩ (wk [] (ZZ fl)) ?_)))))))))))
 rintro m F h ⟨k,Y4,Zm,rfl,rfl,rfl⟩
 refine ar (Z0 1 (ie (aq (ZF ((k:Int)<(xs.length:Int)) (fun Zb=>?_) (fun Zb=>?_)))))
 ·refine ak (aq (ab 1 (ar ?_)))
  obtain ⟨x1,Z2⟩:=Zs xs k om
  refine Zp (Zi none (k:Int) 1 (ZY Z2)) (Z0 2 (ie (ar (Z0 2 (Zx [] (ET ds x1) (Z0 1 (ie (ac (!(decide (0<=x1/\x1<=ds.length))) (p:=¬(0<=x1/\x1<=ds.length)) (Yx dq) (fun Zg=>?_) (fun Zg=>?_)))))))))
  ·refine ar (Z0 1 (ie ?_))
   rw [Y3 Z2] at Zm
   exact Za (ZU (.b false) (lb (by clear Z2;first|rfl|omega|grind [XU])))
  refine ak (az (ZD k (Z0 1 (ie ?_))))
  have hdr:=Y3 Z2
  exact ZG ⟨k+1,ob,(by rw [hdr] at Zm;clear hdr Z2;grind [XU]),rfl,rfl,rfl⟩ (wk [] (ZK k fl))
 refine ax 0 (ar (Z0 1 (ie ?_)))
 try rw [X5 (xs:=xs) (k:=k) om] at Zm
 exact Za (ZU (.b true) (lb (by first|rfl|omega|grind [XU])))
theorem Z51 (ds:List Zd) (hd:XZ ds:=by exact ob):Zl 211 [Ya ds] [] (Y7 (.i (Yy ds:Nat))):=by
 have hdl:=hd.len
 refine ZC 19 Tryz.func211 (ar (Z0 1 (ie (ar (Z0 1 (ie (aq (ar (Z0 1 (iw (Vu ds) (Z0 1 (ie (ab 0 (ZV (fun fz gz m F h=>∃(k:Nat),(k<=ds.length)/\F=sF [6,7] fz [(3,.i ((Yy (ds.take k):Nat):Int)),(8,.i k)]/\h=gz/\m=ds.length-k) _ _ _ ⟨0,ob,rfl,rfl,rfl⟩ (wk [] (ZZ (ZZ fl))) ?_))))))))))))))
 rintro m F h ⟨k,Y4,rfl,rfl,rfl⟩
 refine ar (Z0 1 (ie (aq (ZF ((k:Int)<(ds.length:Int)) (fun Zb=>?_) (fun Zb=>?_)))))
 ·refine ak (aq (ab 1 (ar ?_)))
  obtain ⟨x1,Z2⟩:=Zs ds k om
  refine Zp (Zi none (k:Int) 3 (Wo Z2)) (Z0 1 (iA [.i 0,.i 0,nl] fun b1=>Zy 0 b1 (UW x1) (ie (az (Z4 3 [0] (iw (VF x1.cons) (ia (((Yy (ds.take k)+x1.cons.length:Nat):Int)) ((((Yy (ds.take k):Nat):Int))+((x1.cons.length:Int))) (hb:=(by have h1:=hd.cons_at Z2;have h2:=(hd.take k).sum;omega)) (Z0 1 (ie (az (ZD k (Z0 1 (ie ?_)))))))))))))
  have hdr:=Y3 Z2
  exact ZG ⟨k+1,ob,rfl,rfl,rfl⟩ (wk [] (fc (x:=.i ((Yy (ds.take k)+x1.cons.length:Nat):Int)) (li (by rw [We Z2,CH];simp [Yy])) (ZK k fl)))
 exact ax 0 (ar (Z0 2 (ie (Za (ZU (.i ((Yy (ds.take k):Nat):Int)) (li (by rw [WA om])))))))
theorem MS (ds:List Zd) (c:Int) (hd:XZ ds:=by exact ob) (hc:-9223372036854775808<=c/\c<=9223372036854775807:=by exact ob):Zl 169 [Ya ds,.i c] [] (Y7 (.tup [.i (XP ds c),.agg [Z6 (ZP ds c)]])):=by
 have hdl:=hd.len
 refine ZC 38 Tryz.func169 (ar (Z0 1 (iA [nl] fun b1=>?_)))
 refine ie (aq (ar (Z0 1 (iw (Vu ds) (Z0 1 (ie (ab 0 (ZV (fun fz gz m F h=>∃(k:Nat) (cv:Int),(k<=ds.length)/\(A8 c (Yy (ds.take k)) cv)/\(Ux c (ds.drop k) k (Yy (ds.take k))=Ux c ds 0 0)/\F=sF [5,8,9] fz [(1,.i cv),(10,.i k)]/\h=gz/\m=ds.length-k) _ _ _ ⟨0,c,ob,(.inl (by simp [Yy])),rfl,rfl,rfl,rfl⟩ (wk [0] (fr (ZZ fl))) ?_))))))))
 rintro m F h ⟨k,cv,Y4,Zm,Zu,rfl,rfl,rfl⟩
 refine ar (Z0 1 (ie (aq (ZF ((k:Int)<(ds.length:Int)) (fun Zb=>?_) (fun Zb=>?_)))))
 ·refine ak (aq (ab 1 (ar (Z0 1 ?_))))
  obtain ⟨x1,Z2⟩:=Zs ds k om
  refine Zp (Zi none (k:Int) 3 (Wo Z2)) (Z0 1 (iA [.i 0,.i 0,nl] fun b2=>Z0 1 (Zy 0 b2 (UW x1) (ie (aq (ar (X8 [1,5,6,7,8,9,10] [(23,.b ((decide (cv>=0))&&(decide (cv<(x1.cons.length:Int)))))] (fun gz=>gz) ?_ ?_)))))))
  ·refine Z0 3 (ib (b:=(decide (cv>=0))) 17 (fun Zf=>?_) (fun Zf=>?_))
   ·exact Z4 3 [0] (iw (VF x1.cons) (Z0 2 (ie (wk [0,0] (Zr (decide (cv<(x1.cons.length:Int))) Zf fl)))))
   exact Z0 6 (ie (wk [0,0] (Zr false Zf fl)))
  refine ac ((decide (cv>=0))&&(decide (cv<(x1.cons.length:Int)))) (p:=(cv>=0)/\(cv<(x1.cons.length:Int))) (YC dq dq) (fun Zg=>?_) (fun Zg=>?_)
  ·refine aD 9 (Zj 8 9 [0] (da 1 (((k+1:Nat):Int)) (((k:Int))+(1)) (ZL 4 7 [2,3,4] [0] ?_)))
   obtain ⟨x2,Zo⟩:=Zs x1.cons cv.toNat om
   refine dx 5 (Zi none cv 1 (Jy Zo)) (Zj 1 3 [6,7] (Z8 8 (YA 8 1 [] [] b1 (C9 x2) (de ?_))))
   have hz:=(hd.take k).sum
   have h3:=hd.cons_at Z2
   have hH:=Zu.symm.trans (SK Z2 Zm om h3 hc.1 Zg Zo)
   exact Za (r3 [] [.i (k+1:Nat),BF x2] [0] [(b1,b1)] ⟨rfl,rfl⟩ (Zc.tup (.cons (li (by rw [XP,hH];omega)) (.cons (Zc.agg (.cons (Zc.sl _ (Yc Z7 (by rw [ZP,hH]))) .nil)) .nil))))
  refine ak (az (Z4 3 [0] (iw (VF x1.cons) (iW ((cv)-((x1.cons.length:Int))) (Z0 1 (ie (az (ZD k (Z0 1 (ie ?_))))))))))
  have hdr:=Y3 Z2
  exact ZG ⟨k+1,(Bz ((cv)-((x1.cons.length:Int)))),ob,(by have hz:=(hd.take k).sum;have h3:=hd.cons_at Z2;rw [We Z2,CH];simpa [Yy] using RY Zm om h3 hc),(SH Z2 Zm Zg Zu),rfl,rfl,rfl⟩ (wk [1] (fr (ZK k fl)))
 refine ax 0 (ar (Z0 2 (Zy 0 b1 [nl] (ie ?_))))
 have hH:Ux c ds 0 0=(-1,[]):=by rw [<-Zu,X5 om];rfl
 exact Za (r3 [] [.i (-1),.agg [nl]] [0] [(b1,b1)] ⟨rfl,rfl⟩ (Zc.tup (.cons (li (by rw [XP,hH])) (.cons (Zc.agg (.cons (Zc.sl _ (by rw [ZP,hH];rfl)) .nil)) .nil))))
theorem Z55 (ds:List Zd) (c:Int) (hd:XZ ds:=by exact ob) (hc:-9223372036854775808<=c/\c<=9223372036854775807:=by exact ob):Zl 168 [Ya ds,.i c] [] (Y7 (Z6 (ZP ds c))):=by
 exact ZC 15 Tryz.func168 (ar (Z0 1 (ie (ar (Z0 2 (Zx [] (MS ds c) (Z0 3 (iA [nl] fun b1=>Z0 1 (Zy 0 b1 [Z6 (ZP ds c)] (ie (ar (Z4 3 [0] (ie (Za (Iw)))))))))))))))
theorem Z52 (ds:List Zd) (t:Int) (hd:XZ ds:=by exact ob):Zl 167 [Ya ds,.i t] [] (Y7 (Z6 (ZQ ds t))):=by
 have hdl:=hd.len
 refine ZC 39 Tryz.func167 (ar (Z0 1 (ie (aq (ar (X8 [0,1] [(15,.b ((decide (t<1))||(decide (t>(ds.length:Int)))))] (fun gz=>gz) ?_ ?_))))))
 ·refine Z0 3 (ib (b:=(decide (t<1))) 10 (fun Zf=>?_) (fun Zf=>?_))
  ·exact Z0 5 (ie (wk [] (Zr true Zf fl)))
  exact Z0 2 (iw (Vu ds) (Z0 2 (ie (wk [] (Zr (decide (t>(ds.length:Int))) Zf fl)))))
 refine ac ((decide (t<1))||(decide (t>(ds.length:Int)))) (p:=(t<1)∨(t>(ds.length:Int))) (Yn dq dq) (fun Zb=>?_) (fun Zb=>?_)
 ·exact ar (Z0 1 (ie (Za (ZU (nl) (Zc.sl _ (by rw [ZQ,Z9 om];rfl))))))
 have hti:1<=t/\t<=ds.length:=by omega
 obtain ⟨d,hd1⟩:=Zs ds ((t-1).toNat) om
 have hdc:=hd.cons_at hd1
 have hsm:=(hd.take (t-1).toNat).sum
 refine ak (ar (Z0 2 (ia ((((t-1).toNat:Nat):Int)) ((t)-(1)) (Zp (KD (es:=Yo ds) (hv:=none) (l:=0) (m:=(((t-1).toNat:Nat):Int)) (sz:=3) (es':=Yo (ds.take ((t-1).toNat))) kr om (by simp<;>omega) (by simp<;>omega) (QC _) (by first|(simp only [VW,Vl,BP,BO];done)|(simp only [VW,Vl,BP,BO];rfl)|(simp [BP,BO];done))) (Zx [] (Z51 (ds.take ((t-1).toNat)) (hd:=(hd.take _))) (Z0 1 (ie (ar (Z0 1 (ie (aq (ar (Z0 2 (ia ((((t-1).toNat:Nat):Int)) ((t)-(1)) (Zp (Zi none (((t-1).toNat:Nat):Int) 3 (Wo hd1)) (Z0 2 (iw (VF d.cons) (Z0 1 (ie (ab 0 (B3 1 (ZV (fun fz gz m F h=>∃(k:Nat) (v:Value),(k<=d.cons.length)/\F=sF [5,27] fz [(6,ZT (V6 (Yy (ds.take (t-1).toNat)) k) v),(28,.i k)]/\h=[.tail v 1]/\m=d.cons.length-k) _ _ _ ⟨0,(.slice none 0 0),ob,rfl,rfl,rfl⟩ (wk [0] (fc (x:=nl) (Zc.slh _ rfl) (ZZ fl))) ?_))))))))))))))))))))))
 rintro m F h ⟨k,v,Y4,rfl,rfl,rfl⟩
 refine ar (Z0 1 (ie (aq (ZF ((k:Int)<(d.cons.length:Int)) (fun Zg=>?_) (fun Zg=>?_)))))
 ·exact ak (aq (ab 1 (ar (Z0 2 (ie (az (Z0 3 (ia ((((Yy (ds.take ((t-1).toNat)))+k:Nat):Int)) ((((Yy (ds.take ((t-1).toNat)):Nat):Int))+((k:Int))) (iL (Z7 [(((Yy (ds.take ((t-1).toNat)))+k:Nat):Int)]) 1 1 fun v1=>ZM 0 [(35,Z6 [(((Yy (ds.take ((t-1).toNat)))+k:Nat):Int)])] (ip 1 (Z7 (V6 (Yy (ds.take (t-1).toNat)) k++[(((Yy (ds.take ((t-1).toNat)))+k:Nat):Int)])) (Z7 (V6 (Yy (ds.take (t-1).toNat)) k)) (Z7 [(((Yy (ds.take ((t-1).toNat)))+k:Nat):Int)]) v none 1 (Yu _) (Yu _) (XR _) (by simp;omega) (by simp [XQ,Z7]) fun v2=>Z0 1 (ie (az (ZD k (Z0 1 (ie (ZG ⟨k+1,v2,ob,rfl,rfl,rfl⟩ (wk [0] (fc (x:=ZT (V6 (Yy (ds.take (t-1).toNat)) k++[(((Yy (ds.take ((t-1).toNat)))+k:Nat):Int)]) v2) (Zc.slh _ (Yc Z7 (NQ _ _).symm)) (ZK k fl)))))))))))))))))))
 exact ax 0 (ar (Z0 2 (ie (Za (ZU (ZT (V6 (Yy (ds.take (t-1).toNat)) k) v) (Zc.sl _ (Yc Z7 (by rw [ZQ,Zk hti,hd1,show k=d.cons.length by omega];rfl))))))))
theorem ER (ds:List Zd) (t:Int) (hd:XZ ds:=by exact ob):Zl 129 [Ya ds,.i t] [] (Y7 (.tup [Js (Ve ds t),.b (XE ds t)])):=by
 have hdl:=hd.len
 refine ZC 30 Tryz.func129 (ar (iA [.i 0,.i 0,nl] fun b1=>Z0 1 (ie (aq (ar (Xx 8 [0,1,4] [(13,.b ((decide (t<1))||(decide (t>(ds.length:Int)))))] (fun gz=>gz) ?_ (fun hj1=>?_)))))))
 ·refine Z0 1 (ib (b:=((decide (t<1))||(decide (t>(ds.length:Int))))) 14 (fun Zf=>?_) (fun Zf=>?_))
  ·have Y2:(t<1)∨(t>(ds.length:Int)):=((Yn dq dq)).1 Zf
   refine Z0 9 (ie (WI (ar (Z0 1 (Zy 0 b1 [.i 0,.i 0,nl] (Z0 1 (ie ?_)))))))
   have hA:XE ds t=false:=(Hu om).symm
   have hD:Ve ds t=⟨0,0,[]⟩:=by rw [Ve,hA];rfl
   exact Za (r3 [] [.agg [.i 0,.i 0,nl],.b false] [0] [(b1,b1)] ⟨rfl,rfl⟩ (Zc.tup (.cons (Zc.agg (.cons (li (by rw [hD])) (.cons (li (by rw [hD])) (.cons (Zc.sl _ (by rw [hD];rfl)) .nil)))) (.cons (lb (by rw [hA])) .nil))))
  have Yl:¬((t<1)∨(t>(ds.length:Int))):=Yi (Yn dq dq) Zf
  refine Z0 2 (ia ((t-1)) ((t)-(1)) ?_)
  obtain ⟨x1,Z2⟩:=Zs ds ((t-1).toNat) om
  refine Zp (Zi none (t-1) 3 (Wo Z2)) (Z0 2 (iw (VF x1.cons) (Z0 2 (ie (ZF ((x1.cons.length:Int)>0) (fun Zb=>?_) (fun Zb=>?_))))))
  ·refine ar (Z0 1 (Zy 0 b1 [.i 0,.i 0,nl] (Z0 1 (ie ?_))))
   have hA:XE ds t=false:=(EW om Z2).symm.trans (beq_eq_false_iff_ne.2 om)
   have hD:Ve ds t=⟨0,0,[]⟩:=by rw [Ve,hA];rfl
   exact Za (r3 [] [.agg [.i 0,.i 0,nl],.b false] [0] [(b1,b1)] ⟨rfl,rfl⟩ (Zc.tup (.cons (Zc.agg (.cons (li (by rw [hD])) (.cons (li (by rw [hD])) (.cons (Zc.sl _ (by rw [hD];rfl)) .nil)))) (.cons (lb (by rw [hA])) .nil))))
  refine ak (ar (Z0 2 (ia ((t-1)) ((t)-(1)) (Zp (Zi none (t-1) 3 (Wo Z2)) (Z0 1 (Zy 0 b1 (UW x1) (Z0 1 (ie ?_))))))))
  have hA:XE ds t=true:=(EW om Z2).symm.trans (Zt.2 om)
  have hD:Ve ds t=x1:=by rw [Ve,hA,Z2];rfl
  exact Za (r3 [] [Js x1,.b true] [0] [(b1,b1)] ⟨rfl,rfl⟩ (Zc.tup (.cons (Zc.agg (.cons (li (by rw [hD])) (.cons (li (by rw [hD])) (.cons (Zc.sl _ (Yc Xs (by rw [hD]))) .nil)))) (.cons (lb (by rw [hA])) .nil))))
 refine Z0 3 (ib (b:=(decide (t<1))) 8 (fun ZH=>?_) (fun ZH=>?_))
 ·have YO:t<1:=(dq).1 ZH
  exact Z0 5 (Yp (wk [0] (Zr true ZH fl)) hj1)
 have YV:¬(t<1):=Yi dq ZH
 exact Z0 2 (iw (Vu ds) (Z0 2 (Yp (wk [0] (Zr (decide (t>(ds.length:Int))) ZH fl)) hj1)))
theorem Z4v (ds:List Zd) (frm:Int) (to_:Int) (hl_ds:ds.length<=4294967296:=by exact ob):Zl 171 [Ya ds,.i frm,.i to_] [] (Y7 (.i (VO ds frm to_))):=by
 refine ZC 35 Tryz.func171 (ar (Z0 1 (ie (aq (ar (Z0 1 (iw (Vu ds) (Z0 1 (ie (ab 0 (ZV (fun fz gz m F h=>∃(k:Nat),(k<=ds.length)/\(Qx frm to_ (ds.drop k) k=VO ds frm to_)/\F=sF [1,2,9,10] fz [(11,.i k)]/\h=gz/\m=ds.length-k) _ _ _ ⟨0,ob,rfl,rfl,rfl,rfl⟩ (wk [] (ZZ fl)) ?_)))))))))))
 rintro m F h ⟨k,Y4,Zm,rfl,rfl,rfl⟩
 refine ar (Z0 1 (ie (aq (ZF ((k:Int)<(ds.length:Int)) (fun Zb=>?_) (fun Zb=>?_)))))
 ·refine ak (aq (ab 1 (ar (Z0 1 ?_))))
  obtain ⟨x1,Z2⟩:=Zs ds k om
  refine Zp (Zi none (k:Int) 3 (Wo Z2)) (Z0 1 (iA [.i 0,.i 0,nl] fun b1=>Z0 1 (Zy 0 b1 (UW x1) (ie (ar (Z4 2 [0] (iw (VF x1.cons) (Xx 10 [1,2,7,8,9,10,11] [(25,.b (((x1.cons.length:Int)==0)&&(x1.frm==frm)))] (fun gz=>gz) ?_ (fun hj1=>?_)))))))))
  ·refine X8 [1,2,7,9,10,11] [(31,.b ((((x1.cons.length:Int)==0)&&(x1.frm==frm))&&(x1.to_==to_)))] (fun gz=>gz) ?_ ?_
   ·refine Z0 1 (ib (b:=(((x1.cons.length:Int)==0)&&(x1.frm==frm))) 26 (fun Zf=>?_) (fun Zf=>?_))
    ·exact Z4 5 [0] (ie (wk [0] (Zr (x1.to_==to_) Zf fl)))
    exact Z0 5 (ie (wk [0] (Zr false Zf fl)))
   refine ac ((((x1.cons.length:Int)==0)&&(x1.frm==frm))&&(x1.to_==to_)) (p:=(((x1.cons.length:Int)=0)/\(x1.frm=frm))/\(x1.to_=to_)) (YC (YC Zt Zt) Zt) (fun Zg=>?_) (fun Zg=>?_)
   ·refine ar (Z0 1 (ZD k (Z0 1 (ie ?_))))
    rw [Y3 Z2] at Zm
    exact Za (ZU (.i (k+1:Nat)) (li (by clear Z2;first|rfl|omega|grind [Qx])))
   refine ak (az (ZD k (Z0 1 (ie ?_))))
   have hdr:=Y3 Z2
   exact ZG ⟨k+1,ob,(by rw [hdr] at Zm;clear hdr Z2;grind [Qx]),rfl,rfl,rfl⟩ (wk [] (ZK k fl))
  refine Z0 2 (ib (b:=((x1.cons.length:Int)==0)) 20 (fun ZH=>?_) (fun ZH=>?_))
  ·exact Z4 5 [0] (Yp (wk [0] (Zr (x1.frm==frm) ZH fl)) hj1)
  exact Z0 5 (Yp (wk [0] (Zr false ZH fl)) hj1)
 refine ax 0 (ar (Z0 1 (ie ?_)))
 try rw [X5 (xs:=ds) (k:=k) om] at Zm
 exact Za (ZU (.i (-1)) (li (by first|rfl|omega|grind [Qx])))
theorem Z4u (ds:List Zd) (hz:Qv ds:=by exact ob):Zl 128 [Ya ds] [] (Y7 (.b (Wu ds))):=by
 have hzl:=hz.len
 refine ZC 106 Tryz.func128 (ar (Z0 1 (ie (aq (ar (Z0 1 (iw (Vu ds) (Z0 1 (ie (ZF ((ds.length:Int)>4) (fun Zb=>?_) (fun Zb=>?_)))))))))))
 ·exact ar (Z0 1 (ie (Za (ZU (.b false) (lb (by rw [Wu,decide_eq_false om];rfl))))))
 refine ak (aq (ar (Z0 1 (iw (Vu ds) (Z0 1 (ie (ab 0 (ZV (fun fz gz m F h=>∃(k:Nat),(k<=ds.length)/\(Uy ds (ds.drop k) k=Uy ds ds 0)/\F=sF [0,12,13] fz [(14,.i k)]/\h=gz/\m=ds.length-k) _ _ _ ⟨0,ob,rfl,rfl,rfl,rfl⟩ (wk [] (ZZ fl)) ?_))))))))
 rintro m F h ⟨k,Y4,Zm,rfl,rfl,rfl⟩
 refine ar (Z0 1 (ie (aq (ZF ((k:Int)<(ds.length:Int)) (fun Zg=>?_) (fun Zg=>?_)))))
 ·refine ak (aq (ab 1 (ar (Z0 1 ?_))))
  obtain ⟨x1,Z2⟩:=Zs ds k om
  have hz1:=hz.cons_at Z2
  refine Zp (Zi none (k:Int) 3 (Wo Z2)) (Z0 1 (iA [.i 0,.i 0,nl] fun b1=>Z0 1 (Zy 0 b1 (UW x1) (ie (aq (ar (Z4 3 [0] (Zx [] (ET ds x1.frm) (Xx 12 [0,3,4,12,13,14] [(30,.b ((!(decide (0<=x1.frm/\x1.frm<=ds.length)))||(!(decide (0<=x1.to_/\x1.to_<=ds.length)))))] (fun gz=>gz) ?_ (fun hj1=>?_))))))))))
  ·refine Xx 18 [0,3,4,12,13,14] [(36,.b (((!(decide (0<=x1.frm/\x1.frm<=ds.length)))||(!(decide (0<=x1.to_/\x1.to_<=ds.length))))||(decide ((x1.cons.length:Int)>3))))] (fun gz=>gz) ?_ (fun hj2=>?_)
   ·refine X8 [0,3,4,12,13,14] [(52,.b ((((!(decide (0<=x1.frm/\x1.frm<=ds.length)))||(!(decide (0<=x1.to_/\x1.to_<=ds.length))))||(decide ((x1.cons.length:Int)>3)))||((decide ((x1.cons.length:Int)>0))&&((x1.frm != 0)||(x1.to_ != 0)))))] (fun gz=>gz) ?_ ?_
    ·refine Z0 1 (ib (b:=(((!(decide (0<=x1.frm/\x1.frm<=ds.length)))||(!(decide (0<=x1.to_/\x1.to_<=ds.length))))||(decide ((x1.cons.length:Int)>3)))) 37 (fun Zf=>?_) (fun Zf=>?_))
     ·have Y2:((¬(0<=x1.frm/\x1.frm<=ds.length))∨(¬(0<=x1.to_/\x1.to_<=ds.length)))∨((x1.cons.length:Int)>3):=((Yn (Yn (Yx dq) (Yx dq)) dq)).1 Zf
      exact Z0 15 (ie (wk [0] (Zr true Zf fl)))
     have Yl:¬(((¬(0<=x1.frm/\x1.frm<=ds.length))∨(¬(0<=x1.to_/\x1.to_<=ds.length)))∨((x1.cons.length:Int)>3)):=Yi (Yn (Yn (Yx dq) (Yx dq)) dq) Zf
     refine Z4 2 [0] (iw (VF x1.cons) (Z0 2 (ib (b:=(decide ((x1.cons.length:Int)>0))) 42 (fun ZH=>?_) (fun ZH=>?_))))
     ·have YO:(x1.cons.length:Int)>0:=(dq).1 ZH
      refine Z4 4 [0] (ib (b:=(x1.frm != 0)) 46 (fun Yv=>?_) (fun Yv=>?_))
      ·have YV:x1.frm≠0:=(Yg).1 Yv
       exact Z0 6 (ie (wk [0] (Zr true (And.intro Zf (And.intro ZH Yv)) fl)))
      have X9:¬(x1.frm≠0):=Yi Yg Yv
      exact Z4 6 [0] (ie (wk [0] (Zr (x1.to_ != 0) (And.intro Zf (And.intro ZH Yv)) fl)))
     have XX:¬((x1.cons.length:Int)>0):=Yi dq ZH
     exact Z0 10 (ie (wk [0] (Zr false (And.intro Zf ZH) fl)))
    refine ac ((((!(decide (0<=x1.frm/\x1.frm<=ds.length)))||(!(decide (0<=x1.to_/\x1.to_<=ds.length))))||(decide ((x1.cons.length:Int)>3)))||((decide ((x1.cons.length:Int)>0))&&((x1.frm != 0)||(x1.to_ != 0)))) (p:=(((¬(0<=x1.frm/\x1.frm<=ds.length))∨(¬(0<=x1.to_/\x1.to_<=ds.length)))∨((x1.cons.length:Int)>3))∨(((x1.cons.length:Int)>0)/\((x1.frm≠0)∨(x1.to_≠0)))) (Yn (Yn (Yn (Yx dq) (Yx dq)) dq) (YC dq (Yn Yg Yg))) (fun ZA=>?_) (fun ZA=>?_)
    ·exact ar (Z0 1 (ie (Za (ZU (.b false) (lb (IC Z2 (Z0f ZA) Zm))))))
    refine ak (aq (ar (Z4 2 [0] (iw (VF x1.cons) (Z0 1 (ie (ab 2 (ZV (fun fz gz m F h=>∃(q:Nat),(q<=x1.cons.length)/\(T6 ds.length (x1.cons.drop q)=T6 ds.length x1.cons)/\F=sF [0,3,4,12,13,14,54,55] fz [(56,.i q)]/\h=gz/\m=x1.cons.length-q) _ _ _ ⟨0,ob,rfl,rfl,rfl,rfl⟩ (wk [0] (ZZ fl)) ?_))))))))
    rintro m F h ⟨q,Vs,XB,rfl,rfl,rfl⟩
    refine ar (Z0 1 (ie (aq (ZF ((q:Int)<(x1.cons.length:Int)) (fun Yf=>?_) (fun Yf=>?_)))))
    ·refine ak (aq (ab 3 (ar ?_)))
     obtain ⟨x2,Zo⟩:=Zs x1.cons q om
     refine Zp (Zi none (q:Int) 1 (Jy Zo)) (Z0 1 (iA [nl] fun b2=>Zy 0 b2 (C9 x2) (ie (ar (Z4 2 [0] (iw (Y9 x2.fields) (X8 [0,3,4,12,13,14,54,55,56] [(70,.b ((decide ((x2.fields.length:Int)>3))||(!XU ds.length x2.fields)))] (fun gz=>gz) ?_ ?_)))))))
     ·refine Z0 2 (ib (b:=(decide ((x2.fields.length:Int)>3))) 64 (fun YX=>?_) (fun YX=>?_))
      ·have Wx:(x2.fields.length:Int)>3:=(dq).1 YX
       exact Z0 6 (ie (wk [0,0] (Zr true YX fl)))
      have Vd:¬((x2.fields.length:Int)>3):=Yi dq YX
      exact Z4 3 [0] (Zx [] (MR ds x2.fields) (Z0 2 (ie (wk [0,0] (Zr (!XU ds.length x2.fields) YX fl)))))
     refine ac ((decide ((x2.fields.length:Int)>3))||(!XU ds.length x2.fields)) (p:=((x2.fields.length:Int)>3)∨(¬(XU ds.length x2.fields=true))) (Yn dq (Yx Iff.rfl)) (fun X3=>?_) (fun X3=>?_)
     ·exact ar (Z0 1 (ie (Za (ZU (.b false) (lb (IC Z2 (Z0g om (by rw [<-XB,Y3 Zo,T6,Z9 (by rw [SM X3];simp)])) Zm))))))
     refine ak (az (ZD q (Z0 1 (ie ?_))))
     have hdr:=Y3 Zo
     exact ZG ⟨q+1,ob,(by rw [Y3 Zo,T6,Zk (SN X3)] at XB;exact XB),rfl,rfl,rfl⟩ (wk [1] (ZK q fl))
    have hC:T6 ds.length x1.cons=true:=by rw [<-XB,X5 om];rfl
    refine ax 2 (ar (Z0 2 (Zp (KD (es:=Yo ds) (hv:=none) (l:=0) (m:=(k:Int)) (sz:=3) (es':=Yo (ds.take k)) kr om (by simp<;>omega) (by simp<;>omega) (QC _) (by first|(simp only [VW,Vl,BP,BO];done)|(simp only [VW,Vl,BP,BO];rfl)|(simp [BP,BO];done))) (io (.i (((ds.take k).length:Nat):Int)) (.i (((Yo (ds.take k)).length:Nat):Int)) (li (by rw [Vu])) (Z0 1 (ie (ab 4 (ZV (fun fz gz m F h=>∃(j:Nat),(j<=k)/\(x1.cons.length=0->Q7 x1 ((ds.take k).drop j)=Q7 x1 (ds.take k))/\F=sF [0,4,12,13,14,74,75] fz [(76,.i j)]/\h=gz/\m=k-j) _ _ _ ⟨0,ob,ob,rfl,rfl,rfl⟩ (wk [0] (ZZ fl)) ?_))))))))
    rintro m F h ⟨j,Lm,E6,rfl,rfl,rfl⟩
    refine ar (Z0 1 (ie (aq (ZF ((j:Int)<(((ds.take k).length:Nat):Int)) (fun Xe=>?_) (fun Xe=>?_)))))
    ·have htl:(ds.take k).length<=k:=by rw [Wm];omega
     refine ak (aq (ab 5 (ar ?_)))
     obtain ⟨x3,YJ⟩:=Zs (ds.take k) j om
     refine Zp (Zi none (j:Int) 3 (Wo YJ)) (Z0 1 (iA [.i 0,.i 0,nl] fun b3=>Zy 0 b3 (UW x3) (ie (ar (Z4 2 [1] (iw (VF x1.cons) (Xx 10 [0,4,8,12,13,14,74,75,76] [(89,.b (((x1.cons.length:Int)==0)&&((x3.cons.length:Int)==0)))] (fun gz=>gz) ?_ (fun hj3=>?_))))))))
     ·refine Xx 17 [0,4,8,12,13,14,74,75,76] [(96,.b ((((x1.cons.length:Int)==0)&&((x3.cons.length:Int)==0))&&(x3.frm==x1.frm)))] (fun gz=>gz) ?_ (fun hj4=>?_)
      ·refine X8 [0,4,12,13,14,74,75,76] [(103,.b (((((x1.cons.length:Int)==0)&&((x3.cons.length:Int)==0))&&(x3.frm==x1.frm))&&(x3.to_==x1.to_)))] (fun gz=>gz) ?_ ?_
       ·refine Z0 1 (ib (b:=((((x1.cons.length:Int)==0)&&((x3.cons.length:Int)==0))&&(x3.frm==x1.frm))) 97 (fun Wc=>?_) (fun Wc=>?_))
        ·have Vo:(((x1.cons.length:Int)=0)/\((x3.cons.length:Int)=0))/\(x3.frm=x1.frm):=((YC (YC Zt Zt) Zt)).1 Wc
         exact Z4 6 [0,1] (ie (wk [0,0] (Zr (x3.to_==x1.to_) Wc fl)))
        have UT:¬((((x1.cons.length:Int)=0)/\((x3.cons.length:Int)=0))/\(x3.frm=x1.frm)):=Yi (YC (YC Zt Zt) Zt) Wc
        exact Z0 6 (ie (wk [0,0] (Zr false Wc fl)))
       refine ac (((((x1.cons.length:Int)==0)&&((x3.cons.length:Int)==0))&&(x3.frm==x1.frm))&&(x3.to_==x1.to_)) (p:=((((x1.cons.length:Int)=0)/\((x3.cons.length:Int)=0))/\(x3.frm=x1.frm))/\(x3.to_=x1.to_)) (YC (YC (YC Zt Zt) Zt) Zt) (fun Vx=>?_) (fun Vx=>?_)
       ·exact ar (Z0 1 (ie (Za (ZU (.b false) (lb (IC Z2 (Z0h om (by rw [<-E6 om,Y3 YJ,Q7,Zk om])) Zm))))))
       exact ak (az (ZD j (Z0 1 (ie (ZG ⟨j+1,ob,(fun q=>by have hq:=E6 q;rw [Y3 YJ,Q7,Z9 om] at hq;exact hq),rfl,rfl,rfl⟩ (wk [1] (ZK j fl)))))))
      refine Z0 1 (ib (b:=(((x1.cons.length:Int)==0)&&((x3.cons.length:Int)==0))) 90 (fun WD=>?_) (fun WD=>?_))
      ·have T8:((x1.cons.length:Int)=0)/\((x3.cons.length:Int)=0):=((YC Zt Zt)).1 WD
       exact Z4 6 [0,1] (Yp (wk [0,0] (Zr (x3.frm==x1.frm) WD fl)) hj4)
      have UD:¬(((x1.cons.length:Int)=0)/\((x3.cons.length:Int)=0)):=Yi (YC Zt Zt) WD
      exact Z0 6 (Yp (wk [0,0] (Zr false WD fl)) hj4)
     refine Z0 2 (ib (b:=((x1.cons.length:Int)==0)) 84 (fun WY=>?_) (fun WY=>?_))
     ·have TS:(x1.cons.length:Int)=0:=(Zt).1 WY
      exact Z4 2 [0] (iw (VF x3.cons) (Z0 2 (Yp (wk [0,0] (Zr ((x3.cons.length:Int)==0) WY fl)) hj3)))
     have TF:¬((x1.cons.length:Int)=0):=Yi Zt WY
     exact Z0 5 (Yp (wk [0,0] (Zr false WY fl)) hj3)
    have htl:(ds.take k).length=k:=by rw [Wm];omega
    have hD:x1.cons.length=0->Q7 x1 (ds.take k)=false:=fun q=>by rw [<-E6 q,X5 om];rfl
    refine ax 4 (az (ZD k (Z0 1 (ie ?_))))
    have hdr:=Y3 Z2
    exact ZG ⟨k+1,ob,(Zcy Z2 (Z0i ZA hC hD) Zm),rfl,rfl,rfl⟩ (wk [] (ZK k fl))
   refine Z0 1 (ib (b:=((!(decide (0<=x1.frm/\x1.frm<=ds.length)))||(!(decide (0<=x1.to_/\x1.to_<=ds.length))))) 31 (fun WJ=>?_) (fun WJ=>?_))
   ·have K0:(¬(0<=x1.frm/\x1.frm<=ds.length))∨(¬(0<=x1.to_/\x1.to_<=ds.length)):=((Yn (Yx dq) (Yx dq))).1 WJ
    exact Z0 5 (Yp (wk [0] (Zr true WJ fl)) hj2)
   have K1:¬((¬(0<=x1.frm/\x1.frm<=ds.length))∨(¬(0<=x1.to_/\x1.to_<=ds.length))):=Yi (Yn (Yx dq) (Yx dq)) WJ
   exact Z4 2 [0] (iw (VF x1.cons) (Z0 2 (Yp (wk [0] (Zr (decide ((x1.cons.length:Int)>3)) WJ fl)) hj2)))
  refine Z0 2 (ib (b:=(!(decide (0<=x1.frm/\x1.frm<=ds.length)))) 24 (fun WK=>?_) (fun WK=>?_))
  ·have Av:¬(0<=x1.frm/\x1.frm<=ds.length):=((Yx dq)).1 WK
   exact Z0 6 (Yp (wk [0] (Zr true WK fl)) hj1)
  have Ku:¬(¬(0<=x1.frm/\x1.frm<=ds.length)):=Yi (Yx dq) WK
  exact Z4 3 [0] (Zx [] (ET ds x1.to_) (Z0 2 (Yp (wk [0] (Zr (!(decide (0<=x1.to_/\x1.to_<=ds.length))) WK fl)) hj1)))
 exact ax 0 (ar (Z0 1 (ie (Za (ZU (.b true) (lb (Zcx om om Zm)))))))
theorem ES (op:Int) :Zl 66 [.i op] [] (Y7 (.b (Y8 op))):=by
 refine ZC 9 Tryz.func66 (ar (Z0 1 (ie (ar (Xx 6 [] [(8,.b ((decide (op>=14))&&(decide (op<=17))))] (fun gz=>gz) ?_ (fun hj1=>?_))))))
 ·exact Z0 1 (ie (Za (ZU (.b ((decide (op>=14))&&(decide (op<=17)))) (lb (by rw [Y8,Xf];simp)))))
 refine Z0 3 (ib (b:=(decide (op>=14))) 5 (fun Zf=>?_) (fun Zf=>?_))
 ·exact Z0 3 (Yp (wk [] (Zr (decide (op<=17)) Zf fl)) hj1)
 exact Z0 3 (Yp (wk [] (Zr false Zf fl)) hj1)
theorem Z54 (b:Z5) (c:Nat) (v:Int) (hb:b.sz<=1000000000:=by exact ob) (hv:0<=v/\v<=600:=by exact ob) (ih:∀(b2:Z5) (c:Nat) (v:Int),(b2.sz<b.sz)->(0<=v/\v<=600)->Zl 63 [ZE b2,.p c 0] [.obj c [.i v]] (fun r h=>(r=.b true/\h=[.obj c [.i (600-XF b2 (600-v))]]/\0<=XF b2 (600-v))∨(r=.b false/\h=[]/\XF b2 (600-v)<0))):Zl 63 [ZE b,.p c 0] [.obj c [.i v]] (fun r h=>(r=.b true/\h=[.obj c [.i (600-XF b (600-v))]]/\0<=XF b (600-v))∨(r=.b false/\h=[]/\XF b (600-v)<0)):=by
 have hbz:=V3 b
 have hbe:=Ns b (600-v)
 refine ZC 38 Tryz.func63 (ar (iA (YU b) fun b1=>?_))
 refine Z0 1 (ie (aq (ar (Z4 2 [0] (iw (WW b.steps) (Z0 1 (ie (ab 0 (ZV (fun fz gz m F h=>∃(k:Nat) (q:Int),(k<=b.steps.length)/\(0<=q/\q<=600)/\(WO (b.steps.drop k) (600-q)=WO b.steps (600-v))/\F=sF [1,10,11] fz [(12,.i k)]/\h=[.obj c [.i q]]/\m=b.steps.length-k) _ _ _ ⟨0,v,ob,ob,rfl,rfl,rfl,rfl⟩ (wk [1] (ZZ fl)) ?_)))))))))
 rintro m F h ⟨k,q,Y4,Zm,Zu,rfl,rfl,rfl⟩
 refine ar (Z0 1 (ie (aq (ZF ((k:Int)<(b.steps.length:Int)) (fun Zb=>?_) (fun Zb=>?_)))))
 ·refine ak (aq (ab 1 (ar ?_)))
  obtain ⟨x1,Z2⟩:=Zs b.steps k om
  have hss:=Qq Z2
  have hkz:=Ud x1
  refine Zp (Zi none (k:Int) 5 (W3 Z2)) (Z0 1 (iA [.i 0,.i 0,.i 0,nl,nl] fun b2=>Zy 0 b2 (Xa x1) (ie (aq (ar (Z4 3 [1] (ia ((q+1)) ((q)+(1)) (Z0 1 (Zy 1 c [.i (q+1)] (ie (ar (Z4 4 [0] (ie (ZF ((q+1)>600) (fun Zg=>?_) (fun Zg=>?_)))))))))))))))
  ·exact ar (Z0 1 (ie (Za (r1 [] (.inr ⟨rfl,rfl,(by rw [hbe,<-Zu,Y3 Z2,WO,Zk om];omega)⟩)))))
  refine ak (ar (Z4 2 [1] (iw (Vh x1.kids) (Z0 1 (ie (ab 2 (ZV (fun fz gz m F h=>∃(j:Nat) (j2:Int),(j<=x1.kids.length)/\(0<=j2/\j2<=600)/\(WZ (x1.kids.drop j) (600-j2)=WZ x1.kids (600-(q+1)))/\F=sF [1,10,11,12,26,27] fz [(28,.i j)]/\h=[.obj c [.i j2]]/\m=x1.kids.length-j) _ _ _ ⟨0,(q+1),ob,ob,rfl,rfl,rfl,rfl⟩ (wk [0] (ZZ fl)) ?_)))))))
  rintro m F h ⟨j,j2,Vs,XB,Xd,rfl,rfl,rfl⟩
  refine ar (Z0 1 (ie (aq (ZF ((j:Int)<(x1.kids.length:Int)) (fun ZA=>?_) (fun ZA=>?_)))))
  ·refine ak (aq (ab 3 (ar ?_)))
   obtain ⟨x2,Zo⟩:=Zs x1.kids j om
   have hks:=Uc Zo
   have hle:=Ca.2 x2 (600-j2) om
   refine Zp (Zi none (j:Int) 2 (VR Zo)) (Z0 1 (iA [nl,.i 0] fun b3=>Zy 0 b3 (YU x2) (ie (ar (Z4 2 [0] (ic [1] (ih x2 c j2 ob ob) ?_))))))
   rintro _ _ (⟨rfl,rfl,Y2⟩|⟨rfl,rfl,Yl⟩)
   ·refine Z0 1 (ie (WH (ak (az (ZD j (Z0 1 (ie ?_)))))))
    have hdr:=Y3 Zo
    exact ZG ⟨j+1,(600-XF x2 (600-j2)),ob,ob,(by rw [Y3 Zo,WZ,Z9 om] at Xd;rw [show 600-(600-XF x2 (600-j2))=XF x2 (600-j2) by omega];exact Xd),rfl,rfl,rfl⟩ (wk [0] (ZK j fl))
   exact Z0 1 (ie (WI (ar (Z0 1 (ie (Za (r1 [] (.inr ⟨rfl,rfl,(by rw [hbe,<-Zu,Y3 Z2,WO,Z9 om,Zk (by rw [F8,show (600-q-1:Int)=600-(q+1) by omega,<-Xd,Y3 Zo,WZ,Zk Yl];omega)];omega)⟩))))))))
  have hE:WZ x1.kids (600-(q+1))=600-j2:=by rw [<-Xd,X5 om,WZ]
  refine ax 2 (az (ZD k (Z0 1 (ie ?_))))
  have hdr:=Y3 Z2
  exact ZG ⟨k+1,j2,ob,ob,(by rw [Y3 Z2,WO,Z9 om,F8,show (600-q-1:Int)=600-(q+1) by omega,hE,Z9 om] at Zu;exact Zu),rfl,rfl,rfl⟩ (wk [0] (ZK k fl))
 refine ax 0 (ar (Z0 1 (ie ?_)))
 have hF:XF b (600-v)=600-q:=by rw [hbe,<-Zu,X5 om,WO]
 exact Za (r1 [0] (.inl ⟨rfl,rfl,om⟩) (eq:=(ro (ls:=[.i q]) (by rw [hF,show (600-(600-q):Int)=q by omega]) rz)))
theorem Z53:∀(b:Z5) (c:Nat) (v:Int),(b.sz<=1000000000)->(0<=v/\v<=600)->Zl 63 [ZE b,.p c 0] [.obj c [.i v]] (fun r h=>(r=.b true/\h=[.obj c [.i (600-XF b (600-v))]]/\0<=XF b (600-v))∨(r=.b false/\h=[]/\XF b (600-v)<0)):=by
 have key:∀m:Nat,∀(b:Z5) (c:Nat) (v:Int),(b.sz<=m)->(b.sz<=1000000000)->(0<=v/\v<=600)->Zl 63 [ZE b,.p c 0] [.obj c [.i v]] (fun r h=>(r=.b true/\h=[.obj c [.i (600-XF b (600-v))]]/\0<=XF b (600-v))∨(r=.b false/\h=[]/\XF b (600-v)<0)):=by
  intro m
  induction m with
  | zero=>intro b c v h;have:=b.sz_pos;omega
  | succ m ih=>intro b c v h1 h2 h3;exact Z54 b c v h2 h3 fun b2 c2 v2 k1 k2=>ih b2 c2 v2 om om k2
 intro b c v h2 h3
 exact key b.sz b c v (YR _) h2 h3
theorem MP (b:Z5) (hb:b.sz<=1000000000:=by exact ob):Zl 22 [ZE b] [] (Y7 (.i (Wr b))):=by
 refine ZC 8 Tryz.func22 (ar (iA (YU b) fun b1=>Z0 1 (ie (ar (iA [.i 0] fun b2=>Zy 0 b2 [.i 0] (ie (aq (ar (Z4 1 [1] (ic [0] (Z53 b b2 0 ob ob) ?_))))))))))
 rintro _ _ (⟨rfl,rfl,Y2⟩|⟨rfl,rfl,Yl⟩)
 ·have h0:=Y2
  rw [show (600-0:Int)=600 from rfl] at h0
  exact Z0 1 (ie (WH (ak (ar (Z4 2 [0] (ie (Za (ZU (.i (600-XF b (600-0))) (li (by rw [show (600-0:Int)=600 from rfl,Wr,Z9 om]))))))))))
 have h0:=Yl
 rw [show (600-0:Int)=600 from rfl] at h0
 exact Z0 1 (ie (WI (ar (Z0 1 (ie (Za (ZU (.i (-1)) (li (by rw [Wr,Zk h0])))))))))
theorem Z5f (ds:List Zd) (fs:List WG) (hz:Qv ds:=by exact ob) (hf:∀f∈fs,f.pms.length<=4194304/\f.lnt.length<=4194304) (hfl:fs.length<=4194304:=by exact ob):Zl 90 [Ya ds,Cd fs] [] (Y7 (.b (Ke ds fs))):=by
 have hzl:=hz.len
 refine ZC 102 Tryz.func90 (ar (Z0 1 (ie (aq (ar (Z0 1 (Zx [] (Z4u ds) (Xx 8 [0,1] [(16,.b ((!Wu ds)||(decide ((fs.length:Int)<1))))] (fun gz=>gz) ?_ (fun hj1=>?_)))))))))
 ·refine Xx 13 [0,1] [(21,.b (((!Wu ds)||(decide ((fs.length:Int)<1)))||(decide ((fs.length:Int)>4))))] (fun gz=>gz) ?_ (fun hj2=>?_)
  ·refine Z0 1 (ib (b:=(((!Wu ds)||(decide ((fs.length:Int)<1)))||(decide ((fs.length:Int)>4)))) 22 (fun Zf=>?_) (fun Zf=>?_))
   ·have Y2:((¬(Wu ds=true))∨((fs.length:Int)<1))∨((fs.length:Int)>4):=((Yn (Yn (Yx Iff.rfl) dq) dq)).1 Zf
    exact Z0 14 (ie (WI (ar (Z0 1 (ie (Za (ZU (.b false) (lb (Zd2 (by assumption))))))))))
   have Yl:¬(((¬(Wu ds=true))∨((fs.length:Int)<1))∨((fs.length:Int)>4)):=Yi (Yn (Yn (Yx Iff.rfl) dq) dq) Zf
   refine Z0 1 ?_
   obtain ⟨x1,Z2⟩:=Zs fs 0 om
   refine Zp (Zi none 0 3 (BS Z2)) (Z0 2 (iw (Y9 x1.pms) (Z0 3 (ib (b:=(decide ((x1.pms.length:Int)>0))) 30 (fun ZH=>?_) (fun ZH=>?_)))))
   ·have YO:(x1.pms.length:Int)>0:=(dq).1 ZH
    exact Z0 6 (ie (WI (ar (Z0 1 (ie (Za (ZU (.b false) (lb (R9 Z2 (.inl (by assumption)))))))))))
   have YV:¬((x1.pms.length:Int)>0):=Yi dq ZH
   refine Z0 1 (Zp (Zi none 0 3 (BS Z2)) (Z0 4 (ie (ac (x1.res != 0) Yg (fun Zb=>?_) (fun Zb=>?_)))))
   ·exact ar (Z0 1 (ie (Za (ZU (.b false) (lb (R9 Z2 (.inr Zb)))))))
   refine ak (aq (ar (Z0 1 (iw (CM fs) (Z0 1 (ie (ab 0 (ZV (fun fz gz m F h=>∃(k:Nat),(k<=fs.length)/\(QI ds.length (fs.drop k)=QI ds.length fs)/\F=sF [0,37,38] fz [(39,.i k)]/\h=gz/\m=fs.length-k) _ _ _ ⟨0,ob,ob,rfl,rfl,rfl⟩ (wk [] (ZZ fl)) ?_))))))))
   rintro m F h ⟨k,Y4,Zm,rfl,rfl,rfl⟩
   refine ar (Z0 1 (ie (aq (ZF ((k:Int)<(fs.length:Int)) (fun Zg=>?_) (fun Zg=>?_)))))
   ·refine ak (aq (ab 1 (ar ?_)))
    obtain ⟨x2,Zo⟩:=Zs fs k om
    have hf2:=hf _ (Y0 Zo)
    refine Zp (Zi none (k:Int) 3 (BS Zo)) (Z0 1 (iA [nl,nl,.i 0] fun b1=>Zy 0 b1 (Nk x2) (ie (aq (ar (Z4 2 [0] (iw (Y9 x2.pms) (Xx 11 [0,6,37,38,39] [(53,.b ((decide ((x2.pms.length:Int)>3))||(!XU ds.length x2.pms)))] (fun gz=>gz) ?_ (fun hj3=>?_)))))))))
    ·refine X8 [0,6,37,38,39] [(60,.b (((decide ((x2.pms.length:Int)>3))||(!XU ds.length x2.pms))||(!(decide (0<=x2.res/\x2.res<=ds.length)))))] (fun gz=>gz) ?_ ?_
     ·refine Z0 1 (ib (b:=((decide ((x2.pms.length:Int)>3))||(!XU ds.length x2.pms))) 54 (fun Yv=>?_) (fun Yv=>?_))
      ·have X9:((x2.pms.length:Int)>3)∨(¬(XU ds.length x2.pms=true)):=((Yn dq (Yx Iff.rfl))).1 Yv
       exact Z0 6 (ie (wk [0] (Zr true Yv fl)))
      have XX:¬(((x2.pms.length:Int)>3)∨(¬(XU ds.length x2.pms=true))):=Yi (Yn dq (Yx Iff.rfl)) Yv
      exact Z4 3 [0] (Zx [] (ET ds x2.res) (Z0 2 (ie (wk [0] (Zr (!(decide (0<=x2.res/\x2.res<=ds.length))) Yv fl)))))
     refine ac (((decide ((x2.pms.length:Int)>3))||(!XU ds.length x2.pms))||(!(decide (0<=x2.res/\x2.res<=ds.length)))) (p:=(((x2.pms.length:Int)>3)∨(¬(XU ds.length x2.pms=true)))∨(¬(0<=x2.res/\x2.res<=ds.length))) (Yn (Yn dq (Yx Iff.rfl)) (Yx dq)) (fun ZA=>?_) (fun ZA=>?_)
     ·exact ar (Z0 1 (ie (Za (ZU (.b false) (lb (FW (FC Zo (Z9o ZA) Zm)))))))
     refine ak (ar (Z4 2 [0] (iw (Y9 x2.lnt) (Z0 1 (ie (ab 2 (ZV (fun fz gz m F h=>∃(j:Nat),(j<=x2.lnt.length)/\(QF x2.pms (x2.lnt.drop j) (if j=0 then none else x2.lnt[j-1]?)=KH x2.pms x2.lnt)/\F=sF [0,6,37,38,39,62,63] fz [(64,.i j)]/\h=gz/\m=x2.lnt.length-j) _ _ _ ⟨0,ob,(by rfl),rfl,rfl,rfl⟩ (wk [0] (ZZ fl)) ?_)))))))
     rintro m F h ⟨j,Vs,XB,rfl,rfl,rfl⟩
     refine ar (Z0 1 (ie (aq (ZF ((j:Int)<(x2.lnt.length:Int)) (fun Yf=>?_) (fun Yf=>?_)))))
     ·refine ak (aq (ab 3 (ar (Z0 1 ?_))))
      obtain ⟨x3,YJ⟩:=Zs x2.lnt j om
      refine Zp (Zi none (j:Int) 1 (ZY YJ)) (Z0 3 (ie (ar (Xx 9 [0,6,7,8,37,38,39,62,63,64] [(77,.b ((decide (x3<0))||(decide (x3>=(x2.pms.length:Int)))))] (fun gz=>gz) ?_ (fun hj4=>?_)))))
      ·refine Z0 1 (ib (b:=((decide (x3<0))||(decide (x3>=(x2.pms.length:Int))))) 78 (fun YX=>?_) (fun YX=>?_))
       ·have Wx:(x3<0)∨(x3>=(x2.pms.length:Int)):=((Yn dq dq)).1 YX
        exact Z0 21 (ie (WI (ar (Z0 1 (ie (Za (ZU (.b false) (lb (FW (FC Zo (I8 (HL YJ (by rintro ⟨q1,q2,q3⟩;first|omega|(rw [Vy] at q2;exact q2 (Yc some om))|(have:=q3 _ (by rw [Z9 om];exact UU);omega)) XB)) Zm))))))))))
       have Vd:¬((x3<0)∨(x3>=(x2.pms.length:Int))):=Yi (Yn dq dq) YX
       refine Z4 3 [0] ?_
       obtain ⟨x4,Vy⟩:=Zs x2.pms x3.toNat om
       refine Zp (Zi none x3 1 (ZY Vy)) (Z0 4 (ib (b:=(x4==0)) 86 (fun Wc=>?_) (fun Wc=>?_)))
       ·have Vo:x4=0:=(Zt).1 Wc
        exact Z0 13 (ie (WI (ar (Z0 1 (ie (Za (ZU (.b false) (lb (FW (FC Zo (I8 (HL YJ (by rintro ⟨q1,q2,q3⟩;first|omega|(rw [Vy] at q2;exact q2 (Yc some om))|(have:=q3 _ (by rw [Z9 om];exact UU);omega)) XB)) Zm))))))))))
       have UT:¬(x4=0):=Yi Zt Wc
       refine Z0 3 (ib (b:=(decide ((j:Int)>0))) 89 (fun WD=>?_) (fun WD=>?_))
       ·have T8:(j:Int)>0:=(dq).1 WD
        refine Z4 4 [0] (ia (((j-1:Nat):Int)) (((j:Int))-(1)) ?_)
        obtain ⟨x5,UU⟩:=Zs x2.lnt (j-1) om
        refine Zp (Zi none ((j-1:Nat):Int) 1 (ZY UU)) (Z0 4 (ie (ZF (x3<=x5) (fun X3=>?_) (fun X3=>?_))))
        ·exact ar (Z0 1 (ie (Za (ZU (.b false) (lb (FW (FC Zo (I8 (HL YJ (by rintro ⟨q1,q2,q3⟩;first|omega|(rw [Vy] at q2;exact q2 (Yc some om))|(have:=q3 _ (by rw [Z9 om];exact UU);omega)) XB)) Zm)))))))
        refine ak (az (ZD j (Z0 1 (ie ?_))))
        have hdr:=Y3 YJ
        exact ZG ⟨j+1,ob,(Ny YJ ⟨by omega,(by rw [Vy];intro q;cases q;omega),fun p hp=>by first|(rw [Zk om] at hp;cases hp;done)|(rw [Z9 om,UU] at hp;cases hp;omega)⟩ XB),rfl,rfl,rfl⟩ (wk [0] (ZK j fl))
       have UD:¬((j:Int)>0):=Yi dq WD
       refine Z0 10 (ie (WH (ak (az (ZD j (Z0 1 (ie ?_)))))))
       have hdr:=Y3 YJ
       exact ZG ⟨j+1,ob,(Ny YJ ⟨by omega,(by rw [Vy];intro q;cases q;omega),fun p hp=>by first|(rw [Zk om] at hp;cases hp;done)|(rw [Z9 om,UU] at hp;cases hp;omega)⟩ XB),rfl,rfl,rfl⟩ (wk [0] (ZK j fl))
      refine Z0 3 (ib (b:=(decide (x3<0))) 71 (fun WY=>?_) (fun WY=>?_))
      ·have TS:x3<0:=(dq).1 WY
       exact Z0 6 (Yp (wk [0] (Zr true WY fl)) hj4)
      have TF:¬(x3<0):=Yi dq WY
      exact Z4 3 [0] (iw (Y9 x2.pms) (Z0 2 (Yp (wk [0] (Zr (decide (x3>=(x2.pms.length:Int))) WY fl)) hj4)))
     have hL:KH x2.pms x2.lnt=true:=by rw [<-XB,X5 om];rfl
     have hS:=Z9p ZA hL
     refine ax 2 (az (ZD k (Z0 1 (ie ?_))))
     have hdr:=Y3 Zo
     exact ZG ⟨k+1,ob,(Za8 Zo hS Zm),rfl,rfl,rfl⟩ (wk [] (ZK k fl))
    refine Z0 2 (ib (b:=(decide ((x2.pms.length:Int)>3))) 47 (fun WJ=>?_) (fun WJ=>?_))
    ·have K0:(x2.pms.length:Int)>3:=(dq).1 WJ
     exact Z0 6 (Yp (wk [0] (Zr true WJ fl)) hj3)
    have K1:¬((x2.pms.length:Int)>3):=Yi dq WJ
    exact Z4 3 [0] (Zx [] (MR ds x2.pms) (Z0 2 (Yp (wk [0] (Zr (!XU ds.length x2.pms) WJ fl)) hj3)))
   exact ax 0 (ar (Z0 1 (ie (Za (ZU (.b true) (lb (Zd3 (by assumption) Z2 (by assumption) Zb (by rw [<-Zm,X5 om];rfl))))))))
  refine Z0 1 (ib (b:=((!Wu ds)||(decide ((fs.length:Int)<1)))) 17 (fun WK=>?_) (fun WK=>?_))
  ·have Av:(¬(Wu ds=true))∨((fs.length:Int)<1):=((Yn (Yx Iff.rfl) dq)).1 WK
   exact Z0 4 (Yp (wk [] (Zr true WK fl)) hj2)
  have Ku:¬((¬(Wu ds=true))∨((fs.length:Int)<1)):=Yi (Yn (Yx Iff.rfl) dq) WK
  exact Z0 1 (iw (CM fs) (Z0 2 (Yp (wk [] (Zr (decide ((fs.length:Int)>4)) WK fl)) hj2)))
 refine Z0 2 (ib (b:=(!Wu ds)) 12 (fun TQ=>?_) (fun TQ=>?_))
 ·have MK:¬(Wu ds=true):=((Yx Iff.rfl)).1 TQ
  exact Z0 4 (Yp (wk [] (Zr true TQ fl)) hj1)
 have ML:¬(¬(Wu ds=true)):=Yi (Yx Iff.rfl) TQ
 exact Z0 1 (iw (CM fs) (Z0 2 (Yp (wk [] (Zr (decide ((fs.length:Int)<1)) TQ fl)) hj1)))
theorem Z58 (n:Zq) (hz:VC n:=by exact ob):Zl 54 [Yb n] [] (fun r h=>(r=.tup [.agg [Ya n.decls,Ts n],.b (VT n)]/\h=[]/\n.routines.length<=4)∨(r=.tup [.agg [Ya [],Cd []],.b false]/\h=[]/\VT n=false)):=by
 have hzl:=hz.len
 refine ZC 41 Tryz.func54 (ar (iA (Yz n) fun b1=>iA [nl,nl] fun b2=>Z0 1 (ie (aq (ar (Z4 2 [1] (iw (Vm n.routines) (Z0 1 (ie (ZF ((n.routines.length:Int)>4) (fun Zb=>?_) (fun Zb=>?_)))))))))))
 ·exact ar (Z0 1 (Zy 0 b2 [nl,nl] (Z0 1 (ie (Za (r3 [] [.agg [nl,nl],.b false] [0] [(b2,b2)] (.inr ⟨rfl,rfl,(by rw [NJ,decide_eq_false om];rfl)⟩) (Zc.tup (.cons (Zc.agg (.cons (Zc.sl _ rfl) (.cons (Zc.sl _ rfl) .nil))) (.cons (lr _) .nil)))))))))
 refine ak (ar (Z4 3 [1] (iA [nl,nl] fun b3=>?_)))
 refine Zy 0 b3 [Ya n.decls,nl] (ie (aq (ar (Z4 2 [2] (iw (Vm n.routines) (Z0 1 (ie (ab 0 (B3 3 (ZV (fun fz gz m F h=>∃(k:Nat) (v:Value),(k<=n.routines.length)/\F=sF [1,2,4,16,17] fz [(18,.i k)]/\h=[.obj b3 [Ya n.decls,Fg ((n.routines.take k).map XG) v],Zh gz 2,Zh gz 3,.tail v 3]/\m=n.routines.length-k) _ _ _ ⟨0,(.slice none 0 0),ob,rfl,rfl,rfl⟩ (wk [1,1,1,0] (ZZ fl)) ?_))))))))))
 rintro m F h ⟨k,v,Y4,rfl,rfl,rfl⟩
 refine ar (Z0 1 (ie (aq (ZF ((k:Int)<(n.routines.length:Int)) (fun Zg=>?_) (fun Zg=>?_)))))
 ·refine ak (aq (ab 1 (ar ?_)))
  obtain ⟨x1,Z2⟩:=Zs n.routines k om
  refine Zp (Zi none (k:Int) 5 (Wi Z2)) (Z0 1 (iA [nl,nl,.i 0,nl,.i 0] fun b4=>Zy 0 b4 (Tj x1) (ie (az (Z4 9 [1,0,0,0] (iL (UP [WG.mk x1.params x1.lent x1.result]) 1 3 fun v1=>ZM 0 [(31,Cd [WG.mk x1.params x1.lent x1.result])] (ip 5 (UP ((n.routines.take (k+1)).map XG)) (UP ((n.routines.take k).map XG)) (UP [WG.mk x1.params x1.lent x1.result]) v none 3 (LP _) (LP _) (Z14 _) (by simp<;>omega) (by rw [We Z2];simp [UP,XG]) fun v2=>Z0 1 (Zy 3 b3 [Ya n.decls,Fg ((n.routines.take (k+1)).map XG) v2] (ie (az (ZD k (Z0 1 (ie ?_)))))))))))))
  have hdr:=Y3 Z2
  exact ZG ⟨k+1,v2,ob,rfl,rfl,rfl⟩ (wk [0,3,3,0] (ZK k fl))
 refine ax 0 (aD 8 (BM 3 8 [0,1,2,3,4] [(39,Cd ((n.routines.take k).map XG))] [0,2,0] (Z8 5 (Ye 5 [] [0] [b3] (Z5f n.decls ((n.routines.take k).map XG) (hz:=hz.decls) (hf:=(by intro f hf;obtain ⟨r,h1,rfl⟩:=Xy.1 hf;have:=TK h1;exact ⟨hz.params r this,hz.lent r this⟩))) (Z8 6 (YA 6 1 [] [] b2 [Ya n.decls,Fg ((n.routines.take k).map XG) v] (Zj 0 1 [7] (de ?_))))))))
 have htk:n.routines.take k=n.routines:=WA om
 exact Za (r3 [] [.agg [Ya n.decls,Fg ((n.routines.take k).map XG) v],.b (Ke n.decls ((n.routines.take k).map XG))] [0] [(b2,b2)] (.inl ⟨rfl,rfl,om⟩) (Zc.tup (.cons (Zc.agg (.cons (lr _) (.cons (Zc.sl _ (Yc UP (by rw [htk]))) .nil))) (.cons (lb (by rw [htk,NJ,decide_eq_true (p:=n.routines.length<=4) om,Bool.true_and])) .nil))))
theorem Z5c (n:Zq) (t:Int) (hn:X2 n:=by exact ob):Zl 131 [.agg [Ya n.decls,Ts n],.i t] [] (Y7 (K7 ((ZQ n.decls t).map (ZP n.decls)))):=by
 have Xn:=hn.decls
 have hcl:=HR Xn t
 refine ZC 26 Tryz.func131 (ar (iA [Ya n.decls,Ts n] fun b1=>?_))
 refine Z0 1 (ie (ar (Z0 1 (ie (aq (ar (Z4 3 [0] (Zx [] (Z52 n.decls t) (io (.i (((ZQ n.decls t).length:Nat):Int)) (.i (((Z7 (ZQ n.decls t)).length:Nat):Int)) (li (by rw [Y9])) (Z0 1 (ie (ab 0 (B3 1 (ZV (fun fz gz m F h=>∃(k:Nat) (v:Value),(k<=(ZQ n.decls t).length)/\F=sF [2,11,12] fz [(5,Cf (((ZQ n.decls t).take k).map (ZP n.decls)) v),(13,.i k)]/\h=[Zh gz 1,.tail v 1]/\m=(ZQ n.decls t).length-k) _ _ _ ⟨0,(.slice none 0 0),ob,rfl,rfl,rfl⟩ (wk [1,0] (fc (x:=nl) (Zc.slh _ rfl) (ZZ fl))) ?_))))))))))))))
 rintro m F h ⟨k,v,Y4,rfl,rfl,rfl⟩
 refine ar (Z0 1 (ie (aq (ZF ((k:Int)<(((ZQ n.decls t).length:Nat):Int)) (fun Zb=>?_) (fun Zb=>?_)))))
 ·refine ak (aq (ab 1 (ar ?_)))
  obtain ⟨x1,Z2⟩:=Zs (ZQ n.decls t) k om
  refine Zp (Zi none (k:Int) 1 (ZY Z2)) (Z0 2 (ie (az (Z4 4 [0] (Zx [] (Z55 n.decls x1 (hc:=(by have:=SP Xn Z2;omega))) (iL (W0 [ZP n.decls x1]) 1 1 fun v1=>ZM 0 [(22,K7 [ZP n.decls x1])] (ip 2 (W0 (((ZQ n.decls t).take (k+1)).map (ZP n.decls))) (W0 (((ZQ n.decls t).take k).map (ZP n.decls))) (W0 [ZP n.decls x1]) v none 1 (Ao _) (Ao _) (Eo _) (by simp;omega) (by rw [We Z2];simp [W0]) fun v2=>Z0 1 (ie (az (ZD k (Z0 1 (ie ?_))))))))))))
  have hdr:=Y3 Z2
  exact ZG ⟨k+1,v2,ob,rfl,rfl,rfl⟩ (wk [2,0] (fr (ZK k fl)))
 exact ax 0 (ar (Z0 2 (ie (Za (ZU (Cf (((ZQ n.decls t).take k).map (ZP n.decls)) v) (Zc.sl _ (Yc W0 (by rw [WA om]))))))))
theorem Z5d (n:Zq) (op:Int) (num:Int) (ts:LI) (hn:X2 n:=by exact ob) (hl_ts:ts.length<=4294967296:=by exact ob) (hnum:-9223372036854775808<=num/\num<=9223372036854775807:=by exact ob):Zl 132 [.agg [Ya n.decls,Ts n],.i op,.i num,Z6 ts] [] (fun r h=>∃(t:Int),r=.tup [.i t,.b ((Xp n op num ts).isSome)]/\h=[]/\∀x,Xp n op num ts=some x->t=x):=by
 have Xn:=hn.decls
 have hrl:=hn.len
 have hcfl:(ZP n.decls num).length<=4294967296:=by have:=VP Xn num;omega
 have hdl:n.decls.length<=4294967296:=by have:=Xn.len;omega
 refine ZC 149 Tryz.func132 (ar (iA [Ya n.decls,Ts n] fun b1=>Z0 2 (ie (ar (Z0 2 (ie (aq (ar (Z0 1 (ie (ab 0 (ar (Z0 2 (ie (ac (op==0) Zt (fun Zb=>?_) (fun Zb=>?_))))))))))))))))
 ·refine ar (Xx 6 [3] [(26,.b ((decide (num>=(-999)))&&(decide (num<=999))))] (fun gz=>gz) ?_ (fun hj1=>?_))
  ·refine Xx 11 [] [(31,.b (((decide (num>=(-999)))&&(decide (num<=999)))&&((ts.length:Int)==0)))] (fun gz=>gz) ?_ (fun hj2=>?_)
   ·refine Z0 2 (ie ?_)
    have hF:=sf0 (n:=n) (num:=num) (ts:=ts) Zb
    exact Za (r2 [] [.i 0,.b (((decide (num>=(-999)))&&(decide (num<=999)))&&((ts.length:Int)==0))] ⟨0,rfl,rfl,(AI hF)⟩ (Zc.tup (.cons (lr _) (.cons (lb (AH hF (by simp [*];try omega))) .nil))))
   refine Z0 1 (ib (b:=((decide (num>=(-999)))&&(decide (num<=999)))) 27 (fun Zf=>?_) (fun Zf=>?_))
   ·have Y2:(num>=(-999))/\(num<=999):=((YC dq dq)).1 Zf
    exact Z0 1 (iw (Y9 ts) (Z0 2 (Yp (wk [0] (Zr ((ts.length:Int)==0) Zf fl)) hj2)))
   have Yl:¬((num>=(-999))/\(num<=999)):=Yi (YC dq dq) Zf
   exact Z0 4 (Yp (wk [0] (Zr false Zf fl)) hj2)
  refine Z0 3 (ib (b:=(decide (num>=(-999)))) 23 (fun ZH=>?_) (fun ZH=>?_))
  ·have YO:num>=(-999):=(dq).1 ZH
   exact Z0 3 (Yp (wk [0] (Zr (decide (num<=999)) ZH fl)) hj1)
  have YV:¬(num>=(-999)):=Yi dq ZH
  exact Z0 3 (Yp (wk [0] (Zr false ZH fl)) hj1)
 refine aq (ar (Z0 2 (ie (XC (fun fz gz F h=>F=sF [1,2,3,4,11,18] fz [(32,.b ((op==1)||((op==2)||((op==3)||(op==4)))))]/\h=gz) ?_ ?_))))
 ·refine ac (op==1) Zt (fun Zg=>?_) (fun Zg=>?_)
  ·exact ak (ZO ⟨rfl,rfl⟩ (wk [0] (fc (x:=.b (op==1)) (lb (by first|rfl|(rw [Zk Zg])|(rw [Z9 Zg])|(simp [Zg];done)|(rw [Xf];simp [Zg];done)|omega)) fl)))
  refine ar (Z0 2 (ie (ac (op==2) Zt (fun ZA=>?_) (fun ZA=>?_))))
  ·exact ak (ZO ⟨rfl,rfl⟩ (wk [0] (fc (x:=.b (op==2)) (lb (by first|rfl|(rw [Zk Zg])|(rw [Z9 Zg])|(simp [Zg,ZA];done)|(rw [Xf];simp [Zg,ZA];done)|omega)) fl)))
  refine ar (Z0 2 (ie (ac (op==3) Zt (fun Yf=>?_) (fun Yf=>?_))))
  ·exact ak (ZO ⟨rfl,rfl⟩ (wk [0] (fc (x:=.b (op==3)) (lb (by first|rfl|(rw [Zk Zg])|(rw [Z9 Zg])|(simp [Zg,ZA,Yf];done)|(rw [Xf];simp [Zg,ZA,Yf];done)|omega)) fl)))
  exact az (Z0 2 (ie (ZO ⟨rfl,rfl⟩ (wk [0] (fc (x:=.b (op==4)) (lb (by first|rfl|(rw [Zk Zg])|(rw [Z9 Zg])|(simp [Zg,ZA,Yf];done)|(rw [Xf];simp [Zg,ZA,Yf];done)|omega)) fl)))))
 rintro F h ⟨rfl,rfl⟩
 refine ac ((op==1)||((op==2)||((op==3)||(op==4)))) (p:=(op=1)∨((op=2)∨((op=3)∨(op=4)))) (Yn Zt (Yn Zt (Yn Zt Zt))) (fun X3=>?_) (fun X3=>?_)
 ·refine az (iL (Z7 [0,0]) 2 1 fun v1=>Z0 1 (ie (ar (Xx 8 [] [(141,.i 0),(148,.b ((num==0)&&(decide (ts=[0,0]))))] (fun gz=>gz) ?_ (fun hj3=>?_)))))
  ·refine Z0 2 (ie ?_)
   have hF:=sf1 (n:=n) (num:=num) (ts:=ts) X3
   exact Za (r2 [] [.i 0,.b ((num==0)&&(decide (ts=[0,0])))] ⟨0,rfl,rfl,(AI hF)⟩ (Zc.tup (.cons (lr _) (.cons (lb (AH hF (by simp [*];try omega))) .nil))))
  refine Z0 4 (ib (b:=(num==0)) 144 (fun Yv=>?_) (fun Yv=>?_))
  ·have X9:num=0:=(Zt).1 Yv
   exact ZM 2 [(146,Z6 [0,0])] (Zx [] (DE ts [0,0]) (Z0 1 (Yp (wk [0,0] (fr (Zr (decide (ts=[0,0])) Yv fl))) hj3)))
  have XX:¬(num=0):=Yi Zt Yv
  exact Z0 4 (Yp (wk [0,0] (fr (Zr false Yv fl))) hj3)
 refine ar (Z0 2 (ie (ac (op==5) Zt (fun Xe=>?_) (fun Xe=>?_))))
 ·refine az (iL (Z7 [0]) 1 1 fun v2=>Z0 1 (ie (ar (Xx 8 [] [(141,.i 0),(148,.b ((num==0)&&(decide (ts=[0]))))] (fun gz=>gz) ?_ (fun hj4=>?_)))))
  ·refine Z0 2 (ie ?_)
   have hF:=sf5 (n:=n) (num:=num) (ts:=ts) Xe
   exact Za (r2 [] [.i 0,.b ((num==0)&&(decide (ts=[0])))] ⟨0,rfl,rfl,(AI hF)⟩ (Zc.tup (.cons (lr _) (.cons (lb (AH hF (by simp [*];try omega))) .nil))))
  refine Z0 4 (ib (b:=(num==0)) 144 (fun YX=>?_) (fun YX=>?_))
  ·have Wx:num=0:=(Zt).1 YX
   exact ZM 2 [(146,Z6 [0])] (Zx [] (DE ts [0]) (Z0 1 (Yp (wk [0,0] (fr (Zr (decide (ts=[0])) YX fl))) hj4)))
  have Vd:¬(num=0):=Yi Zt YX
  exact Z0 4 (Yp (wk [0,0] (fr (Zr false YX fl))) hj4)
 refine ar (Z0 2 (ie (ac (op==11) Zt (fun Vx=>?_) (fun Vx=>?_))))
 ·refine aq (ar (Z0 1 (iw (Y9 ts) (Z0 1 (ie (ac ((ts.length:Int) != 2) Yg (fun Vn=>?_) (fun Vn=>?_)))))))
  ·refine ar (Z0 2 (ie ?_))
   have hF:=Za5 (n:=n) (num:=num) Vx Vn
   exact Za (r2 [] [.i (-1),.b false] ⟨(-1),rfl,rfl,(DD hF)⟩ (Zc.tup (.cons (lr _) (.cons (lb (DC hF)) .nil))))
  refine ak (aD 12 (ZL 9 12 [0,1,2] [0] ?_))
  obtain ⟨x1,Z2⟩:=Zs ts 0 om
  refine dx 3 (Zi none 0 1 (ZY Z2)) (Zj 7 8 [4] (Kn (fun fz gz F h=>∃(b2:Nat),F=sF [2,3] fz [(12,.p b2 0),(13,.b (XE n.decls x1))]/\h=[.obj b2 (UW (Ve n.decls x1)),Zh gz 0]) ?_ ?_))
  ·refine Vg 5 9 ?_ ?_
   ·exact Ye 5 [] [] [] (ER n.decls x1) (Zj 3 6 [6,7,8] (Z8 9 (dA 9 [] [] [.i 0,.i 0,nl] fun b2=>Z8 10 (YA 10 0 [] [] b2 (UW (Ve n.decls x1)) (Zj 0 1 [11] (de (ZO ⟨b2,rfl,rfl⟩ (wk [0,0] fl))))))))
   exact dA 9 [0] [b1] [.i 0,.i 0,nl] fun b3=>Z8 5 (Ye 5 [] [] [] (ER n.decls x1) (Zj 2 5 [6,7,8] (Z8 10 (YA 10 0 [] [] b3 (UW (Ve n.decls x1)) (Zj 0 1 [11] (de (ZO ⟨b3,rfl,rfl⟩ (wk [0,0] fl))))))))
  rintro F h ⟨b2,rfl,rfl⟩
  refine aD 17 (ZL 13 17 [0,1,2,3] [0] (db (b:=XE n.decls x1) 58 (fun Wc=>?_) (fun Wc=>?_)))
  ·have Vo:XE n.decls x1=true:=(Iff.rfl).1 Wc
   refine Zj 12 13 [4] ?_
   obtain ⟨x2,Zo⟩:=Zs ts 1 om
   refine dx 5 (Zi none 1 1 (ZY Zo)) (ZL 4 11 [6,7,8,9,10,11,15] [0] (db (b:=(x2==((Ve n.decls x1).frm))) 66 (fun WD=>?_) (fun WD=>?_)))
   ·have UT:x2=((Ve n.decls x1).frm):=(Zt).1 WD
    refine Zj 0 4 [12,13,14,16] (de ?_)
    have hF:=Ie (n:=n) (num:=num) Vx Vn Z2 Zo
    exact Za (r2 [] [.i ((Ve n.decls x1).to_),.b (num==0)] ⟨(Ve n.decls x1).to_,rfl,rfl,(AI hF)⟩ (Zc.tup (.cons (lr _) (.cons (lb (AH hF (by simp [*];try omega))) .nil))))
   have T8:¬(x2=((Ve n.decls x1).frm)):=Yi Zt WD
   refine Zj 0 4 [12,13,14,16] (de ?_)
   have hF:=Ie (n:=n) (num:=num) Vx Vn Z2 Zo
   exact Za (r2 [] [.i ((Ve n.decls x1).to_),.b false] ⟨(Ve n.decls x1).to_,rfl,rfl,(AI hF)⟩ (Zc.tup (.cons (lr _) (.cons (lb (AH hF (by simp [*]))) .nil))))
  have UD:¬(XE n.decls x1=true):=Yi Iff.rfl Wc
  refine Zj 0 13 [4,5,6,7,8,9,10,11,12,13,14,15,16] (de ?_)
  have hF:=Za4 (n:=n) (num:=num) Vx Vn Z2 (by assumption)
  exact Za (r2 [] [.i ((Ve n.decls x1).to_),.b false] ⟨(Ve n.decls x1).to_,rfl,rfl,(DD hF)⟩ (Zc.tup (.cons (lr _) (.cons (lb (DC hF)) .nil))))
 refine ar (Z0 2 (ie (ac (op==6) Zt (fun VI=>?_) (fun VI=>?_))))
 ·refine ar (Z4 3 [0] (Zx [] (MS n.decls num) (Z0 3 (iA [nl] fun b4=>Z0 1 (Zy 0 b4 [Z6 (ZP n.decls num)] (ie (ar (Xx 9 [] [(79,.i (XP n.decls num)),(87,.b ((decide ((XP n.decls num)>=0))&&(decide (ts=(ZP n.decls num)))))] (fun gz=>gz) ?_ (fun hj5=>?_)))))))))
  ·refine Z0 2 (ie ?_)
   have hF:=sf6 (n:=n) (num:=num) (ts:=ts) VI
   exact Za (r2 [] [.i (XP n.decls num),.b ((decide ((XP n.decls num)>=0))&&(decide (ts=(ZP n.decls num))))] ⟨XP n.decls num,rfl,rfl,(AI hF)⟩ (Zc.tup (.cons (lr _) (.cons (lb (AH hF (by simp [*];try omega))) .nil))))
  refine Z0 4 (ib (b:=(decide ((XP n.decls num)>=0))) 82 (fun WY=>?_) (fun WY=>?_))
  ·have TS:(XP n.decls num)>=0:=(dq).1 WY
   exact Z4 3 [0] (Zx [] (DE ts (ZP n.decls num)) (Z0 1 (Yp (wk [0,0] (fr (Zr (decide (ts=(ZP n.decls num))) WY fl))) hj5)))
  have TF:¬((XP n.decls num)>=0):=Yi dq WY
  exact Z0 5 (Yp (wk [0,0] (fr (Zr false WY fl))) hj5)
 refine aq (ar (Z0 2 (ie (XC (fun fz gz F h=>F=sF [1,2,3,4] fz [(88,.b ((op==9)||(op==10)))]/\h=gz) ?_ ?_))))
 ·refine ac (op==9) Zt (fun US=>?_) (fun US=>?_)
  ·exact ak (ZO ⟨rfl,rfl⟩ (wk [0] (fc (x:=.b (op==9)) (lb (by first|rfl|(rw [Zk US])|(rw [Z9 US])|(simp [US];done)|(rw [Xf];simp [US];done)|omega)) fl)))
  exact az (Z0 2 (ie (ZO ⟨rfl,rfl⟩ (wk [0] (fc (x:=.b (op==10)) (lb (by first|rfl|(rw [Zk US])|(rw [Z9 US])|(simp [US];done)|(rw [Xf];simp [US];done)|omega)) fl)))))
 rintro F h ⟨rfl,rfl⟩
 refine ac ((op==9)||(op==10)) (p:=(op=9)∨(op=10)) (Yn Zt Zt) (fun Ks=>?_) (fun Ks=>?_)
 ·refine aq (ar (X8 [1,2,3,4] [(99,.b ((decide (num<0))||(decide (num>=(((n.routines.map XG).length:Nat):Int)))))] (fun gz=>gz) ?_ ?_))
  ·refine Z0 3 (ib (b:=(decide (num<0))) 93 (fun WJ=>?_) (fun WJ=>?_))
   ·have K0:num<0:=(dq).1 WJ
    exact Z0 6 (ie (wk [0] (Zr true WJ fl)))
   have K1:¬(num<0):=Yi dq WJ
   exact Z4 3 [0] (io (.i (((n.routines.map XG).length:Nat):Int)) (.i (((UP (n.routines.map XG)).length:Nat):Int)) (li (by rw [CM])) (Z0 2 (ie (wk [0] (Zr (decide (num>=(((n.routines.map XG).length:Nat):Int))) WJ fl)))))
  refine ac ((decide (num<0))||(decide (num>=(((n.routines.map XG).length:Nat):Int)))) (p:=(num<0)∨(num>=(((n.routines.map XG).length:Nat):Int))) (Yn dq dq) (fun Ti=>?_) (fun Ti=>?_)
  ·refine ar (Z0 2 (ie ?_))
   have hF:=Za6 (n:=n) (ts:=ts) Ks Ti
   exact Za (r2 [] [.i (-1),.b false] ⟨(-1),rfl,rfl,(DD hF)⟩ (Zc.tup (.cons (lr _) (.cons (lb (DC hF)) .nil))))
  refine ak (aD 14 (ZL 11 14 [0,1,2] [0] ?_))
  obtain ⟨x3,YJ⟩:=Zs (n.routines.map XG) num.toNat om
  obtain ⟨r,hr,hrx⟩:=FB YJ
  have hrp:=hn.params_at hr
  have hpx:x3.pms=r.params:=by rw [hrx];rfl
  have hpl:x3.pms.length<=3:=by rw [hpx];exact hrp
  refine dx 3 (Zi none num 3 (BS YJ)) (ZL 5 10 [4,5,6,7,8] [0] (dx 9 (Zi none num 3 (BS YJ)) (Zj 0 4 [10,11,12,13] (de (aq (ar (Z0 2 (ie (ac (op==9) Zt (fun QZ=>?_) (fun QZ=>?_))))))))))
  ·refine ar (Z0 3 (Zx [] (DE ts x3.pms) (Z0 2 (ie ?_))))
   have hF:=sf9 (ts:=ts) QZ Ti YJ
   exact Za (r2 [] [.i x3.res,.b (decide (ts=x3.pms))] ⟨x3.res,rfl,rfl,(AI hF)⟩ (Zc.tup (.cons (lr _) (.cons (lb (AH hF (by simp [*];try omega))) .nil))))
  refine ak (ar (Z0 1 (iw (Y9 x3.pms) (ia (((x3.pms.length:Int)-1)) (((x3.pms.length:Int))-(1)) (Z0 1 (ie (aq (ar (Z0 2 (ie (ZF (((x3.pms.length:Int)-1)<0) (fun Bl=>?_) (fun Bl=>?_))))))))))))
  ·refine ar (Z0 2 (ie ?_))
   have hF:=Za3 (ts:=ts) (Ks.resolve_left QZ) Ti YJ Bl
   exact Za (r2 [] [.i (-1),.b false] ⟨(-1),rfl,rfl,(DD hF)⟩ (Zc.tup (.cons (lr _) (.cons (lb (DC hF)) .nil))))
  refine ak (aD 9 (ZL 5 9 [0,1,2,3] [0] ?_))
  obtain ⟨x4,Vy⟩:=Zs x3.pms (((x3.pms.length:Int)-1).toNat) om
  refine dx 4 (Zi none ((x3.pms.length:Int)-1) 1 (ZY Vy)) (Zj 2 4 [5,6] (Z8 7 (Ye 7 [] [] [] (Z4v n.decls x4 x3.res) (Zj 0 1 [8] (de (ar (Xx 10 [] [(131,.i (VO n.decls x4 x3.res)),(140,.b ((decide ((VO n.decls x4 x3.res)>=0))&&(decide (ts=(x3.pms.take (((x3.pms.length:Int)-1).toNat))))))] (fun gz=>gz) ?_ (fun hj6=>?_))))))))
  ·refine Z0 2 (ie ?_)
   have hF:=Za2 (ts:=ts) (Ks.resolve_left QZ) Ti YJ Bl Vy
   exact Za (r2 [] [.i (VO n.decls x4 x3.res),.b ((decide ((VO n.decls x4 x3.res)>=0))&&(decide (ts=(x3.pms.take (((x3.pms.length:Int)-1).toNat)))))] ⟨VO n.decls x4 x3.res,rfl,rfl,(AI hF)⟩ (Zc.tup (.cons (lr _) (.cons (lb (AH hF (by rw [Xf];simp))) .nil))))
  refine Z0 4 (ib (b:=(decide ((VO n.decls x4 x3.res)>=0))) 134 (fun WK=>?_) (fun WK=>?_))
  ·have Av:(VO n.decls x4 x3.res)>=0:=(dq).1 WK
   exact Z0 3 (Zp (KD (es:=Z7 x3.pms) (hv:=none) (l:=0) (m:=((x3.pms.length:Int)-1)) (sz:=1) (es':=Z7 (x3.pms.take (((x3.pms.length:Int)-1).toNat))) kr om (by simp<;>omega) (by simp<;>omega) (Yu _) (by first|(simp only [VW,Vl,J0,Jz];done)|(simp only [VW,Vl,J0,Jz];rfl)|(simp [J0,Jz];done))) (Zx [] (DE ts (x3.pms.take (((x3.pms.length:Int)-1).toNat))) (Z0 1 (Yp (wk [0] (fr (Zr (decide (ts=(x3.pms.take (((x3.pms.length:Int)-1).toNat)))) WK fl))) hj6))))
  have Ku:¬((VO n.decls x4 x3.res)>=0):=Yi dq WK
  exact Z0 6 (Yp (wk [0] (fr (Zr false WK fl))) hj6)
 refine ar (Z0 2 (ie ?_))
 have hF:=sfd (n:=n) (num:=num) (ts:=ts) Zb X3 Xe Vx VI Ks
 exact Za (r2 [] [.i (-1),.b false] ⟨(-1),rfl,rfl,(DD hF)⟩ (Zc.tup (.cons (lr _) (.cons (lb (DC hF)) .nil))))
theorem MT (n:Zq) (us:LI) (ks:List Z5) (ms:List LI) (hn:X2 n:=by exact ob) (hnn:∀t∈us,0<=t) (hk:0<ks.length:=by exact ob) (hl:ks.length=ms.length:=by exact ob) (hb:us.length+3+4*YG ks<=1000000000:=by exact ob) (hr:T5 ks:=by exact ob) (hm3:∀m∈ms,m.length<=3) (hmn:∀m∈ms,∀f∈m,0<=f) (ih:∀(b:Z5) (us:LI),(b.sz<=YG ks)->(us.length+4*b.sz<=1000000000)->(b.rng)->(∀t∈us,0<=t)->Zl 56 [.agg [Ya n.decls,Ts n],Z6 us,ZE b] [] (Y7 (.i (YT n us b)))):Zl 130 [.agg [Ya n.decls,Ts n],Z6 us,Xb ks,K7 ms] [] (Y7 (.tup [.i (XS n us ks ms true 0),.b (decide (0<=XS n us ks ms true 0))])):=by
 have hkl:=Lh ks
 refine ZC 45 Tryz.func130 (ar (iA [Ya n.decls,Ts n] fun b1=>?_))
 refine Z0 2 (ie (ar (Z0 1 (ie (aq (ar (Z0 1 (iw (Vh ks) (Z0 1 (ie (ab 0 (ZV (fun fz gz m F h=>∃(k:Nat) (t:Int),(k<=ks.length)/\(0<k->0<=t)/\(XS n us (ks.drop k) (ms.drop k) (decide (k=0)) t=XS n us ks ms true 0)/\F=sF [1,3,4,14,15] fz [(10,.i t),(16,.i k)]/\h=gz/\m=ks.length-k) _ _ _ ⟨0,(-1),ob,ob,(Z68 hk (-1)),rfl,rfl,rfl⟩ (wk [0] (fr (ZZ fl))) ?_))))))))))))
 rintro m F h ⟨k,t,Y4,Zm,Zu,rfl,rfl,rfl⟩
 refine ar (Z0 1 (ie (aq (ZF ((k:Int)<(ks.length:Int)) (fun Zb=>?_) (fun Zb=>?_)))))
 ·refine ak (aq (ab 1 (ar (Z0 1 ?_))))
  obtain ⟨x1,Z2⟩:=Zs ks k om
  have ZB:=Li Z2
  have hbr:=Le hr Z2
  refine Zp (Zi none (k:Int) 2 (VR Z2)) (Z0 1 (iA [nl,.i 0] fun b2=>Z0 1 (Zy 0 b2 (YU x1) (ie (aD 11 (ZL 7 11 [0,1,2,3] [1] ?_))))))
  obtain ⟨x2,Zo⟩:=Zs ms k om
  have hxl:=hm3 x2 (Y0 Zo)
  have hxn:=hmn x2 (Y0 Zo)
  refine dx 4 (Zi none (k:Int) 1 (Em Zo)) (ZL 4 6 [5,8] [0] (Z8 6 (dL 6 [0,1] [b2,b1] (W0 [us,x2]) 2 1 fun v1=>Yh 3 3 [] [(27,K7 [us,x2])] (Z8 7 (dc 7 [] [0,1] [b2,b1] (Zaa [us,x2] (hf:=(by simp only [DJ,Ym];omega))) ?_)))))
  rintro _ _ ⟨v2,rfl,rfl⟩
  refine Yh 2 2 [] [(28,Z6 ([us,x2].flatten))] (Z8 9 (Ye 9 [] [] [] (ih x1 ([us,x2].flatten) ob (by simp only [DJ,Ym];omega) ob (by rw [DJ];exact NI hnn hxn)) (Zj 0 1 [10] (de (aq (ar (X8 [1,3,4,13,14,15,16] [(41,.b ((decide ((YT n ([us,x2].flatten) x1)<0))||((decide ((k:Int)>0))&&((YT n ([us,x2].flatten) x1) != t))))] (fun gz=>gz) ?_ ?_)))))))
  ·refine Z0 3 (ib (b:=(decide ((YT n ([us,x2].flatten) x1)<0))) 33 (fun Zf=>?_) (fun Zf=>?_))
   ·exact Z0 8 (ie (ZI 4 (Zr true Zf fl)))
   refine Z0 3 (ib (b:=(decide ((k:Int)>0))) 36 (fun ZH=>?_) (fun ZH=>?_))
   ·exact Z0 5 (ie (ZI 4 (Zr ((YT n ([us,x2].flatten) x1) != t) (And.intro Zf ZH) fl)))
   exact Z0 5 (ie (ZI 4 (Zr false (And.intro Zf ZH) fl)))
  refine ac ((decide ((YT n ([us,x2].flatten) x1)<0))||((decide ((k:Int)>0))&&((YT n ([us,x2].flatten) x1) != t))) (p:=((YT n ([us,x2].flatten) x1)<0)∨(((k:Int)>0)/\((YT n ([us,x2].flatten) x1)≠t))) (Yn dq (YC dq Yg)) (fun Zg=>?_) (fun Zg=>?_)
  ·refine ar (Z0 2 (ie ?_))
   have hK:XS n us ks ms true 0=-1:=by rw [<-Zu];rw [DJ] at Zg;exact Nc Z2 Zo Zg
   exact Za (r2 [] [.i (-1),.b false] ⟨rfl,rfl⟩ (Zc.tup (.cons (li (by rw [hK])) (.cons (lb (by rw [hK];rfl)) .nil))))
  exact ak (az (Z0 2 (ie (az (ZD k (Z0 1 (ie (ZG ⟨k+1,YT n ([us,x2].flatten) x1,ob,(by intro _;omega),(by rw [DJ] at Zg ⊢;rw [<-Zu];exact (Ng Z2 Zo Zg).symm),rfl,rfl,rfl⟩ (wk [3] (fr (ZK k fl)))))))))))
 refine ax 0 (ar (Z0 3 (ie ?_)))
 have hK:XS n us ks ms true 0=t:=by rw [<-Zu];exact Nf om
 exact Za (r2 [] [.i t,.b true] ⟨rfl,rfl⟩ (Zc.tup (.cons (li (by rw [hK])) (.cons (lb (by rw [hK];exact (decide_eq_true (Zm om)).symm)) .nil))))
theorem Z5e (n:Zq) (us:LI) (s:Z3) (hn:X2 n) (hty:BE n) (hnn:∀t∈us,0<=t) (hb:us.length+4*s.sz<=1000000000) (hr:s.rng) (ih:∀(b:Z5) (us:LI),(b.sz<s.sz)->(us.length+4*b.sz<=1000000000)->(b.rng)->(∀t∈us,0<=t)->Zl 56 [.agg [Ya n.decls,Ts n],Z6 us,ZE b] [] (Y7 (.i (YT n us b)))):Zl 93 [.agg [Ya n.decls,Ts n],Z6 us,Ys s] [] (fun r h=>∃(t:Int),r=.tup [.i t,.b (decide (0<=Y5 n us s))]/\h=[]/\(¬Y8 s.op=true->0<=Y5 n us s->t=Y5 n us s)):=by
 have Xn:=hn.decls
 have hkz:=Ud s
 have haz:=Te s
 have hse:=s.sz_eq
 rw [s.rng_eq] at hr
 obtain ⟨hnum,hkr⟩:=hr
 refine ZC 233 Tryz.func93 (ar (iA [Ya n.decls,Ts n] fun b1=>iA (Xa s) fun b2=>Z0 2 (ie (ar (Z4 2 [0] (iw (Y9 s.args) (iM 0 s.args.length fun v1=>?_)))))))
 refine Z0 1 (ie (aq (ar (Z4 2 [1] (iw (Y9 s.args) (Z0 1 (ie (ab 0 (ZV (fun fz gz m F h=>∃(k:Nat) (ts:LI) (v:Value),(k<=s.args.length)/\(ts.length=k)/\(XV us (s.args.take k)=some ts)/\F=sF [1,3,5,20,21] fz [(8,ZT ts v),(22,.i k)]/\h=[Zh gz 1,Zh gz 2,.tail v 1]/\m=s.args.length-k) _ _ _ ⟨0,[],v1,ob,ob,ob,rfl,rfl,rfl⟩ (wk [1,1,0] (fr (ZZ fl))) ?_)))))))))
 rintro m F h ⟨k,ts,v,Y4,Zm,Zu,rfl,rfl,rfl⟩
 refine ar (Z0 1 (ie (aq (ZF ((k:Int)<(s.args.length:Int)) (fun Zb=>?_) (fun Zb=>?_)))))
 ·refine ak (aq (ab 1 (ar ?_)))
  obtain ⟨x1,Z2⟩:=Zs s.args k om
  refine Zp (Zi none (k:Int) 1 (ZY Z2)) (Z0 2 (ie (aq (ar (X8 [1,3,5,8,10,20,21,22] [(33,.b ((decide (x1<0))||(decide (x1>=(us.length:Int)))))] (fun gz=>gz) ?_ ?_)))))
  ·refine Z0 3 (ib (b:=(decide (x1<0))) 28 (fun Zf=>?_) (fun Zf=>?_))
   ·have Y2:x1<0:=(dq).1 Zf
    exact Z0 5 (ie (ZI 3 (Zr true Zf fl)))
   have Yl:¬(x1<0):=Yi dq Zf
   exact Z0 2 (iw (Y9 us) (Z0 2 (ie (ZI 3 (Zr (decide (x1>=(us.length:Int))) Zf fl)))))
  refine ac ((decide (x1<0))||(decide (x1>=(us.length:Int)))) (p:=(x1<0)∨(x1>=(us.length:Int))) (Yn dq dq) (fun Zg=>?_) (fun Zg=>?_)
  ·refine ar (Z0 2 (ie ?_))
   have hS:Y5 n us s=-1:=Zc9 (IX Z2 (Qy om))
   exact Za (r2 [] [.i (-1),.b false] ⟨(-1),rfl,rfl,(by intro _ h;rw [hS] at h;omega)⟩ (Zc.tup (.cons (lr _) (.cons (lb (by rw [hS];rfl)) .nil))))
  refine ak (az (Z0 3 ?_))
  obtain ⟨x2,Zo⟩:=Zs us x1.toNat om
  exact Zp (Zi none x1 1 (ZY Zo)) (Z0 1 (iL (Z7 [x2]) 1 1 fun v2=>ZM 0 [(39,Z6 [x2])] (ip 3 (Z7 (ts++[x2])) (Z7 ts) (Z7 [x2]) v none 1 (Yu _) (Yu _) (XR _) (by simp<;>omega) (by simp [XQ,Z7]) fun v3=>Z0 1 (ie (az (ZD k (Z0 1 (ie (ZG ⟨k+1,(ts++[x2]),v3,ob,ob,(RP Zu Z2 (by rw [TO om Zo])),rfl,rfl,rfl⟩ (wk [2,2,0] (fr (ZK k fl))))))))))))
 refine ax 0 (aq (ar (X8 [1,3,5,8] [(70,.b ((s.into != 0)&&((s.op != 6)||((decide (s.into<1))||((decide (s.into>(us.length:Int)))||((gI us (s.into-1))==0))))))] (fun gz=>gz) ?_ ?_)))
 ·refine Z4 4 [0] (ib (b:=(s.into != 0)) 45 (fun ZH=>?_) (fun ZH=>?_))
  ·have YO:s.into≠0:=(Yg).1 ZH
   refine Z4 4 [0] (ib (b:=(s.op != 6)) 49 (fun Yv=>?_) (fun Yv=>?_))
   ·have YV:s.op≠6:=(Yg).1 Yv
    exact Z0 21 (ie (ZI 3 (Zr true (And.intro ZH Yv) fl)))
   have X9:¬(s.op≠6):=Yi Yg Yv
   refine Z4 5 [0] (ib (b:=(decide (s.into<1))) 54 (fun YX=>?_) (fun YX=>?_))
   ·have XX:s.into<1:=(dq).1 YX
    exact Z0 16 (ie (ZI 3 (Zr true (And.intro ZH (And.intro Yv YX)) fl)))
   have Wx:¬(s.into<1):=Yi dq YX
   refine Z4 3 [0] (iw (Y9 us) (Z0 3 (ib (b:=(decide (s.into>(us.length:Int)))) 61 (fun Wc=>?_) (fun Wc=>?_))))
   ·have Vd:s.into>(us.length:Int):=(dq).1 Wc
    exact Z0 9 (ie (ZI 3 (Zr true (And.intro ZH (And.intro Yv (And.intro YX Wc))) fl)))
   have Vo:¬(s.into>(us.length:Int)):=Yi dq Wc
   exact Z4 3 [0] (ia ((s.into-1)) ((s.into)-(1)) (Zp (AN (es:=Z7 us) (hv:=none) (j:=(s.into-1)) (sz:=1) (y:=.i (gI us (s.into-1))) kr om (ZY (Mk om)) rfl) (Z0 4 (ie (ZI 3 (Zr ((gI us (s.into-1))==0) (And.intro ZH (And.intro Yv (And.intro YX Wc))) fl))))))
  have UT:¬(s.into≠0):=Yi Yg ZH
  exact Z0 25 (ie (ZI 3 (Zr false ZH fl)))
 refine ac ((s.into != 0)&&((s.op != 6)||((decide (s.into<1))||((decide (s.into>(us.length:Int)))||((gI us (s.into-1))==0))))) (p:=(s.into≠0)/\((s.op≠6)∨((s.into<1)∨((s.into>(us.length:Int))∨((gI us (s.into-1))=0))))) (YC Yg (Yn Yg (Yn dq (Yn dq Zt)))) (fun ZA=>?_) (fun ZA=>?_)
 ·refine ar (Z0 2 (ie ?_))
  have hS:Y5 n us s=-1:=Zca (JO.1 ZA)
  exact Za (r2 [] [.i (-1),.b false] ⟨(-1),rfl,rfl,(by intro _ h;rw [hS] at h;omega)⟩ (Zc.tup (.cons (lr _) (.cons (lb (by rw [hS];rfl)) .nil))))
 refine ak (aq (ab 2 (ar (Z4 2 [0] (Zx [] (ES s.op) (Z0 1 (ie (ac (Y8 s.op) Iff.rfl (fun Yf=>?_) (fun Yf=>?_)))))))))
 ·refine ar (Z0 1 (iw (Y9 ts) (Xx 9 [3,5,8] [(83,.b (((ts.length:Int)==1)&&((gI ts 0) != 0)))] (fun gz=>gz) ?_ (fun hj1=>?_))))
  ·refine Xx 14 [3,5,8] [(88,.b ((((ts.length:Int)==1)&&((gI ts 0) != 0))&&(s.num==0)))] (fun gz=>gz) ?_ (fun hj2=>?_)
   ·refine Xx 20 [3,5,8] [(94,.b (((((ts.length:Int)==1)&&((gI ts 0) != 0))&&(s.num==0))&&((s.kids.length:Int)==0)))] (fun gz=>gz) ?_ (fun hj3=>?_)
    ·refine Z0 1 (ie (aq (ar (X8 [3,8,11] [(105,.b ((((((ts.length:Int)==1)&&((gI ts 0) != 0))&&(s.num==0))&&((s.kids.length:Int)==0))&&((s.op==16)||(s.op==17))))] (fun gz=>gz) ?_ ?_))))
     ·refine Z0 2 (ib (b:=(((((ts.length:Int)==1)&&((gI ts 0) != 0))&&(s.num==0))&&((s.kids.length:Int)==0))) 96 (fun WD=>?_) (fun WD=>?_))
      ·have T8:((((ts.length:Int)=1)/\((gI ts 0)≠0))/\(s.num=0))/\((s.kids.length:Int)=0):=((YC (YC (YC Zt Yg) Zt) Zt)).1 WD
       refine Z4 4 [0] (ib (b:=(s.op==16)) 100 (fun WY=>?_) (fun WY=>?_))
       ·have UD:s.op=16:=(Zt).1 WY
        exact Z0 5 (ie (ZI 3 (Zr true (And.intro WD WY) fl)))
       have TS:¬(s.op=16):=Yi Zt WY
       exact Z4 5 [0] (ie (ZI 3 (Zr (s.op==17) (And.intro WD WY) fl)))
      have TF:¬(((((ts.length:Int)=1)/\((gI ts 0)≠0))/\(s.num=0))/\((s.kids.length:Int)=0)):=Yi (YC (YC (YC Zt Yg) Zt) Zt) WD
      exact Z0 9 (ie (ZI 3 (Zr false WD fl)))
     refine ac ((((((ts.length:Int)==1)&&((gI ts 0) != 0))&&(s.num==0))&&((s.kids.length:Int)==0))&&((s.op==16)||(s.op==17))) (p:=(((((ts.length:Int)=1)/\((gI ts 0)≠0))/\(s.num=0))/\((s.kids.length:Int)=0))/\((s.op=16)∨(s.op=17))) (YC (YC (YC (YC Zt Yg) Zt) Zt) (Yn Zt Zt)) (fun X3=>?_) (fun X3=>?_)
     ·refine aD 12 (ZL 9 12 [0,1,2] [1] (dx 3 (AN (es:=Z7 ts) (hv:=some v) (j:=0) (sz:=1) (y:=.i (gI ts 0)) kr om (ZY (EA om)) rfl) (Zj 7 8 [4] (Kn (fun fz gz F h=>F=sF [] fz [(13,.b (XE n.decls (gI ts 0)))]/\h=gz) ?_ ?_))))
      ·refine Vg 5 9 ?_ ?_
       ·exact Ye 5 [] [] [] (ER n.decls (gI ts 0)) (Zj 3 6 [6,7,8] (Z8 9 (dA 9 [] [] [.i 0,.i 0,nl] fun b3=>Z8 10 (YA 10 0 [] [] b3 (UW (Ve n.decls (gI ts 0))) (Zj 0 1 [11] (de (ZO ⟨rfl,rfl⟩ (wk [1,1,1] fl))))))))
       exact dA 9 [1] [b1] [.i 0,.i 0,nl] fun b4=>Z8 5 (Ye 5 [] [] [] (ER n.decls (gI ts 0)) (Zj 2 5 [6,7,8] (Z8 10 (YA 10 0 [] [] b4 (UW (Ve n.decls (gI ts 0))) (Zj 0 1 [11] (de (ZO ⟨rfl,rfl⟩ (wk [1,1,1] fl))))))))
      rintro F h ⟨rfl,rfl⟩
      refine az (Z0 3 (ie (ar (Z0 3 (ie ?_)))))
      have hS0:=AP (n:=n) hnn (Ag Zu om) (fun q=>ZA (JO.2 q))
      exact Za (r2 [] [.i (-1),.b (!XE n.decls (gI ts 0))] ⟨(-1),rfl,rfl,(fun q=>absurd Yf q)⟩ (Zc.tup (.cons (lr _) (.cons (lb (Zbr hS0 Yf X3)) .nil))))
     refine ak (ar (Z0 3 (ie ?_)))
     have hS0:=AP (n:=n) hnn (Ag Zu om) (fun q=>ZA (JO.2 q))
     exact Za (r2 [] [.i (-1),.b (((((ts.length:Int)==1)&&((gI ts 0) != 0))&&(s.num==0))&&((s.kids.length:Int)==0))] ⟨(-1),rfl,rfl,(fun q=>absurd Yf q)⟩ (Zc.tup (.cons (lr _) (.cons (lb (Zbs hS0 Yf X3)) .nil))))
    refine Z0 1 (ib (b:=((((ts.length:Int)==1)&&((gI ts 0) != 0))&&(s.num==0))) 89 (fun WJ=>?_) (fun WJ=>?_))
    ·have K0:(((ts.length:Int)=1)/\((gI ts 0)≠0))/\(s.num=0):=((YC (YC Zt Yg) Zt)).1 WJ
     exact Z4 2 [0] (iw (Vh s.kids) (Z0 2 (Yp (ZI 3 (Zr ((s.kids.length:Int)==0) WJ fl)) hj3)))
    have K1:¬((((ts.length:Int)=1)/\((gI ts 0)≠0))/\(s.num=0)):=Yi (YC (YC Zt Yg) Zt) WJ
    exact Z0 5 (Yp (ZI 3 (Zr false WJ fl)) hj3)
   refine Z0 1 (ib (b:=(((ts.length:Int)==1)&&((gI ts 0) != 0))) 84 (fun WK=>?_) (fun WK=>?_))
   ·have Av:((ts.length:Int)=1)/\((gI ts 0)≠0):=((YC Zt Yg)).1 WK
    exact Z4 4 [0] (Yp (ZI 3 (Zr (s.num==0) WK fl)) hj2)
   have Ku:¬(((ts.length:Int)=1)/\((gI ts 0)≠0)):=Yi (YC Zt Yg) WK
   exact Z0 4 (Yp (ZI 3 (Zr false WK fl)) hj2)
  refine Z0 2 (ib (b:=((ts.length:Int)==1)) 78 (fun TQ=>?_) (fun TQ=>?_))
  ·have MK:(ts.length:Int)=1:=(Zt).1 TQ
   exact Z0 1 (Zp (AN (es:=Z7 ts) (hv:=some v) (j:=0) (sz:=1) (y:=.i (gI ts 0)) kr om (ZY (EA om)) rfl) (Z0 3 (Yp (ZI 3 (Zr ((gI ts 0) != 0) TQ fl)) hj1)))
  have ML:¬((ts.length:Int)=1):=Yi Zt TQ
  exact Z0 5 (Yp (ZI 3 (Zr false TQ fl)) hj1)
 refine ar (Z4 4 [0] (ie (ac (s.op==7) Zt (fun Xe=>?_) (fun Xe=>?_))))
 ·refine aq (ar (Z0 1 (iw (Y9 ts) (Xx 9 [1,3,5] [(130,.b (((ts.length:Int) != 1)||((gI ts 0) != 0)))] (fun gz=>gz) ?_ (fun hj4=>?_)))))
  ·refine Xx 14 [1,3,5] [(135,.b ((((ts.length:Int) != 1)||((gI ts 0) != 0))||(s.num != 0)))] (fun gz=>gz) ?_ (fun hj5=>?_)
   ·refine X8 [1,3,5] [(141,.b (((((ts.length:Int) != 1)||((gI ts 0) != 0))||(s.num != 0))||((s.kids.length:Int) != 2)))] (fun gz=>gz) ?_ ?_
    ·refine Z0 1 (ib (b:=((((ts.length:Int) != 1)||((gI ts 0) != 0))||(s.num != 0))) 136 (fun JK=>?_) (fun JK=>?_))
     ·have Hp:(((ts.length:Int)≠1)∨((gI ts 0)≠0))∨(s.num≠0):=((Yn (Yn Yg Yg) Yg)).1 JK
      exact Z0 5 (ie (ZI 3 (Zr true JK fl)))
     have Z44:¬((((ts.length:Int)≠1)∨((gI ts 0)≠0))∨(s.num≠0)):=Yi (Yn (Yn Yg Yg) Yg) JK
     exact Z4 2 [0] (iw (Vh s.kids) (Z0 2 (ie (ZI 3 (Zr ((s.kids.length:Int) != 2) JK fl)))))
    refine ac (((((ts.length:Int) != 1)||((gI ts 0) != 0))||(s.num != 0))||((s.kids.length:Int) != 2)) (p:=((((ts.length:Int)≠1)∨((gI ts 0)≠0))∨(s.num≠0))∨((s.kids.length:Int)≠2)) (Yn (Yn (Yn Yg Yg) Yg) Yg) (fun Vx=>?_) (fun Vx=>?_)
    ·refine ar (Z0 2 (ie ?_))
     have hS0:=AP (n:=n) hnn (Ag Zu om) (fun q=>ZA (JO.2 q))
     have hS:=Zbn hS0 Yf Xe Vx
     exact Za (r2 [] [.i (-1),.b false] ⟨(-1),rfl,rfl,(by intro _ h;rw [hS] at h;omega)⟩ (Zc.tup (.cons (lr _) (.cons (lb (by rw [hS];rfl)) .nil))))
    refine ak (aD 10 (ZL 6 10 [0,1,2,3] [1,0] (Z8 4 (dMN 4 [0,1] [b2,b1] 2 2 fun v4=>Yh 5 5 [] [(146,K7 (List.replicate 2 []))] (Z8 5 (Ye 5 [] [] [] (MT n us s.kids (List.replicate 2 []) (hnn:=hnn) (hm3:=(by intro m hm;first|(rw [G4 hm];simp;done)|(obtain ⟨c,_,rfl⟩:=Xy.1 hm;exact VP Xn c))) (hmn:=(by intro m hm f hf;first|(rw [G4 hm] at hf;simp at hf;done)|(obtain ⟨c,_,rfl⟩:=Xy.1 hm;exact hty.fields c f hf))) (ih:=(fun b us2 h1 h2 h3 h4=>ih b us2 om h2 h3 h4))) (Zj 0 4 [6,7,8,9] (de ?_))))))))
    have hS0:=AP (n:=n) hnn (Ag Zu om) (fun q=>ZA (JO.2 q))
    have hS:=Zbo hS0 Yf Xe Vx
    exact Za (r2 [] [.i (XS n us s.kids (List.replicate 2 []) true 0),.b (decide (0<=XS n us s.kids (List.replicate 2 []) true 0))] ⟨XS n us s.kids (List.replicate 2 []) true 0,rfl,rfl,(fun _ _=>hS.symm)⟩ (Zc.tup (.cons (lr _) (.cons (lb (by rw [hS])) .nil))))
   refine Z0 1 (ib (b:=(((ts.length:Int) != 1)||((gI ts 0) != 0))) 131 (fun JL=>?_) (fun JL=>?_))
   ·have Z45:((ts.length:Int)≠1)∨((gI ts 0)≠0):=((Yn Yg Yg)).1 JL
    exact Z0 4 (Yp (ZI 3 (Zr true JL fl)) hj5)
   have Z46:¬(((ts.length:Int)≠1)∨((gI ts 0)≠0)):=Yi (Yn Yg Yg) JL
   exact Z4 4 [0] (Yp (ZI 3 (Zr (s.num != 0) JL fl)) hj5)
  refine Z0 2 (ib (b:=((ts.length:Int) != 1)) 125 (fun CZ=>?_) (fun CZ=>?_))
  ·have Z47:(ts.length:Int)≠1:=(Yg).1 CZ
   exact Z0 5 (Yp (ZI 3 (Zr true CZ fl)) hj4)
  have Z48:¬((ts.length:Int)≠1):=Yi Yg CZ
  exact Z0 1 (Zp (AN (es:=Z7 ts) (hv:=some v) (j:=0) (sz:=1) (y:=.i (gI ts 0)) kr om (ZY (EA om)) rfl) (Z0 3 (Yp (ZI 3 (Zr ((gI ts 0) != 0) CZ fl)) hj4)))
 refine ar (Z4 4 [0] (ie (ac (s.op==8) Zt (fun Vn=>?_) (fun Vn=>?_))))
 ·refine ar (Z4 3 [1,0] (Zx [] (Z5c _ s.num) (Z0 1 (ie (aq (aD 24 (Zj 23 24 [0] (dw 1 (Y9 ts) (KV [1,3,5,14] [(181,.b (((ts.length:Int) != 1)||(((gI ts 0) != s.num)||((((((ZQ n.decls s.num).map (ZP n.decls)).length:Nat):Int)==0)||((s.kids.length:Int) != ((((ZQ n.decls s.num).map (ZP n.decls)).length:Nat):Int))))))] (fun gz=>gz) ?_ ?_)))))))))
  ·refine Zj 20 22 [2,3] (db (b:=((ts.length:Int) != 1)) 161 (fun Bj=>?_) (fun Bj=>?_))
   ·have Z49:(ts.length:Int)≠1:=(Yg).1 Bj
    exact Zj 0 20 [4,5,6,7,8,9,10,11,12,13,14,15,16,17,18,19,20,21,22,23] (de (ZI 3 (Zr true Bj fl)))
   have Z4a:¬((ts.length:Int)≠1):=Yi Yg Bj
   refine Zj 19 20 [4] (dx 5 (AN (es:=Z7 ts) (hv:=some v) (j:=0) (sz:=1) (y:=.i (gI ts 0)) kr om (ZY (EA om)) rfl) (ZL 12 18 [6,7,8,9,10,11] [0] (db (b:=((gI ts 0) != s.num)) 169 (fun C0=>?_) (fun C0=>?_))))
   ·have Z4b:(gI ts 0)≠s.num:=(Yg).1 C0
    exact Zj 0 12 [12,13,14,15,16,17,18,19,20,21,22,23] (de (ZI 3 (Zr true (And.intro Bj C0) fl)))
   have Hq:¬((gI ts 0)≠s.num):=Yi Yg C0
   refine Zj 11 12 [12] (dn 13 (.i ((((ZQ n.decls s.num).map (ZP n.decls)).length:Nat):Int)) (.i (((W0 ((ZQ n.decls s.num).map (ZP n.decls))).length:Nat):Int)) (li (by rw [En])) (Zj 7 10 [14,15,16] (db (b:=(((((ZQ n.decls s.num).map (ZP n.decls)).length:Nat):Int)==0)) 174 (fun D0=>?_) (fun D0=>?_))))
   ·have Hr:((((ZQ n.decls s.num).map (ZP n.decls)).length:Nat):Int)=0:=(Zt).1 D0
    exact Zj 0 7 [17,18,19,20,21,22,23] (de (ZI 3 (Zr true (And.intro Bj (And.intro C0 D0)) fl)))
   have MM:¬(((((ZQ n.decls s.num).map (ZP n.decls)).length:Nat):Int)=0):=Yi Zt D0
   exact ZL 5 7 [17,18] [0] (dw 19 (Vh s.kids) (Zj 3 4 [20] (dn 21 (.i ((((ZQ n.decls s.num).map (ZP n.decls)).length:Nat):Int)) (.i (((W0 ((ZQ n.decls s.num).map (ZP n.decls))).length:Nat):Int)) (li (by rw [En])) (Zj 0 2 [22,23] (de (ZI 3 (Zr ((s.kids.length:Int) != ((((ZQ n.decls s.num).map (ZP n.decls)).length:Nat):Int)) (And.intro Bj (And.intro C0 D0)) fl)))))))
  refine ac (((ts.length:Int) != 1)||(((gI ts 0) != s.num)||((((((ZQ n.decls s.num).map (ZP n.decls)).length:Nat):Int)==0)||((s.kids.length:Int) != ((((ZQ n.decls s.num).map (ZP n.decls)).length:Nat):Int))))) (p:=((ts.length:Int)≠1)∨(((gI ts 0)≠s.num)∨((((((ZQ n.decls s.num).map (ZP n.decls)).length:Nat):Int)=0)∨((s.kids.length:Int)≠((((ZQ n.decls s.num).map (ZP n.decls)).length:Nat):Int))))) (Yn Yg (Yn Yg (Yn Zt Yg))) (fun VI=>?_) (fun VI=>?_)
  ·refine ar (Z0 2 (ie ?_))
   have hS0:=AP (n:=n) hnn (Ag Zu om) (fun q=>ZA (JO.2 q))
   have hS:=Zbp hS0 Yf Xe Vn VI
   exact Za (r2 [] [.i (-1),.b false] ⟨(-1),rfl,rfl,(by intro _ h;rw [hS] at h;omega)⟩ (Zc.tup (.cons (lr _) (.cons (lb (by rw [hS];rfl)) .nil))))
  refine ak (ar (Z4 5 [1,0] (Zx [] (MT n us s.kids ((ZQ n.decls s.num).map (ZP n.decls)) (hnn:=hnn) (hm3:=(by intro m hm;first|(rw [G4 hm];simp;done)|(obtain ⟨c,_,rfl⟩:=Xy.1 hm;exact VP Xn c))) (hmn:=(by intro m hm f hf;first|(rw [G4 hm] at hf;simp at hf;done)|(obtain ⟨c,_,rfl⟩:=Xy.1 hm;exact hty.fields c f hf))) (ih:=(fun b us2 h1 h2 h3 h4=>ih b us2 om h2 h3 h4))) (Z0 4 (ie ?_)))))
  have hS0:=AP (n:=n) hnn (Ag Zu om) (fun q=>ZA (JO.2 q))
  have hS:=Zbq hS0 Yf Xe Vn VI
  exact Za (r2 [] [.i (XS n us s.kids ((ZQ n.decls s.num).map (ZP n.decls)) true 0),.b (decide (0<=XS n us s.kids ((ZQ n.decls s.num).map (ZP n.decls)) true 0))] ⟨XS n us s.kids ((ZQ n.decls s.num).map (ZP n.decls)) true 0,rfl,rfl,(fun _ _=>hS.symm)⟩ (Zc.tup (.cons (lr _) (.cons (lb (by rw [hS])) .nil))))
 refine ar (Z4 2 [0] (iw (Vh s.kids) (Xx 33 [3,5,8] [(223,.b ((decide ((s.kids.length:Int)>0))||((s.op==10)&&((decide (s.num>=0))&&((decide (s.num<(((n.routines.map XG).length:Nat):Int)))&&(decide (((((Qn n s.num).lnt).length:Nat):Int)>0)))))))] (fun gz=>gz) ?_ (fun hj6=>?_))))
 ·refine Z0 1 (ie (ac ((decide ((s.kids.length:Int)>0))||((s.op==10)&&((decide (s.num>=0))&&((decide (s.num<(((n.routines.map XG).length:Nat):Int)))&&(decide (((((Qn n s.num).lnt).length:Nat):Int)>0)))))) (p:=((s.kids.length:Int)>0)∨((s.op=10)/\((s.num>=0)/\((s.num<(((n.routines.map XG).length:Nat):Int))/\(((((Qn n s.num).lnt).length:Nat):Int)>0))))) (Yn dq (YC Zt (YC dq (YC dq dq)))) (fun US=>?_) (fun US=>?_)))
  ·refine ar (Z0 2 (ie ?_))
   have hS0:=AP (n:=n) hnn (Ag Zu om) (fun q=>ZA (JO.2 q))
   have hS:=stB hS0 Yf Xe Vn US
   exact Za (r2 [] [.i (-1),.b false] ⟨(-1),rfl,rfl,(by intro _ h;rw [hS] at h;omega)⟩ (Zc.tup (.cons (lr _) (.cons (lb (by rw [hS];rfl)) .nil))))
  refine ak (ar (TI 6 [(229,Z6 ts)] [1,0,0] (ic [] (Z5d _ s.op s.num ts) ?_)))
  rintro _ _ ⟨t1,rfl,rfl,EN⟩
  refine Z0 4 (ie ?_)
  have hS0:=AP (n:=n) hnn (Ag Zu om) (fun q=>ZA (JO.2 q))
  have hS:=stS hS0 Yf Xe Vn US
  exact Za (r2 [] [.i t1,.b ((Xp n s.op s.num ts).isSome)] ⟨t1,rfl,rfl,(Zbu hS EN)⟩ (Zc.tup (.cons (lr _) (.cons (lb (Zbt hty hS)) .nil))))
 refine Z0 2 (ib (b:=(decide ((s.kids.length:Int)>0))) 195 (fun At=>?_) (fun At=>?_))
 ·have Zdj:(s.kids.length:Int)>0:=(dq).1 At
  exact Z0 28 (Yp (ZI 3 (Zr true At fl)) hj6)
 have Zdk:¬((s.kids.length:Int)>0):=Yi dq At
 refine Z4 4 [0] (ib (b:=(s.op==10)) 199 (fun Bk=>?_) (fun Bk=>?_))
 ·have Zdl:s.op=10:=(Zt).1 Bk
  refine Z4 5 [0] (ib (b:=(decide (s.num>=0))) 204 (fun C1=>?_) (fun C1=>?_))
  ·have Zdm:s.num>=0:=(dq).1 C1
   refine Z4 4 [0,1] (io (.i (((n.routines.map XG).length:Nat):Int)) (.i (((UP (n.routines.map XG)).length:Nat):Int)) (li (by rw [CM])) (Z0 3 (ib (b:=(decide (s.num<(((n.routines.map XG).length:Nat):Int)))) 212 (fun C2=>?_) (fun C2=>?_))))
   ·have Zdn:s.num<(((n.routines.map XG).length:Nat):Int):=(dq).1 C2
    exact Z4 4 [1,0] (Zp (AN (es:=UP (n.routines.map XG)) (hv:=none) (j:=s.num) (sz:=3) (y:=Ge (Qn n s.num)) kr om (BS (Za7 om)) rfl) (Z0 2 (io (.i ((((Qn n s.num).lnt).length:Nat):Int)) (.i (((Z7 ((Qn n s.num).lnt)).length:Nat):Int)) (li (by rw [Y9])) (Z0 3 (Yp (ZI 3 (Zr (decide (((((Qn n s.num).lnt).length:Nat):Int)>0)) (And.intro At (And.intro Bk (And.intro C1 C2))) fl)) hj6)))))
   have Zdo:¬(s.num<(((n.routines.map XG).length:Nat):Int)):=Yi dq C2
   exact Z0 11 (Yp (ZI 3 (Zr false (And.intro At (And.intro Bk (And.intro C1 C2))) fl)) hj6)
  have Zdp:¬(s.num>=0):=Yi dq C1
  exact Z0 19 (Yp (ZI 3 (Zr false (And.intro At (And.intro Bk C1)) fl)) hj6)
 have Zdq:¬(s.op=10):=Yi Zt Bk
 exact Z0 24 (Yp (ZI 3 (Zr false (And.intro At Bk) fl)) hj6)
theorem Z4y (n:Zq) (us:LI) (b:Z5) (hn:X2 n) (hnn:∀t∈us,0<=t) (hb:us.length+4*b.sz<=1000000000) (hr:b.rng) (ih:∀(s:Z3) (us:LI),(s.sz<b.sz)->(us.length+4*s.sz<=1000000000)->(s.rng)->(∀t∈us,0<=t)->Zl 93 [.agg [Ya n.decls,Ts n],Z6 us,Ys s] [] (fun r h=>∃(t:Int),r=.tup [.i t,.b (decide (0<=Y5 n us s))]/\h=[]/\(¬Y8 s.op=true->0<=Y5 n us s->t=Y5 n us s))):Zl 56 [.agg [Ya n.decls,Ts n],Z6 us,ZE b] [] (Y7 (.i (YT n us b))):=by
 have hbz:=V3 b
 have hbe:=E2 n us b
 rw [b.rng_eq] at hr
 refine ZC 54 Tryz.func56 (ar (iA [Ya n.decls,Ts n] fun b1=>iA (YU b) fun b2=>Z0 1 (ie (ar (Z0 1 (ic [] (CG us) ?_))))))
 rintro _ _ ⟨v1,rfl,rfl⟩
 refine Z0 1 (ie (aq (ar (Z4 2 [1] (iw (WW b.steps) (Z0 1 (ie (ab 0 (ZV (fun fz gz m F h=>∃(k:Nat) (vs:LI) (v:Value),(k<=b.steps.length)/\(vs.length<=us.length+k)/\(∀t∈vs,0<=t)/\(Wk n (b.steps.drop k) vs=Wk n b.steps us)/\F=sF [3,5,15,16] fz [(7,ZT vs v),(17,.i k)]/\h=[Zh gz 1,Zh gz 2,.tail v 1]/\m=b.steps.length-k) _ _ _ ⟨0,us,v1,ob,ob,ob,ob,rfl,rfl,rfl⟩ (wk [1,1,0] (fr (ZZ fl))) ?_)))))))))
 rintro m F h ⟨k,vs,v,Y4,Zm,Zu,YD,rfl,rfl,rfl⟩
 refine ar (Z0 1 (ie (aq (ZF ((k:Int)<(b.steps.length:Int)) (fun Zb=>?_) (fun Zb=>?_)))))
 ·refine ak (aq (ab 1 (ar ?_)))
  obtain ⟨x1,Z2⟩:=Zs b.steps k om
  have hss:=AQ Z2
  have hsr:=Py hr Z2
  refine Zp (Zi none (k:Int) 5 (W3 Z2)) (Z0 1 (iA [.i 0,.i 0,.i 0,nl,nl] fun b3=>Zy 0 b3 (Xa x1) (ie (ar (TI 3 [(23,Z6 vs)] [2,0] (ic [] (ih x1 vs ob ob ob ob) ?_))))))
  rintro _ _ ⟨t1,rfl,rfl,Y2⟩
  refine Z0 5 (ie (aq (ar (Z0 2 (ie (ac (!decide (0<=Y5 n vs x1)) (p:=¬(decide (0<=Y5 n vs x1)=true)) (Yx Iff.rfl) (fun Zg=>?_) (fun Zg=>?_)))))))
  ·exact ar (Z0 1 (ie (Za (ZU (.i (-1)) (li (by rw [hbe,<-YD,Zcd Z2 (fun q=>Zg (decide_eq_true q)) rfl]))))))
  refine ak (ar (Z4 2 [0] (Zx [] (ES x1.op) (Z0 1 (ie (Al (fun fz gz F h=>∃(w:Value),F=sF [3,5,15,16,17] fz [(7,ZT (if Y8 x1.op=true then vs else vs++[t1]) w)]/\h=[Zh gz 1,Zh gz 2,.tail w 1]) (fun _ _=>rfl) ?_ ?_))))))
  ·refine ac (!Y8 x1.op) (p:=¬(Y8 x1.op=true)) (Yx Iff.rfl) (fun ZA=>?_) (fun ZA=>?_)
   ·exact az (Z0 2 (iL (Z7 [t1]) 1 1 fun v2=>ZM 0 [(36,Z6 [t1])] (ip 4 (Z7 (vs++[t1])) (Z7 vs) (Z7 [t1]) v none 1 (Yu _) (Yu _) (XR _) (by simp<;>omega) (by simp [XQ,Z7]) fun v3=>Z0 1 (ie (ZO ⟨v3,rfl,rfl⟩ (wk [3,3,0] (fc (x:=ZT (vs++[t1]) v3) (Zc.slh _ (Yc Z7 (by first|rfl|(rw [Zk ZA])|(rw [Z9 ZA])|(simp [ZA];done)|(rw [Xf];simp [ZA];done)|omega))) fl)))))))
   exact ak (ZO ⟨v,rfl,rfl⟩ (wk [1,1,1] (fc (x:=ZT vs v) (Zc.slh _ (Yc Z7 (by first|rfl|(rw [Zk ZA])|(rw [Z9 ZA])|(simp [ZA];done)|(rw [Xf];simp [ZA];done)|omega))) fl)))
  rintro F h ⟨w,rfl,rfl⟩
  refine az (ZD k (Z0 1 (ie ?_)))
  have h0:0<=Y5 n vs x1:=of_decide_eq_true (W7.1 Zg)
  exact ZG ⟨k+1,(if Y8 x1.op=true then vs else vs++[t1]),w,ob,(by split<;>(try simp)<;>omega),(Z7b Zu (fun q=>by rw [Y2 q h0];exact h0)),(Zcb Z2 h0 Y2 YD),rfl,rfl,rfl⟩ (ZI 3 (fr (ZK k fl)))
 refine ax 0 (aq (ar (X8 [5,7] [(48,.b ((decide (b.result<0))||(decide (b.result>=(vs.length:Int)))))] (fun gz=>gz) ?_ ?_)))
 ·refine Z4 4 [0] (ib (b:=(decide (b.result<0))) 42 (fun Zf=>?_) (fun Zf=>?_))
  ·exact Z0 6 (ie (ZI 3 (Zr true Zf fl)))
  exact Z4 3 [0] (iw (Y9 vs) (Z0 2 (ie (ZI 3 (Zr (decide (b.result>=(vs.length:Int))) Zf fl)))))
 refine ac ((decide (b.result<0))||(decide (b.result>=(vs.length:Int)))) (p:=(b.result<0)∨(b.result>=(vs.length:Int))) (Yn dq dq) (fun Yf=>?_) (fun Yf=>?_)
 ·exact ar (Z0 1 (ie (Za (ZU (.i (-1)) (li (by rw [hbe,<-YD,X5 om];show _=(Xc vs b.result).getD (-1);rw [Qy om];rfl))))))
 refine ak (ar (Z4 3 [0] ?_))
 obtain ⟨x2,Zo⟩:=Zs vs b.result.toNat om
 exact Zp (Zi (some v) b.result 1 (ZY Zo)) (Z0 2 (ie (Za (ZU (.i x2) (li (by rw [hbe,<-YD,X5 om];show _=(Xc vs b.result).getD (-1);rw [TO om Zo];rfl))))))
theorem Z4w (n:Zq) (hn:X2 n) (hty:BE n) (m:Nat):∀(b:Z5) (us:LI),(b.sz<=m)->(us.length+4*b.sz<=1000000000)->(b.rng)->(∀t∈us,0<=t)->Zl 56 [.agg [Ya n.decls,Ts n],Z6 us,ZE b] [] (Y7 (.i (YT n us b))):=by
 induction m with
 | zero=>intro b us h;have:=b.sz_pos;omega
 | succ m ih=>intro b us h1 h2 h3 h4;exact Z4y n us b hn h4 h2 h3 fun s us2 k1 k2 k3 k4=>Z5e n us2 s hn hty k4 k2 k3 fun b2 us3 q1 q2 q3 q4=>ih b2 us3 om q2 q3 q4
theorem Z4x (n:Zq) (us:LI) (b:Z5) (hn:X2 n) (hty:BE n) (hnn:∀t∈us,0<=t) (hb:us.length+4*b.sz<=1000000000) (hr:b.rng):Zl 56 [.agg [Ya n.decls,Ts n],Z6 us,ZE b] [] (Y7 (.i (YT n us b))):=
 Z4w n hn hty b.sz b us (YR _) hb hr hnn
theorem MQ (n:Zq) (hz:VC n:=by exact ob) (hr:∀r∈n.routines,r.body.rng):Zl 19 [Yb n] [] (Y7 (.b (YW n))):=by
 have hzl:=hz.len
 refine ZC 37 Tryz.func19 (ar (iA (Yz n) fun b1=>Z0 1 (ie (ar (Z4 1 [0] (ic [] (Z58 n) ?_))))))
 rintro _ _ (⟨rfl,rfl,Y2⟩|⟨rfl,rfl,Yl⟩)
 ·refine Z0 3 (iA [nl,nl] fun b2=>Zy 0 b2 [Ya n.decls,Ts n] (Z0 1 (ie (aq (ar (Z0 2 (ie (ac (!VT n) (p:=¬(VT n=true)) (Yx Iff.rfl) (fun Zb=>?_) (fun Zb=>?_)))))))))
  ·exact ar (Z0 1 (ie (Za (ZU (.b false) (lb (by rw [YW,Qs.2 Zb];rfl))))))
  have hsg:VT n=true:=by simpa using Zb
  have hok:=HQ hz hsg
  have hty:=Z7c hsg
  refine ak (aq (ar (Z4 2 [1] (iw (Vm n.routines) (Z0 1 (ie (ab 0 (ZV (fun fz gz m F h=>∃(k:Nat),(k<=n.routines.length)/\(Tn n (n.routines.drop k)=Tn n n.routines)/\F=sF [3,15,16] fz [(17,.i k)]/\h=[Zh gz 0]/\m=n.routines.length-k) _ _ _ ⟨0,ob,ob,rfl,rfl,rfl⟩ (wk [0] (ZZ fl)) ?_))))))))
  rintro m F h ⟨k,Y4,Zm,rfl,rfl,rfl⟩
  refine ar (Z0 1 (ie (aq (ZF ((k:Int)<(n.routines.length:Int)) (fun Zg=>?_) (fun Zg=>?_)))))
  ·refine ak (aq (ab 1 (ar ?_)))
   obtain ⟨x1,Z2⟩:=Zs n.routines k om
   have hrm:=Y0 Z2
   have ZB:=hz.body _ hrm
   have hps:=hok.params_at Z2
   refine Zp (Zi none (k:Int) 5 (Wi Z2)) (Z0 1 (iA [nl,nl,.i 0,nl,.i 0] fun b3=>Zy 0 b3 (Tj x1) (ie (aD 15 (ZL 13 15 [0,1] [0] (Z8 2 (Ye 2 [] [] [] (MP x1.body) (KV [3,15,16,17] [(35,.b ((decide ((Wr x1.body)<0))||((YT n x1.params x1.body) != x1.result)))] (fun gz=>gz) ?_ ?_))))))))
   ·refine Zj 10 12 [3,4] (db (b:=(decide ((Wr x1.body)<0))) 25 (fun Zf=>?_) (fun Zf=>?_))
    ·have YO:(Wr x1.body)<0:=(dq).1 Zf
     exact Zj 0 10 [5,6,7,8,9,10,11,12,13,14] (de (wk [0,0] (Zr true Zf fl)))
    have YV:¬((Wr x1.body)<0):=Yi dq Zf
    exact ZL 3 10 [5,6,7,8,9,11,12] [1,0,0,0] (Z8 10 (Ye 10 [] [0] [b3] (Z4x n x1.params x1.body ob hty (hty.params _ hrm) ob (hr _ hrm)) (Zj 0 2 [13,14] (de (wk [0,0] (Zr ((YT n x1.params x1.body) != x1.result) Zf fl))))))
   refine ac ((decide ((Wr x1.body)<0))||((YT n x1.params x1.body) != x1.result)) (p:=((Wr x1.body)<0)∨((YT n x1.params x1.body)≠x1.result)) (Yn dq Yg) (fun ZA=>?_) (fun ZA=>?_)
   ·refine ar (Z0 1 (ie ?_))
    rw [Y3 Z2] at Zm
    exact Za (ZU (.b false) (lb (by clear Z2;first|rfl|omega|grind [Tn,YW])))
   refine ak (az (ZD k (Z0 1 (ie ?_))))
   have hdr:=Y3 Z2
   exact ZG ⟨k+1,ob,(by rw [hdr] at Zm;clear hdr Z2;grind [Tn]),rfl,rfl,rfl⟩ (wk [1] (ZK k fl))
  refine ax 0 (ar (Z0 1 (ie ?_)))
  try rw [X5 (xs:=n.routines) (k:=k) om] at Zm
  exact Za (ZU (.b true) (lb (by first|rfl|omega|grind [Tn,YW])))
 exact Z0 3 (iA [nl,nl] fun b4=>Zy 0 b4 [Ya [],Cd []] (Z0 1 (ie (aq (ar (Z0 2 (ie (WI (ar (Z0 1 (ie (Za (ZU (.b false) (lb (by rw [YW,‹VT n=false›];rfl)))))))))))))))
open Go.Proofs
theorem SZ (s:Z3) (cc:Nat) (g:Hd) (c0:LI) (q:Int) (hcb:CB c0 q:=by exact ob) (hq:0<=q/\q<=4000000000000:=by exact ob):Zl 65 [Ys s,.p cc 0] [.obj cc [.h g],rV g c0] (fun r h=>h=[.obj cc [.h g],rV g (U5 s.op c0)]):=by
 refine ZC 14 Tryz.func65 (ar (iA (Xa s) fun b1=>ie (ar (Z4 2 [0] (Zx [] (ES s.op) (ie (ac (Y8 s.op) Iff.rfl (fun Zb=>?_) (fun Zb=>?_))))))))
 ·have hr:=SY Zb
  have hgx:0<=gI c0 (s.op-14)/\gI c0 (s.op-14)<=q:=hcb.at om
  have hlc:=hcb.len
  refine az (Z4 3 [1,0] (ia ((s.op-14)) ((s.op)-(14)) (Zp (Vk 2 g c0 (s.op-14) ((s.op-14).toNat) (hq:=rfl)) ?_)))
  obtain ⟨x1,Z2⟩:=Zs c0 ((s.op-14).toNat) om
  have hgy:=UR Z2
  exact Vz (Tv 2 g c0 ((s.op-14).toNat) x1 Z2) (ia ((x1+1)) ((x1)+(1)) (Zp (Vk 2 g c0 (s.op-14) ((s.op-14).toNat) (hq:=rfl)) (Ht 2 g c0 ((s.op-14).toNat) (x1+1) (ie (r2 [2,0] [] rfl (lr _) (eq:=(rc (rv (xs:=(c0.set ((s.op-14).toNat) (x1+1))) (by rw [So Zb,hgy]) rz))))))))
 exact ak (r2 [1,1] [] rfl (lr _) (eq:=(rc (rv (xs:=c0) (Sm Zb).symm rz))))
theorem Z5i (b:Z5) (cc:Nat) (g:Hd) (c0:LI) (q:Int) (hcb:CB c0 q) (hq:0<=q/\q+b.sz<=4000000000000) (hz:b.sz<=1000000000) (ih:∀(b2:Z5) (cc:Nat) (g:Hd) (c2:LI) (q2:Int),(CB c2 q2)->(0<=q2/\q2+b2.sz<=4000000000000)->(b2.sz<=1000000000)->(b2.sz<b.sz)->Zl 64 [ZE b2,.val (.func (.func 65) #[] #[.pointer (some ⟨cc,0,none⟩)])] [.obj cc [.h g],rV g c2] (fun r h=>h=[.obj cc [.h g],rV g (Uw b2 c2)])):Zl 64 [ZE b,.val (.func (.func 65) #[] #[.pointer (some ⟨cc,0,none⟩)])] [.obj cc [.h g],rV g c0] (fun r h=>h=[.obj cc [.h g],rV g (Uw b c0)]):=by
 have hbz:=V3 b
 have hbe:=b.sz_eq
 refine ZC 30 Tryz.func64 (ar (iA (YU b) fun b1=>?_))
 refine ie (ar (Z4 2 [0] (iw (WW b.steps) (Z0 1 (ie (ab 0 (ZV (fun fz gz m F h=>∃(k:Nat) (c:LI),(k<=b.steps.length)/\(CB c (q+Yd (b.steps.take k)))/\(Uk (b.steps.drop k) c=Uk b.steps c0)/\F=sF [1,9,10] fz [(11,.i k)]/\h=[Zh gz 1,rV g c]/\m=b.steps.length-k) _ _ _ ⟨0,c0,ob,(hcb.le (by rw [List.take_zero,Yd];omega)),rfl,rfl,rfl,rfl⟩ (wk [1,1] (ZZ fl)) ?_)))))))
 rintro m F h ⟨k,c,Y4,Zm,Zu,rfl,rfl,rfl⟩
 refine ar (Z0 1 (ie (aq (ZF ((k:Int)<(b.steps.length:Int)) (fun Zb=>?_) (fun Zb=>?_)))))
 ·refine ak (aq (ab 1 (ar ?_)))
  obtain ⟨x1,Z2⟩:=Zs b.steps k om
  have Xk:=AQ Z2
  have hkz:=Ud x1
  have htk:=FM Z2
  have htl:=Qp b.steps (k+1)
  have hse:=x1.sz_eq
  refine Zp (Zi none (k:Int) 5 (W3 Z2)) (Z0 1 (iA [.i 0,.i 0,.i 0,nl,nl] fun b2=>Zy 0 b2 (Xa x1) (ie (ar (Z4 2 [0] (ic [1,1] (SZ x1 cc g c (q+Yd (b.steps.take k)) (hcb:=Zm)) ?_))))))
  rintro _ _ rfl
  refine ie (ar (Z4 2 [2] (iw (Vh x1.kids) (Z0 1 (ie (ab 2 (ZV (fun fz gz m F h=>∃(j:Nat) (c2:LI),(j<=x1.kids.length)/\(CB c2 (q+Yd (b.steps.take k)+1+YG (x1.kids.take j)))/\(VY (x1.kids.drop j) c2=VY x1.kids (U5 x1.op c))/\F=sF [1,9,10,11,19,20] fz [(21,.i j)]/\h=[Zh gz 0,rV g c2]/\m=x1.kids.length-j) _ _ _ ⟨0,(U5 x1.op c),ob,((Zm.one om x1.op).le (by rw [List.take_zero,YG];omega)),rfl,rfl,rfl,rfl⟩ (wk [0,0] (ZZ fl)) ?_)))))))
  rintro m F h ⟨j,c2,Vs,XB,Xd,rfl,rfl,rfl⟩
  refine ar (Z0 1 (ie (aq (ZF ((j:Int)<(x1.kids.length:Int)) (fun Zg=>?_) (fun Zg=>?_)))))
  ·refine ak (aq (ab 3 (ar ?_)))
   obtain ⟨x2,Zo⟩:=Zs x1.kids j om
   have hks:=Uc Zo
   have hbt:=CE Zo
   refine Zp (Zi none (j:Int) 2 (VR Zo)) (Z0 1 (iA [nl,.i 0] fun b3=>Zy 0 b3 (YU x2) (ie (az (Z4 2 [0] (ic [1,1] (ih x2 cc g c2 (q+Yd (b.steps.take k)+1+YG (x1.kids.take j)) XB ob ob ob) ?_))))))
   rintro _ _ rfl
   exact ie (az (ZD j (Z0 1 (ie (ZG ⟨j+1,(Uw x2 c2),ob,(by rw [We Zo,Lf];exact ((XB.b x2 om).le om)),(Sr Zo Xd),rfl,rfl,rfl⟩ (wk [0,0] (ZK j fl)))))))
  have hKe:=Sp om Xd
  have hbj:=E5 (xs:=x1.kids) (k:=j) om
  exact ax 2 (az (ZD k (Z0 1 (ie (ZG ⟨k+1,(VY x1.kids (U5 x1.op c)),ob,(by rw [<-hKe];exact XB.le om),(Sw Z2 Zu),rfl,rfl,rfl⟩ (wk [0,0] (ZK k fl) (e:=(rc (rv (xs:=c2) hKe rz)))))))))
 exact ax 0 (r2 [0,0] [] rfl (lr _) (eq:=(rc (rv (xs:=c) (by rw [Sq];exact Su om Zu) rz))))
theorem Z5g (k:Nat):∀(b2:Z5) (cc:Nat) (g:Hd) (c2:LI) (q2:Int),(CB c2 q2)->(0<=q2/\q2+b2.sz<=4000000000000)->(b2.sz<=1000000000)->(b2.sz<k)->Zl 64 [ZE b2,.val (.func (.func 65) #[] #[.pointer (some ⟨cc,0,none⟩)])] [.obj cc [.h g],rV g c2] (fun r h=>h=[.obj cc [.h g],rV g (Uw b2 c2)]):=by
 induction k with
 | zero=>intro b cc g c q _ _ _ h;omega
 | succ k ih=>intro b cc g c q h1 h2 h3 h4;exact Z5i b cc g c q h1 h2 h3 fun b2 cc2 g2 c2 q2 k1 k2 k3 k4=>ih b2 cc2 g2 c2 q2 k1 k2 k3 om
theorem Z5h (b:Z5) (cc:Nat) (g:Hd) (c0:LI) (q:Int) (hcb:CB c0 q:=by exact ob) (hq:0<=q/\q+b.sz<=4000000000000:=by exact ob) (hz:b.sz<=1000000000:=by exact ob):Zl 64 [ZE b,.val (.func (.func 65) #[] #[.pointer (some ⟨cc,0,none⟩)])] [.obj cc [.h g],rV g c0] (fun r h=>h=[.obj cc [.h g],rV g (Uw b c0)]):=Z5g (b.sz+1) b cc g c0 q hcb hq hz om
theorem Z4r (n:Zq) (hz:VC n:=by exact ob) (hr:∀r∈n.routines,r.body.rng):Zl 26 [Yb n] [] (fun r h=>∃(w:Hd),r=.h w/\h=[rV w (if YW n=true then Eb n else [])]):=by
 refine ZC 23 Tryz.func26 (ar (iA (Yz n) fun b1=>Z0 1 (ie (aq (ar (Z4 1 [0] (Zx [] (MQ n (hr:=hr)) (Z0 1 (ie (ac (!YW n) (p:=¬(YW n=true)) (Yx Iff.rfl) (fun Zb=>?_) (fun Zb=>?_)))))))))))
 ·exact ar (Z0 1 (ie (QS AR (Za (r2 [0] [nl] ⟨hN,rfl,rfl⟩ (Zc.hd (v:=hN)) (eq:=(rv (xs:=[]) (by rw [Z9 Zb]) rz)))))))
 have hV:YW n=true:=W7.1 Zb
 obtain ⟨hn,hvt⟩:=DN hz hV
 have hzl:=hn.len
 refine ak (ar (iVM 4 fun v1=>iA [nl] fun b2=>?_))
 refine Zy 0 b2 [.h v1] (ie (aq (ar (Z4 2 [2] (iw (Vm n.routines) (Z0 1 (ie (ab 0 (ZV (fun fz gz m F h=>∃(k:Nat) (c:LI),(k<=n.routines.length)/\(CB c (10000000*k))/\(UN (n.routines.drop k) c=Eb n)/\F=sF [3,11,12] fz [(13,.i k)]/\h=[Zh gz 0,rV v1 c]/\m=n.routines.length-k) _ _ _ ⟨0,(List.replicate 4 0),ob,⟨rfl,fun x hx=>by simp at hx;omega⟩,rfl,rfl,rfl,rfl⟩ (wk [0,0] (ZZ fl)) ?_)))))))))
 rintro m F h ⟨k,c,Y4,Zm,Zu,rfl,rfl,rfl⟩
 refine ar (Z0 1 (ie (aq (ZF ((k:Int)<(n.routines.length:Int)) (fun Zg=>?_) (fun Zg=>?_)))))
 ·refine ak (aq (ab 1 (ar ?_)))
  obtain ⟨x1,Z2⟩:=Zs n.routines k om
  have hrm:=Y0 Z2
  have hbz:=hz.body _ hrm
  refine Zp (Zi none (k:Int) 5 (Wi Z2)) (Z0 1 (iA [nl,nl,.i 0,nl,.i 0] fun b3=>Zy 0 b3 (Tj x1) (ie (az (Z4 3 [0] (ic [1,1] (Z5h x1.body b2 v1 c (10000000*(k:Int)) (hcb:=Zm)) ?_))))))
  rintro _ _ rfl
  exact ie (az (ZD k (Z0 1 (ie (ZG ⟨k+1,(Uw x1.body c),ob,((Zm.b x1.body om).le om),(St Z2 Zu),rfl,rfl,rfl⟩ (wk [0,0] (ZK k fl)))))))
 exact ax 0 (ar (Z4 2 [0] (ie (Za (r1 [1] ⟨v1,rfl,rfl⟩ (eq:=(rv (xs:=c) (by rw [Zk hV];exact Ss om Zu) rz)))))))
abbrev Mem:=Nat->Nat->Option Value
abbrev AY:=Nat × Nat
def upd (m:Mem) (a:AY) (z:Int):Mem:=fun g o=>if g=a.1/\o=a.2 then some (.int .i64 z) else m g o
def wr (m:Mem):List AY->Int->Mem
 | [],_=>m
 | a::r,k=>wr (upd m a k) r (k+1)
def EM (m:Mem):List AY->Int->Prop
 | [],_=>True
 | a::r,k=>m a.1 a.2=some (.int .i64 k)/\EM m r (k+1)
def MX (m:Mem) (a:AY):Prop:=∃z,m a.1 a.2=some (.int .i64 z)
structure Kp (m m':Mem):Prop where
 i:∀{a:AY},MX m a->MX m' a
 h:∀{g o:Nat} {v:Value},m g o=some v->(∀z,v≠.int .i64 z)->m' g o=some v
section
variable {P:Program} {n:Nat} {ops:Array Oper} {B:Fr->List Res->Prop} {k:Nat} {F:Fr} {h h2:List Res}
end
section
variable {m m':Mem} {B:List Nat}
end
section
variable {m:Mem} {B:List Nat} {g:Nat}
end
section
variable {m:Mem} {B:List Nat}
end
def Zn (g lo hi:Nat) (X:List Nat) (a:AY):Prop:=(a.1=g/\lo<=a.2/\a.2<hi)∨a.1∈X
structure Nd (g lo hi:Nat) (X:List Nat) (as1:List AY):Prop where
 nd:(X.Nodup/\g∉X)->as1.Nodup
 zn:∀a∈as1,Zn g lo hi X a
section
variable {m:Mem} {B:List Nat}
end
def GB (B:List Nat):Y6:=fun b _=>b∈B
section
variable {w:World} {G:Y6} {B:List Nat}
end
section
variable {w:World} {G:Y6} {B:List Nat}
def MJ:Value->Hd
 | .slice a l c=>⟨a,l,c⟩
 | _=>⟨none,0,0⟩
abbrev av (y:IM):AV:=.agg [.h (MJ y.dv),.h (MJ y.rv)]
end
def Rm (B:List Nat) (m:Mem) (x:AV) (u:Value):Prop:=
 ∀w:World,(∀b∈B,∃cs e,w.heap[b]? = some (.cells cs e (0,0))/\∀o,cs[o]? = m b o)->RV w (GB B) x u
inductive Cx (bs:List Res):List AV->List AV->Prop
 | nil:Cx bs [] []
 | same {x as1 xs} (t:Cx bs as1 xs):Cx bs (x::as1) (x::xs)
 | gen {B m x a u as1 xs} (h:Res.own B m∈bs) (hr:Rm B m x u) (ha:∀w G v,RV w G a v->v=u) (t:Cx bs as1 xs):Cx bs (a::as1) (x::xs)
section
variable {P:Program} {n:Nat} {ops:Array Oper} {B:Fr->List Res->Prop} {k:Nat} {F:Fr} {h:List Res}
def Lc (P:Program) (ops:Array Oper) (F:Fr) (k:Nat):Option (Bool × Bool):=
 match (Zz ops k).op with
 | .binOp .neq t x y _=>match P.underlying t with
  | some .bool=>match F.ev x,F.ev y with
   | .val (.bool a),.val (.bool b)=>some (a,b)
   | _,_=>none
  | _=>none
 | _=>none
theorem Z5z (a b:Bool) (hb:Lc P ops F k=some (a,b):=by kernel_rfl):Xr P (Zz ops k) F h [] (.b (a != b)):=by
 unfold Lc at hb
 generalize hoo:Zz ops k=o at hb
 obtain ⟨dst,op,type,pos,after,guard⟩:=o
 cases op<;>simp only at hb<;>try (cases hb)
 rename_i bop t x y yt
 cases bop<;>simp only at hb<;>try (cases hb)
 split at hb
 ·rename_i ht
  split at hb
  ·rename_i a' b' h1 h2
   cases hb
   intro n w G ac hF hh
   have v1:=hF.ev x
   have v2:=hF.ev y
   rw [h1] at v1
   rw [h2] at v2
   have v1:=v1.val_inv
   have v2:=v2.val_inv
   refine ⟨_,.val,fun w' _ _=>?_⟩
   simp only [execOp,v1,v2]
   have he:(Op.equalIn (9999+1) t (.bool a) (.bool b)).run P w'=.ok (a==b) w':=by
    rw [Op.equalIn]
    simp [Sem.run_bind,Vp ht]
   refine V1 ?_
   simp only [eqGuard,binOp,Op.equal,Op.maxDepth]
   have he2:(Op.equalIn 10000 t (.bool a) (.bool b)).run P w'=.ok (a==b) w':=he
   simp [Sem.run_bind,he2,bne]
  ·cases hb
 ·cases hb
end
end Go.Abs
section
namespace Go.Abs
section
variable {P:Program} {n:Nat} {ops:Array Oper} {B:Fr->List Res->Prop} {k:Nat} {F:Fr} {h:List Res}
def Ld (P:Program) (ops:Array Oper) (F:Fr) (k:Nat):Option (Bool × Bool):=
 match (Zz ops k).op with
 | .binOp .eql t x y _=>match P.underlying t with
  | some .bool=>match F.ev x,F.ev y with
   | .val (.bool a),.val (.bool b)=>some (a,b)
   | _,_=>none
  | _=>none
 | _=>none
theorem Z5y (a b:Bool) (hb:Ld P ops F k=some (a,b):=by kernel_rfl):Xr P (Zz ops k) F h [] (.b (a==b)):=by
 unfold Ld at hb
 generalize hoo:Zz ops k=o at hb
 obtain ⟨dst,op,type,pos,after,guard⟩:=o
 cases op<;>simp only at hb<;>try (cases hb)
 rename_i bop t x y yt
 cases bop<;>simp only at hb<;>try (cases hb)
 split at hb
 ·rename_i ht
  split at hb
  ·rename_i a' b' h1 h2
   cases hb
   intro n w G ac hF hh
   have v1:=hF.ev x
   have v2:=hF.ev y
   rw [h1] at v1
   rw [h2] at v2
   have v1:=v1.val_inv
   have v2:=v2.val_inv
   refine ⟨_,.val,fun w' _ _=>?_⟩
   simp only [execOp,v1,v2]
   have he:(Op.equalIn (9999+1) t (.bool a) (.bool b)).run P w'=.ok (a==b) w':=by
    rw [Op.equalIn]
    simp [Sem.run_bind,Vp ht]
   refine V1 ?_
   simp only [eqGuard,binOp,Op.equal,Op.maxDepth]
   have he2:(Op.equalIn 10000 t (.bool a) (.bool b)).run P w'=.ok (a==b) w':=he
   simp [Sem.run_bind,he2]
  ·cases hb
 ·cases hb
end
end Go.Abs
namespace Go.Abs
theorem W2.frzI {P:Program} {f:FuncId} {as1:List AV} {h0:List Res} {xs:LI} (H:W2 P f as1 h0 (fun r h=>∃v:Hd,r=.h v/\h=[rV v xs])) :
  W2 P f as1 h0 (fun r h=>r=Z6 xs/\h=[]):=by
 intro w G vs hv hh
 refine (H w G vs hv hh).mono ?_
 rintro e w' ⟨u,r,h',G',he,⟨v,rfl,rfl⟩,hr,hh',hx⟩
 obtain ⟨G2,h1,h2,h3⟩:=R8 hh' (fun y hy=>by simp only [Z7,Xy] at hy;obtain ⟨x,_,rfl⟩:=hy;rfl)
 have hrv:=hr.val_inv
 subst hrv
 have hw:Zc (.sl (Z7 xs) (some v.v)) (Z6 xs):=Zc.forget _ _
 exact ⟨_,_,[],G2,he,⟨rfl,rfl⟩,hw _ _ _ h3,h1.sub (Jm _ _),(hx.trans h2).sub' (Jm _ _)⟩
end Go.Abs
namespace Go.Abs
theorem W2.alone {P:Program} {f:FuncId} {as1:List AV} {h0:List Res} {R:AV->List Res->Prop} {r0:AV} (H:W2 P f as1 h0 R) (hR:∀r h,R r h->Zc r r0):W2 P f as1 h0 (fun r h=>r=r0/\h=[]):=by
 intro w G vs hv hh
 refine (H w G vs hv hh).mono ?_
 rintro e w' ⟨u,r,h',G',he,hq,hr,hh',hx⟩
 exact ⟨_,_,[],G',he,⟨rfl,rfl⟩,hR _ _ hq _ _ _ hr,hh'.sub (List.nil_sublist _),hx.sub' (List.nil_sublist _)⟩
end Go.Abs
end
namespace Go.Abs
open Go.Proofs
theorem F5 (xs:LI) (ys:LI) (hxl:xs.length<=1000000000:=by exact ob) (hyl:ys.length<=1000000000:=by exact ob):Zl 27 [Z6 xs,Z6 ys] [] (Y7 (.b (decide (xs=ys)))):=by
 refine ZC 26 Tryz.func27 (ar (Z0 1 (ie (aq (ar (Z0 1 (iw (Y9 xs) (Z0 1 (iw (Y9 ys) (Z0 1 (ie (ac ((xs.length:Int) != (ys.length:Int)) Yg (fun Zb=>?_) (fun Zb=>?_)))))))))))))
 ·exact ar (Z0 1 (ie (Za (ZU (.b false) (lb (decide_eq_false (fun z=>Zb (by rw [z]))).symm)))))
 refine ak (aq (ar (Z0 1 (ie (ab 0 (ZV (fun fz gz m F h=>∃(k:Nat),(k<=xs.length)/\(∀i,i<k->xs[i]? = ys[i]?)/\F=sF [0,1] fz [(5,.i k)]/\h=gz/\m=xs.length-k) _ _ _ ⟨0,ob,(fun i h=>absurd h om),rfl,rfl,rfl⟩ (wk [] (ZZ fl)) ?_))))))
 rintro m F h ⟨k,Y4,Zm,rfl,rfl,rfl⟩
 refine aq (ar (Z0 2 (iw (Y9 xs) (Z0 1 (ie (ZF ((k:Int)<(xs.length:Int)) (fun Zg=>?_) (fun Zg=>?_)))))))
 ·refine ak (aq (ab 1 (aD 9 (Zj 7 9 [0,1] ?_))))
  obtain ⟨x1,Z2⟩:=Zs xs k om
  refine dx 2 (Zi none (k:Int) 1 (ZY Z2)) (Zj 3 6 [3,4,5] ?_)
  obtain ⟨x2,Zo⟩:=Zs ys k om
  refine dx 6 (Zi none (k:Int) 1 (ZY Zo)) (Zj 0 2 [7,8] (de (ac (x1 != x2) Yg (fun ZA=>?_) (fun ZA=>?_))))
  ·exact ar (Z0 1 (ie (Za (ZU (.b false) (lb (decide_eq_false (fun z=>ZA (by rw [z,Zo] at Z2;cases Z2;rfl))).symm)))))
  exact ak (az (Z0 1 (ZD k (Z0 1 (ie (ZG ⟨k+1,ob,(fun i h=>(Nat.lt_succ_iff_lt_or_eq.1 h).elim (Zm i) (fun z=>by rw [z,Z2,Zo,W7.1 ZA])),rfl,rfl,rfl⟩ (wk [] (ZK k fl))))))))
 exact ax 0 (ar (Z0 1 (ie (Za (ZU (.b true) (lb (decide_eq_true (Z1c om (fun i hi=>Zm i om))).symm))))))
theorem Sh (ds:List Zd) (hl_ds:ds.length<=4294967296:=by exact ob):Zl 149 [Ya ds] [] (fun r h=>∃(v:Hd),r=.h v/\h=[rK v 3 (Ze (Yo ds))]):=by
 refine ZC 8 Tryz.func149 (ar (Z0 1 (ie (aq (ar (Z0 1 (iN (Yo ds) (fun hz1=>?_) ?_)))))))
 ·have hz1:=Z0u hz1
  refine ie (WI (ar (Z0 1 (ie (QS (Ix (k:=3)) ?_)))))
  subst hz1
  exact Za (r2 [0] [nl] ⟨hN,rfl,rfl⟩ (Zc.hd (v:=hN)) (eq:=(rr (ls:=[]) rfl rz)))
 exact ie (WH (ak (ar (C4 3 fun g1=>Z0 1 (Hs 0 g1 3 (Yo ds) none (QC _) (by simp<;>omega) fun v1=>Z0 1 (ie (Za (r1 [0] ⟨v1,rfl,rfl⟩))))))))
theorem Sf (cs:List Y1) (hl_cs:cs.length<=4294967296:=by exact ob):Zl 150 [QG cs] [] (fun r h=>∃(v:Hd),r=.h v/\h=[rK v 1 (Ze (Xs cs))]):=by
 refine ZC 8 Tryz.func150 (ar (Z0 1 (ie (aq (ar (Z0 1 (iN (Xs cs) (fun hz1=>?_) ?_)))))))
 ·have hz1:=Z0r hz1
  refine ie (WI (ar (Z0 1 (ie (QS (Ix (k:=1)) ?_)))))
  subst hz1
  exact Za (r2 [0] [nl] ⟨hN,rfl,rfl⟩ (Zc.hd (v:=hN)) (eq:=(rr (ls:=[]) rfl rz)))
 exact ie (WH (ak (ar (C4 1 fun g1=>Z0 1 (Hs 0 g1 1 (Xs cs) none (CK _) (by simp<;>omega) fun v1=>Z0 1 (ie (Za (r1 [0] ⟨v1,rfl,rfl⟩))))))))
theorem Z4z (ds:List Zd) (hd:XZ ds):Zl 111 [Ya ds] [] (fun r h=>∃(ys:List WU) (w:Value),r=Z7j ys w/\h=[.many (TR ys),.tail w 3]/\ys.map WU.er=ds):=by
 have hdl:=hd.len
 refine ZC 46 Tryz.func111 (ar (Z0 1 (ie (ar (Z0 1 (ic [] (Sh ds) ?_))))))
 rintro _ _ ⟨v1,rfl,rfl⟩
 refine Z0 1 (ie (aq (ar (Z0 1 (Zp (N2 0 ds.length v1 3 (Ze (Yo ds)) (by rw [M8])) (Z0 1 (ie (ab 0 (QS (tB [] [] [] (TR []) (by simp [D9,D4,EG,EH,EJ,EK,EF,Qc,Qb,D8,C3,TE,TR,JN,D5,D6,D7,EI])) (ZV (fun fz gz m F h=>∃(k:Nat) (v:Hd) (ys:List WU),(k<=ds.length)/\(ys.map WU.er=ds.take k)/\(ys.length=k)/\F=sF [11] fz [(3,.h v),(10,.h v),(12,.i k)]/\h=[rK v 3 (Ze (WM ys++Yo (ds.drop k))),.many (TR ys)]/\m=ds.length-k) _ _ _ ⟨0,v1,[],ob,rfl,rfl,rfl,rfl,rfl⟩ (wk [1,0] (fw (ZZ fl)) (e:=(rr (ls:=Ze (Yo ds)) (by rfl) (rc rz)))) ?_))))))))))
 rintro m F h ⟨k,v,ys,Y4,Zm,Zu,rfl,rfl,rfl⟩
 refine ar (Z0 1 (ie (aq (ZF ((k:Int)<(ds.length:Int)) (fun Zb=>?_) (fun Zb=>?_)))))
 ·obtain ⟨x1,Z2⟩:=Zs ds k om
  have hcl:=hd.cons_at Z2
  refine MZ 0 ds.length (v:=v) (ON Zu Y4) om (fun g1 c1 he1=>?_)
  subst he1
  refine ak (aq (ab 1 (ar (Z0 1 (Zp (XJ g1 ds.length c1 k 3 (k:Int)) (Vz (WL 0 g1 ds.length c1 3 (k*3) (Ze (WM ys++Yo (ds.drop k))) (UW x1) 122 (Js x1) (by rw [OO Z2];exact I4 (by rw [Bg,Zu]))) (iA [.i 0,.i 0,nl] fun b1=>Z0 1 (Zy 0 b1 (UW x1) (ie (ar (Z4 4 [0] (ic [] (Sf x1.cons) ?_))))))))))))
  rintro _ _ ⟨v2,rfl,rfl⟩
  refine Zp (XJ g1 ds.length c1 k 3 (k:Int)) (Z0 1 (C5 2 g1 ds.length c1 3 (k*3+2) [.h v2] (Ze (WM ys++Yo (ds.drop k))) (Ze (WM ys)++([.i x1.frm,.i x1.to_,.h v2]++Ze (Yo (ds.drop (k+1))))) (by rw [ON Zu Y4];simp;omega) (by rw [OO Z2];exact Z95 (by rw [Bg,Zu])) (ie (ar (Z4 2 [2] (iw (VF x1.cons) (Z0 1 (ie (ab 2 (QS (tB [] [] [] (TE []) (by simp [D9,D4,EG,EH,EJ,EK,EF,Qc,Qb,D8,C3,TE,TR,JN,D5,D6,D7,EI])) (ZV (fun fz gz m F h=>∃(j:Nat) (u:Hd) (zs:List WT),(j<=x1.cons.length)/\(zs.map WT.er=x1.cons.take j)/\(zs.length=j)/\F=sF [3,4,10,11,12,25,26] fz [(27,.i j)]/\h=[Zh gz 4,rK u 1 (Ze (VG zs++Xs (x1.cons.drop j))),.row (.slice (some ⟨g1,0,none⟩) ds.length c1) 3 (Ze (WM ys)++([.i x1.frm,.i x1.to_,.h u]++Ze (Yo (ds.drop (k+1))))),.many (TE zs)]/\m=x1.cons.length-j) _ _ _ ⟨0,v2,[],ob,rfl,rfl,rfl,rfl,rfl⟩ (wk [4,2,1,0] (ZZ fl) (e:=(rc (rr (ls:=Ze (Xs x1.cons)) (by rfl) (rc (rc rz)))))) ?_)))))))))))
  rintro m F h ⟨j,u,zs,Vs,XB,Xd,rfl,rfl,rfl⟩
  refine ar (Z0 1 (ie (aq (ZF ((j:Int)<(x1.cons.length:Int)) (fun Zg=>?_) (fun Zg=>?_)))))
  ·obtain ⟨x2,Zo⟩:=Zs x1.cons j om
   have hfl:=hd.fields_at Z2 Zo
   refine MZ 1 x1.cons.length (v:=u) (OM Xd Vs) om (fun g2 c2 he2=>?_)
   subst he2
   refine ak (aq (ab 3 (ar (Z0 1 (Zp (Zi none (j:Int) 1 (Jy Zo)) (Z0 1 (iA [nl] fun b2=>Z0 1 (Zy 0 b2 (C9 x2) (ie (aE 12 (Zj 10 12 [0,1] (dx 2 (XJ g1 ds.length c1 k 3 (k:Int)) (Zj 8 9 [3] (VQ 4 (WL 3 g1 ds.length c1 3 (k*3+2) (Ze (WM ys)++([.i x1.frm,.i x1.to_,.h ⟨some ⟨g2,0,none⟩,x1.cons.length,c2⟩]++Ze (Yo (ds.drop (k+1))))) [.h ⟨some ⟨g2,0,none⟩,x1.cons.length,c2⟩] 120 (.ms g2 0 x1.cons.length c2) (Z96 (by rw [Bg,Zu]))) (ZL 4 7 [5,6,7] [0] (Z8 8 (dc 8 [] [2] [g1] (CG x2.fields) ?_)))))))))))))))))
   rintro _ _ ⟨v3,rfl,rfl⟩
   exact dx 9 (XJ g2 x1.cons.length c2 j 1 (j:Int)) (Zj 1 2 [10] (Z8 11 (Am 11 3 [] [] g2 x1.cons.length c2 1 (j*1) [ZT x2.fields v3] (Ze (VG zs++Xs (x1.cons.drop j))) (Ze (VG zs)++([ZT x2.fields v3]++Ze (Xs (x1.cons.drop (j+1))))) (by rw [OM Xd Vs];simp;omega) (by rw [Z92 Zo];exact Dz (by rw [M9,Xd,Kj]) rfl) (Eg (tB [5,1] [.many (TE zs),.tail v3 1] (TE zs++((v3,1)::[])) (TE (zs++[WT.mk x2.fields v3])) (by simp [D9,D4,EG,EH,EJ,EK,EF,Qc,Qb,D8,C3,TE,TR,JN,D5,D6,D7,EI])) (de (az (ZD j (Z0 1 (ie (ZG ⟨j+1,⟨some ⟨g2,0,none⟩,x1.cons.length,c2⟩,(zs++[WT.mk x2.fields v3]),ob,(by rw [List.map_append,XB,We Zo];rfl),(by simp [Xd]),rfl,rfl,rfl⟩ (wk [3,1,2,0] (ZK j fl) (e:=(rc (rr (ls:=(Ze (VG zs)++([ZT x2.fields v3]++Ze (Xs (x1.cons.drop (j+1)))))) Z91 (rr (ls:=(Ze (WM ys)++([.i x1.frm,.i x1.to_,.h ⟨some ⟨g2,0,none⟩,x1.cons.length,c2⟩]++Ze (Yo (ds.drop (k+1)))))) ob (rc rz))))))))))))))))
  refine QS (Cq 1 u.v 1 (Ze (VG zs++Xs (x1.cons.drop j))) (Ze (VG zs)) (Z90 om)) (QS (Zcf 0 1 (k*3+2) u.v (.slice (some ⟨g1,0,none⟩) ds.length c1) 1 3 (VG zs) (Ze (WM ys)++([.i x1.frm,.i x1.to_,.h u]++Ze (Yo (ds.drop (k+1))))) (LN _) (by rw [DR (by rw [Bg];omega),Bg,Zu];simp)) ?_)
  exact QS (Cq 0 (.slice (some ⟨g1,0,none⟩) ds.length c1) 3 (List.set ((Ze (WM ys)++([.i x1.frm,.i x1.to_,.h u]++Ze (Yo (ds.drop (k+1))))):List AV) (k*3+2) (Dm zs u.v)) (Ze (WM ys)++([.i x1.frm,.i x1.to_,Dm zs u.v]++Ze (Yo (ds.drop (k+1))))) (Z97 (by rw [Bg,Zu]))) (QS (tB [2,2,1] [.many (TR ys),.many (TE zs),.tail u.v 1] (TR ys++(TE zs++((u.v,1)::[]))) (TR (ys++[WU.mk x1.frm x1.to_ zs u.v])) (by simp [D9,D4,EG,EH,EJ,EK,EF,Qc,Qb,D8,C3,TE,TR,JN,D5,D6,D7,EI])) (ax 2 (az (ZD k (Z0 1 (ie (ZG ⟨k+1,(⟨some ⟨g1,0,none⟩,ds.length,c1⟩:Hd),(ys++[WU.mk x1.frm x1.to_ zs u.v]),ob,(by rw [List.map_append,Zm,We Z2,Rk (XB.trans (WA om))]),(by simp [Zu]),rfl,rfl,rfl⟩ (wk [1,0] (fw (ZK k fl)) (e:=(rr (ls:=(Ze (WM ys)++([.i x1.frm,.i x1.to_,Dm zs u.v]++Ze (Yo (ds.drop (k+1)))))) Z94 (rc rz)))))))))))
 exact ax 0 (ar (Z0 2 (ie (QS (Cq 0 v.v 3 (Ze (WM ys++Yo (ds.drop k))) (Ze (WM ys)) (Z93 om)) (N1 2 0 (v:=v) (WM ys) (LO _) (Za (r1 [1,0] ⟨ys,v.v,rfl,rfl,(by rw [Zm,WA om])⟩)))))))
theorem Z50 (ds:List Zd) (hd:XZ ds:=by exact ob):Zl 111 [Ya ds] [] (Y7 (Ya ds)):=((Z4z ds hd).alone fun r h ⟨ys,w,e1,_,e3⟩=>by rw [e1,<-e3];exact Zc.els _ (Z1g ys))
theorem Z5j (s:Z3) (ks:List Z5) (hl:s.sz<=1000000000:=by exact ob):Zl 151 [Ys s,Xb ks] [] (Y7 (.agg [.i s.op,.i s.num,.i s.into,Z6 s.args,Xb ks])):=by
 have hal:=Te s
 refine ZC 12 Tryz.func151 (ar (iA (Xa s) fun b1=>iA [.i 0,.i 0,.i 0,nl,nl] fun b2=>ie (ar (Z4 2 [1] (ic [] (CG s.args) ?_)))))
 rintro _ _ ⟨v1,rfl,rfl⟩
 exact Z0 2 (Zy 2 b1 [.i s.op,.i s.num,.i s.into,ZT s.args v1,Xb s.kids] (Z0 1 (Zy 0 b1 [.i s.op,.i s.num,.i s.into,ZT s.args v1,Xb ks] (ie (ar (Z4 1 [0] (Zy 2 b2 [.i s.op,.i s.num,.i s.into,ZT s.args v1,Xb ks] (ie (Za (r3 [] [.agg [.i s.op,.i s.num,.i s.into,ZT s.args v1,Xb ks]] [0] [(b2,b2)] ⟨rfl,rfl⟩ (Zc.agg (.cons (lr _) (.cons (lr _) (.cons (lr _) (.cons (Zc.forget _ _) (.cons (lr _) .nil))))))))))))))))
theorem Z57 (z:Nat) (s:Z3) (hz:s.sz<=z+1:=by exact ob) (hl:s.sz<=1000000000:=by exact ob) (ih:∀(b2:Z5),(b2.sz<=z)->(b2.sz<=1000000000)->Zl 78 [ZE b2] [] (Y7 (ZE (X0 b2)))):Zl 112 [Ys s,.val (.func (.func 78) #[] #[])] [] (Y7 (.agg [.i s.op,.i s.num,.i s.into,Z6 s.args,Xb (W6 s.kids)])):=by
 have hkz:=Ud s
 refine ZC 25 Tryz.func112 (ar (iA (Xa s) fun b1=>iA [.i 0,.i 0,.i 0,nl,nl] fun b2=>?_))
 refine ie (ar (Z0 1 (ie (aq (ar (Z4 2 [1] (iw (Vh s.kids) (Z0 1 (ie (ab 0 (B3 2 (ZV (fun fz gz m F h=>∃(k:Nat) (ks:List Z5) (u:Value),(k<=s.kids.length)/\(ks.length=k)/\(ks++W6 (s.kids.drop k)=W6 s.kids)/\F=sF [1,2,4,9,10] fz [(5,Ue ks u),(11,.i k)]/\h=[Zh gz 1,Zh gz 2,.tail u 2]/\m=s.kids.length-k) _ _ _ ⟨0,[],(.slice none 0 0),ob,ob,ob,rfl,rfl,rfl⟩ (wk [1,1,0] (fc (x:=nl) (Zc.slh _ (by first|rfl|(subst_vars;rfl))) (ZZ fl))) ?_))))))))))))
 rintro m F h ⟨k,ks,u,Y4,Zm,Zu,rfl,rfl,rfl⟩
 refine ar (Z0 1 (ie (aq (ZF ((k:Int)<(s.kids.length:Int)) (fun Zb=>?_) (fun Zb=>?_)))))
 ·refine ak (aq (ab 1 (ar ?_)))
  obtain ⟨x1,Z2⟩:=Zs s.kids k om
  have hks:=Uc Z2
  exact Zp (Zi none (k:Int) 2 (VR Z2)) (Z0 1 (iA [nl,.i 0] fun b3=>Zy 0 b3 (YU x1) (ie (az (Z4 3 [0] (Zx [] (ih x1 ob ob) (iL [ZE (X0 x1)] 1 2 fun v1=>ZM 0 [(19,.sl [ZE (X0 x1)] none)] (ip 4 (Yt (ks++[X0 x1])) (Yt ks) [ZE (X0 x1)] u none 2 (UO _) (UX rfl) rfl (by simp<;>omega) (by simp [Kq,U8]) fun v2=>Z0 1 (ie (az (ZD k (Z0 1 (ie (ZG ⟨k+1,(ks++[X0 x1]),v2,ob,(by rw [Ym,Zm];rfl),(Oy Z2 Zu),rfl,rfl,rfl⟩ (wk [3,3,0] (fr (ZK k fl)))))))))))))))))
 exact ax 0 (ar (TI 2 [(23,Xb ks)] [1] (Zx [] (Z5j s ks) (Zy 0 b2 [.i s.op,.i s.num,.i s.into,Z6 s.args,Xb ks] (ie (Za (r3 [] [.agg [.i s.op,.i s.num,.i s.into,Z6 s.args,Xb ks]] [0] [(b2,b2)] ⟨rfl,rfl⟩ (Zc.agg (.cons (lr _) (.cons (lr _) (.cons (lr _) (.cons (lr _) (.cons (Zc.sl _ (Yc Yt (Ox om Zu))) .nil)))))))))))))
theorem Z59 (z:Nat) (b:Z5) (hz:b.sz<=z+1:=by exact ob) (hl:b.sz<=1000000000:=by exact ob) (ih:∀(b2:Z5),(b2.sz<=z)->(b2.sz<=1000000000)->Zl 78 [ZE b2] [] (Y7 (ZE (X0 b2)))):Zl 78 [ZE b] [] (Y7 (ZE (X0 b))):=by
 have hbz:=V3 b
 refine ZC 31 Tryz.func78 (ar (iA (YU b) fun b1=>iA [nl,.i 0] fun b2=>ie (ar (Z4 3 [1] (iA [nl,.i 0] fun b3=>?_)))))
 refine Zy 0 b3 [nl,.i b.result] (ie (aq (ar (Z4 2 [2] (iw (WW b.steps) (Z0 1 (ie (ab 0 (B3 5 (ZV (fun fz gz m F h=>∃(k:Nat) (xs:List Z3) (v:Value),(k<=b.steps.length)/\(xs.length<=k)/\(xs++WP (b.steps.drop k)=WP b.steps)/\F=sF [2,3,10,11] fz [(12,.i k)]/\h=[.obj b3 [YE xs v,.i b.result],Zh gz 2,.tail v 5]/\m=b.steps.length-k) _ _ _ ⟨0,[],(.slice none 0 0),ob,ob,ob,rfl,rfl,rfl⟩ (wk [1,1,0] (ZZ fl)) ?_))))))))))
 rintro m F h ⟨k,xs,v,Y4,Zm,Zu,rfl,rfl,rfl⟩
 refine ar (Z0 1 (ie (aq (ZF ((k:Int)<(b.steps.length:Int)) (fun Zb=>?_) (fun Zb=>?_)))))
 ·refine ak (aq (ab 1 (ar ?_)))
  obtain ⟨x1,Z2⟩:=Zs b.steps k om
  have Xk:=Qq Z2
  refine Zp (Zi none (k:Int) 5 (W3 Z2)) (Z0 1 (iA [.i 0,.i 0,.i 0,nl,nl] fun b4=>Zy 0 b4 (Xa x1) (ie (ar (Z4 2 [0] (Zx [] (ES x1.op) (Z0 1 (ie (ac (!Y8 x1.op) (p:=¬(Y8 x1.op=true)) (Yx Iff.rfl) (fun Zg=>?_) (fun Zg=>?_))))))))))
  ·exact ar (Z4 1 [0] (Zx [] (Z57 z x1 (ih:=ih)) (Zy 0 b4 [.i x1.op,.i x1.num,.i x1.into,Z6 x1.args,Xb (W6 x1.kids)] (ie (ar (Z0 1 (Zy 0 b4 [.i x1.op,.i x1.num,.i 0,Z6 x1.args,Xb (W6 x1.kids)] (ie (az (Z4 3 [1,0] (iL [Ys (Z3.mk x1.op x1.num 0 x1.args (W6 x1.kids))] 1 5 fun v1=>ZM 0 [(26,.sl [Ys (Z3.mk x1.op x1.num 0 x1.args (W6 x1.kids))] none)] (ip 4 (Zv (xs++[Z3.mk x1.op x1.num 0 x1.args (W6 x1.kids)])) (Zv xs) [Ys (Z3.mk x1.op x1.num 0 x1.args (W6 x1.kids))] v none 5 (YZ _) (UX rfl) rfl (by simp<;>omega) (by simp [Wp,WX]) fun v2=>Z0 1 (Zy 3 b3 [YE (xs++[Z3.mk x1.op x1.num 0 x1.args (W6 x1.kids)]) v2,.i b.result] (ie (az (ZD k (Z0 1 (ie (ZG ⟨k+1,(xs++[Z3.mk x1.op x1.num 0 x1.args (W6 x1.kids)]),v2,ob,(by simp;omega),(Ov Z2 Zg Zu),rfl,rfl,rfl⟩ (wk [0,3,0] (ZK k fl)))))))))))))))))))))
  exact ak (az (ZD k (Z0 1 (ie (ZG ⟨k+1,xs,v,ob,ob,(Ow Z2 (W7.1 Zg) Zu),rfl,rfl,rfl⟩ (wk [1,1,1] (ZK k fl)))))))
 exact ax 0 (ar (Z4 1 [0] (Zy 1 b2 [YE xs v,.i b.result] (ie (Za (r3 [] [.agg [YE xs v,.i b.result]] [0] [(b2,b2)] ⟨rfl,rfl⟩ (Zc.agg (.cons (Zc.sl _ (Yc Zv (by rw [Oi];exact Ou om Zu))) (.cons (li (by rw [Og])) .nil)))))))))
theorem Z5a (m:Nat):∀(b2:Z5),(b2.sz<=m)->(b2.sz<=1000000000)->Zl 78 [ZE b2] [] (Y7 (ZE (X0 b2))):=by
 induction m with
 | zero=>intro b h;have:=b.sz_pos;omega
 | succ m ih=>intro b h1 h2;exact Z59 m b h1 h2 ih
theorem Z5b (b:Z5) (hl:b.sz<=1000000000:=by exact ob):Zl 78 [ZE b] [] (Y7 (ZE (X0 b))):=Z5a b.sz b (YR _) hl
theorem Z4t (rt:ZX) (b:Z5) (hl:b.sz<=1000000000:=by exact ob):Zl 77 [Q3 rt,ZE b] [] (Y7 (ZE (X0 b))):=by
 exact ZC 7 Tryz.func77 (ar (iA (Tj rt) fun b1=>iA (YU b) fun b2=>iA [nl,.i 0] fun b3=>ie (ar (Z4 1 [1] (Zx [] (Z5b b) (Zy 0 b3 (YU (X0 b)) (ie (Za (r3 [] [ZE (X0 b)] [0] [(b3,b3)] ⟨rfl,rfl⟩ (lr _))))))))))
theorem Z56 (n:Zq) (hn:X2 n:=by exact ob) (hz:VC n:=by exact ob):Zl 76 [Yb n,.val (.func (.func 77) #[] #[])] [] (Y7 (Yb (UZ n))):=by
 have hzl:=hz.len
 refine ZC 40 Tryz.func76 (ar (iA (Yz n) fun b1=>iA [nl,nl] fun b2=>ie (ar (Z4 2 [1] (Zx [] (Z50 n.decls (hd:=hn.decls)) (Z0 1 (iA [nl,nl] fun b3=>?_)))))))
 refine Zy 0 b3 [Ya n.decls,nl] (ie (aq (ar (Z4 2 [2] (iw (Vm n.routines) (Z0 1 (ie (ab 0 (B3 5 (ZV (fun fz gz m F h=>∃(k:Nat) (xs:List ZX) (v:Value),(k<=n.routines.length)/\(xs=(n.routines.take k).map Tb)/\(xs.length=k)/\F=sF [1,4,5,13,14] fz [(15,.i k)]/\h=[.obj b3 [Ya n.decls,XK xs v],Zh gz 2,.tail v 5]/\m=n.routines.length-k) _ _ _ ⟨0,[],(.slice none 0 0),ob,rfl,ob,rfl,rfl,rfl⟩ (wk [1,1,0] (ZZ fl)) ?_))))))))))
 rintro m F h ⟨k,xs,v,Y4,Zm,Zu,rfl,rfl,rfl⟩
 refine ar (Z0 1 (ie (aq (ZF ((k:Int)<(n.routines.length:Int)) (fun Zb=>?_) (fun Zb=>?_)))))
 ·refine ak (aq (ab 1 (ar ?_)))
  obtain ⟨x1,Z2⟩:=Zs n.routines k om
  have hrm:=Y0 Z2
  have hbz:=hz.body _ hrm
  have hpl:=hz.params _ hrm
  have hll:=hz.lent _ hrm
  refine Zp (Zi none (k:Int) 5 (Wi Z2)) (Z0 1 (iA [nl,nl,.i 0,nl,.i 0] fun b4=>Zy 0 b4 (Tj x1) (ie (aE 20 (ZL 8 20 [0,1,2,3,5,6,8,9,10,11,12,13] [1,0,0,0,0,0] (Z8 4 (dc 4 [] [0,0,0,0,1] [b4,b4,b4,b4,b3] (CG x1.params) ?_)))))))
  rintro _ _ ⟨v1,rfl,rfl⟩
  refine Z8 7 (dc 7 [] [0,0,0,1] [b4,b4,b4,b3] (CG x1.lent) ?_)
  rintro _ _ ⟨v2,rfl,rfl⟩
  exact Z8 14 (Ye 14 [] [0,1] [b4,b3] (Z4t x1 x1.body) (Yh 4 5 [15] [(34,.agg [Z6 x1.params,Z6 x1.lent,.i x1.result,Wz ((X0 x1.body).steps),.i ((X0 x1.body).result)])] (Z8 16 (dL 16 [1] [b3] (Yr [ZX.mk x1.params x1.lent x1.result (Z5.mk ((X0 x1.body).steps) ((X0 x1.body).result))]) 1 5 fun v3=>Yh 3 3 [] [(35,TT [ZX.mk x1.params x1.lent x1.result (Z5.mk ((X0 x1.body).steps) ((X0 x1.body).result))])] (Z8 17 (dp 17 6 [] [] (Yr (xs++[ZX.mk x1.params x1.lent x1.result (Z5.mk ((X0 x1.body).steps) ((X0 x1.body).result))])) (Yr xs) (Yr [ZX.mk x1.params x1.lent x1.result (Z5.mk ((X0 x1.body).steps) ((X0 x1.body).result))]) v none 5 (VH _) (VH _) (J1 _) (by simp<;>omega) (by simp [JA,Yr]) fun v4=>Zj 1 2 [18] (Z8 19 (YA 19 5 [] [] b3 [Ya n.decls,XK (xs++[ZX.mk x1.params x1.lent x1.result (Z5.mk ((X0 x1.body).steps) ((X0 x1.body).result))]) v4] (de (az (ZD k (Z0 1 (ie (ZG ⟨k+1,(xs++[ZX.mk x1.params x1.lent x1.result (Z5.mk ((X0 x1.body).steps) ((X0 x1.body).result))]),v4,ob,(by rw [show Z5.mk (X0 x1.body).steps (X0 x1.body).result=X0 x1.body by cases X0 x1.body;rfl,Zm,We Z2,List.map_append];rfl),(by rw [Ym,Zu];rfl),rfl,rfl,rfl⟩ (wk [0,5,0] (ZK k fl))))))))))))))))
 exact ax 0 (ar (Z4 1 [0] (Zy 1 b2 [Ya n.decls,XK xs v] (ie (Za (r3 [] [.agg [Ya n.decls,XK xs v]] [0] [(b2,b2)] ⟨rfl,rfl⟩ (Zc.agg (.cons (Zc.sl _ (Yc Yo (by rfl))) (.cons (Zc.sl _ (Yc Yr (by rw [Zm,WA om];rfl))) .nil)))))))))
theorem Z4s (n:Zq) (hz:VC n:=by exact ob) (hr:∀r∈n.routines,r.body.rng):Zl 39 [Yb n] [] (Y7 (.tup [Yb (W5 n),.b (YW n)])):=by
 refine ZC 10 Tryz.func39 (ar (iA (Yz n) fun b1=>iA [nl,nl] fun b2=>Z0 1 (ie (aq (ar (Z4 1 [1] (Zx [] (MQ n (hr:=hr)) (Z0 1 (ie (ac (!YW n) (p:=¬(YW n=true)) (Yx Iff.rfl) (fun Zb=>?_) (fun Zb=>?_)))))))))))
 ·exact ar (Z0 1 (Zy 0 b2 [nl,nl] (Z0 1 (ie (Za (r3 [] [.agg [nl,nl],.b false] [0] [(b2,b2)] ⟨rfl,rfl⟩ (Zc.tup (.cons (Zc.agg (.cons (Zc.sl _ (by rw [Bt Zb];rfl)) (.cons (Zc.sl _ (by rw [Bt Zb];rfl)) .nil))) (.cons (lb (Qs.2 Zb).symm) .nil)))))))))
 have hV:YW n=true:=W7.1 Zb
 obtain ⟨hn,hvt⟩:=DN hz hV
 exact ak (ar (Z4 1 [1] (Zx [] (Z56 n) (Zy 0 b2 (Yz (UZ n)) (Z0 1 (ie (Za (r3 [] [Yb (UZ n),.b true] [0] [(b2,b2)] ⟨rfl,rfl⟩ (Zc.tup (.cons (Zc.agg (.cons (Zc.sl _ (Yc Yo (by rw [AE (W7.1 Zb)]))) (.cons (Zc.sl _ (Yc Yr (by rw [AE (W7.1 Zb)]))) .nil))) (.cons (lb (W7.1 Zb).symm) .nil)))))))))))
theorem Zax (ds:List Zd) (b:Z5) (hw:wB ds b) (hl:b.sz<=1000000000) (ih:∀(b2:Z5),(wB ds b2)->(b2.sz<=1000000000)->(b2.sz<b.sz)->Zl 115 [ZE b2] [] (Y7 (ZE (X0 b2)))):Zl 115 [ZE b] [] (Y7 (ZE (X0 b))):=by
 have hbz:=V3 b
 refine ZC 63 Tryz.func115 (ar (iA (YU b) fun b1=>iA [nl,.i 0] fun b2=>ie (ar (iL (Zv []) 0 5 fun v1=>Z4 3 [2] (iA [nl,.i 0] fun b3=>?_)))))
 refine Zy 0 b3 [YE [] v1,.i b.result] (ie (aq (ar (Z0 1 (ie (ab 0 (ZV (fun fz gz m F h=>∃(k:Nat) (xs:List Z3) (v:Value),(k<=b.steps.length)/\(xs.length<=k)/\(xs++WP (b.steps.drop k)=WP b.steps)/\F=sF [1,2,3] fz [(4,.i k)]/\h=[.obj b3 [YE xs v,.i b.result],Zh gz 2,Zh gz 3,.tail v 5]/\m=b.steps.length-k) _ _ _ ⟨0,[],v1,ob,ob,rfl,rfl,rfl,rfl⟩ (wk [0,1,1,0] (ZZ fl)) ?_)))))))
 rintro m F h ⟨k,xs,v,Y4,Zm,Zu,rfl,rfl,rfl⟩
 refine aq (ar (Z4 3 [2] (iw (WW b.steps) (Z0 1 (ie (ZF ((k:Int)<(b.steps.length:Int)) (fun Zb=>?_) (fun Zb=>?_)))))))
 ·refine ak (aq (ab 1 (ar (Z4 3 [2] ?_))))
  obtain ⟨x1,Z2⟩:=Zs b.steps k om
  have Xk:=Qq Z2
  have hws:=IE hw Z2
  have hkz:=Ud x1
  have haz:=Te x1
  refine Zp (Zi none (k:Int) 5 (W3 Z2)) (Z0 2 (Zx [] (QL x1.op) (ie (ac (Xt x1.op) Iff.rfl (fun Zg=>?_) (fun Zg=>?_)))))
  ·have hnc:¬Y8 x1.op=true:=by rw [IF hws] at Zg;simpa using Zg
   refine ar (Z4 3 [2] (Zp (Zi none (k:Int) 5 (W3 Z2)) (Z0 1 (iA [.i 0,.i 0,.i 0,nl,nl] fun b4=>Zy 0 b4 (Xa x1) (ie (ar (iL (Yt []) 0 2 fun v2=>?_)))))))
   refine Z0 1 (ie (aq (ar (Z0 1 (ie (ab 2 (ZV (fun fz gz m F h=>∃(j:Nat) (u:Value) (ks:List Z5),(j<=x1.kids.length)/\(ks.length=j)/\(ks++W6 (x1.kids.drop j)=W6 x1.kids)/\F=sF [1,2,3,4,5] fz [(6,Ue ks u),(7,.i j)]/\h=[Zh gz 1,Zh gz 2,Zh gz 3,Zh gz 4,.tail u 2,Zh gz 5]/\m=x1.kids.length-j) _ _ _ ⟨0,v2,[],ob,ob,rfl,rfl,rfl,rfl⟩ (wk [1,1,1,1,0,0] (fr (ZZ fl))) ?_)))))))
   rintro m F h ⟨j,u,ks,Vs,XB,Xd,rfl,rfl,rfl⟩
   refine aq (ar (Z4 3 [0] (iw (Vh x1.kids) (Z0 1 (ie (ZF ((j:Int)<(x1.kids.length:Int)) (fun ZA=>?_) (fun ZA=>?_)))))))
   ·refine ak (aq (ab 3 (az (Z4 4 [0] ?_))))
    obtain ⟨x2,Zo⟩:=Zs x1.kids j om
    have hks:=Uc Zo
    have hwk:=FY hws Zo
    exact Zp (Zi none (j:Int) 2 (VR Zo)) (Z0 1 (Zx [] (ih x2 hwk ob ob) (iL [ZE (X0 x2)] 1 2 fun v3=>ZM 0 [(46,.sl [ZE (X0 x2)] none)] (ip 5 (Yt (ks++[X0 x2])) (Yt ks) [ZE (X0 x2)] u none 2 (UO _) (UX rfl) rfl (by simp<;>omega) (by simp [Kq,U8]) fun v4=>Z0 1 (ie (az (Z0 1 (ZD j (Z0 1 (ie (ZG ⟨j+1,v4,(ks++[X0 x2]),ob,(by simp;omega),(Oy Zo Xd),rfl,rfl,rfl⟩ (wk [2,2,2,2,0,1] (fr (ZK j fl))))))))))))))
   have hKe:=Ox om Xd
   refine ax 2 (aE 15 (ZL 6 15 [0,1,2,3,4,5,6,7,9] [1,0,0,0] (Z8 8 (dc 8 [] [0,0,1] [b4,b4,b3] (VL x1.args) ?_))))
   rintro _ _ ⟨v5,rfl,rfl⟩
   exact Yh 4 5 [10] [(58,.agg [.i x1.op,.i x1.num,.i 0,Z6 x1.args,Xb ks])] (Z8 11 (dL 11 [1] [b3] [Ys (Z3.mk x1.op x1.num 0 x1.args ks)] 1 5 fun v6=>Yh 3 3 [] [(59,.sl [Ys (Z3.mk x1.op x1.num 0 x1.args ks)] none)] (Z8 12 (dp 12 7 [] [] (Zv (xs++[Z3.mk x1.op x1.num 0 x1.args ks])) (Zv xs) [Ys (Z3.mk x1.op x1.num 0 x1.args ks)] v none 5 (YZ _) (UX rfl) rfl (by simp<;>omega) (by simp [Wp,WX]) fun v7=>Zj 1 2 [13] (Z8 14 (YA 14 4 [] [] b3 [YE (xs++[Z3.mk x1.op x1.num 0 x1.args ks]) v7,.i b.result] (de (az (Z0 1 (ZD k (Z0 1 (ie (ZG ⟨k+1,(xs++[Z3.mk x1.op x1.num 0 x1.args ks]),v7,ob,(by simp;omega),(by rw [hKe];exact Ov Z2 hnc Zu),rfl,rfl,rfl⟩ (wk [0,4,4,0] (ZK k fl)))))))))))))))
  have hcy:Y8 x1.op=true:=by rw [IF hws] at Zg;simpa using Zg
  exact ak (az (Z0 1 (ZD k (Z0 1 (ie (ZG ⟨k+1,xs,v,ob,ob,(Ow Z2 hcy Zu),rfl,rfl,rfl⟩ (ZI 4 (ZK k fl))))))))
 exact ax 0 (ar (Z4 1 [0] (Zy 1 b2 [YE xs v,.i b.result] (ie (Za (r3 [] [.agg [YE xs v,.i b.result]] [0] [(b2,b2)] ⟨rfl,rfl⟩ (Zc.agg (.cons (Zc.sl _ (Yc Zv (by rw [Oi];exact Ou om Zu))) (.cons (li (by rw [Og])) .nil)))))))))
theorem Zav (ds:List Zd) (m:Nat):∀(b2:Z5),(wB ds b2)->(b2.sz<=1000000000)->(b2.sz<m)->Zl 115 [ZE b2] [] (Y7 (ZE (X0 b2))):=by
 induction m with
 | zero=>intro b _ _ h;omega
 | succ m ih=>intro b h1 h2 h3;exact Zax ds b h1 h2 fun b2 k1 k2 k3=>ih b2 k1 k2 om
theorem Zaw (ds:List Zd) (b:Z5) (hw:wB ds b:=by exact ob) (hl:b.sz<=1000000000:=by exact ob):Zl 115 [ZE b] [] (Y7 (ZE (X0 b))):=Zav ds (b.sz+1) b hw hl om
theorem Zay (n:Zq) (hn:X2 n:=by exact ob) (hz:VC n:=by exact ob) (hwb:∀r∈n.routines,wB n.decls r.body):Zl 79 [Yb n] [] (Y7 (Yb (UZ n))):=by
 have hzl:=hz.len
 refine ZC 36 Tryz.func79 (ar (iA (Yz n) fun b1=>iA [nl,nl] fun b2=>ie (ar (Z4 2 [1] (Zx [] (AK n.decls (hd:=hn.decls)) (iL (Yr []) 0 5 fun v1=>Z0 1 (iA [nl,nl] fun b3=>?_)))))))
 refine Zy 0 b3 [Ya n.decls,XK [] v1] (ie (aq (ar (Z0 1 (ie (ab 0 (ZV (fun fz gz m F h=>∃(k:Nat) (xs:List ZX) (v:Value),(k<=n.routines.length)/\(xs=(n.routines.take k).map Tb)/\(xs.length=k)/\F=sF [1,2,3] fz [(4,.i k)]/\h=[.obj b3 [Ya n.decls,XK xs v],Zh gz 2,Zh gz 3,.tail v 5]/\m=n.routines.length-k) _ _ _ ⟨0,[],v1,ob,rfl,ob,rfl,rfl,rfl⟩ (wk [0,1,1,0] (ZZ fl)) ?_)))))))
 rintro m F h ⟨k,xs,v,Y4,Zm,Zu,rfl,rfl,rfl⟩
 refine aq (ar (Z4 3 [2] (iw (Vm n.routines) (Z0 1 (ie (ZF ((k:Int)<(n.routines.length:Int)) (fun Zb=>?_) (fun Zb=>?_)))))))
 ·refine ak (aq (ab 1 (aE 19 (ZL 14 19 [0,1,2,3,4] [0,2] ?_))))
  obtain ⟨x1,Z2⟩:=Zs n.routines k om
  have hrm:=Y0 Z2
  have hbz:=hz.body _ hrm
  have hpl:=hz.params _ hrm
  have hll:=hz.lent _ hrm
  exact dx 5 (Zi none (k:Int) 5 (Wi Z2)) (ZL 9 13 [6,7,8,9] [2] (dx 10 (Zi none (k:Int) 5 (Wi Z2)) (Zj 6 8 [11,12] (Z8 13 (Ye 13 [] [2,0] [b1,b3] (Zaw n.decls x1.body (hw:=(hwb _ hrm))) (Z8 14 (Ye 14 [] [0] [b3] (Bw x1 (X0 x1.body)) (Z8 15 (dL 15 [0] [b3] (Yr [ZX.mk x1.params x1.lent x1.result (X0 x1.body)]) 1 5 fun v2=>Yh 3 3 [] [(32,TT [ZX.mk x1.params x1.lent x1.result (X0 x1.body)])] (Z8 16 (dp 16 4 [] [] (Yr (xs++[ZX.mk x1.params x1.lent x1.result (X0 x1.body)])) (Yr xs) (Yr [ZX.mk x1.params x1.lent x1.result (X0 x1.body)]) v none 5 (VH _) (VH _) (J1 _) (by simp<;>omega) (by simp [JA,Yr]) fun v3=>Zj 1 2 [17] (Z8 18 (YA 18 2 [] [] b3 [Ya n.decls,XK (xs++[ZX.mk x1.params x1.lent x1.result (X0 x1.body)]) v3] (de (az (Z0 1 (ZD k (Z0 1 (ie (ZG ⟨k+1,(xs++[ZX.mk x1.params x1.lent x1.result (X0 x1.body)]),v3,ob,(by rw [Zm,We Z2,List.map_append];rfl),(by rw [Ym,Zu];rfl),rfl,rfl,rfl⟩ (wk [0,2,2,0] (ZK k fl))))))))))))))))))))))
 exact ax 0 (ar (Z4 1 [0] (Zy 1 b2 [Ya n.decls,XK xs v] (ie (Za (r3 [] [.agg [Ya n.decls,XK xs v]] [0] [(b2,b2)] ⟨rfl,rfl⟩ (Zc.agg (.cons (Zc.sl _ (Yc Yo (by rfl))) (.cons (Zc.sl _ (Yc Yr (by rw [Zm,WA om];rfl))) .nil)))))))))
theorem Zai (n:Zq) (hz:VC n:=by exact ob):Zl 40 [Yb n] [] (Y7 (.tup [Yb (W5 n),.b (YW n)])):=by
 refine ZC 10 Tryz.func40 (ar (iA (Yz n) fun b1=>iA [nl,nl] fun b2=>Z0 1 (ie (aq (ar (Z4 1 [1] (Zx [] (Pw n) (Z0 1 (ie (ac (!YW n) (p:=¬(YW n=true)) (Yx Iff.rfl) (fun Zb=>?_) (fun Zb=>?_)))))))))))
 ·exact ar (Z0 1 (Zy 0 b2 [nl,nl] (Z0 1 (ie (Za (r3 [] [.agg [nl,nl],.b false] [0] [(b2,b2)] ⟨rfl,rfl⟩ (Zc.tup (.cons (Zc.agg (.cons (Zc.sl _ (by rw [Bt Zb];rfl)) (.cons (Zc.sl _ (by rw [Bt Zb];rfl)) .nil))) (.cons (lb (Qs.2 Zb).symm) .nil)))))))))
 have hV:YW n=true:=W7.1 Zb
 obtain ⟨hn,hvt⟩:=DN hz hV
 exact ak (ar (Z4 1 [1] (Zx [] (Zay n (hwb:=(Ra hn hz hvt))) (Zy 0 b2 (Yz (UZ n)) (Z0 1 (ie (Za (r3 [] [Yb (UZ n),.b true] [0] [(b2,b2)] ⟨rfl,rfl⟩ (Zc.tup (.cons (Zc.agg (.cons (Zc.sl _ (Yc Yo (by rw [AE (W7.1 Zb)]))) (.cons (Zc.sl _ (Yc Yr (by rw [AE (W7.1 Zb)]))) .nil))) (.cons (lb (W7.1 Zb).symm) .nil)))))))))))
theorem Z6e (ds:List Zd) (es:List Zd) (hd:Qv ds:=by exact ob) (he:Qv es:=by exact ob):Zl 80 [Ya ds,Ya es] [] (Y7 (.b (decide (ds=es)))):=by
 have hdl:=hd.len
 have hel:=he.len
 refine ZC 87 Tryz.func80 (ar (Z0 1 (ie (aq (ar (Z0 1 (iw (Vu ds) (Z0 1 (iw (Vu es) (Z0 1 (ie (ac ((ds.length:Int) != (es.length:Int)) Yg (fun Zb=>?_) (fun Zb=>?_)))))))))))))
 ·exact ar (Z0 1 (ie (Za (ZU (.b false) (lb (decide_eq_false (fun z=>Zb (by rw [z]))).symm)))))
 refine ak (aq (ar (Z0 1 (ie (ab 0 (ZV (fun fz gz m F h=>∃(k:Nat),(k<=ds.length)/\(∀i,i<k->ds[i]? = es[i]?)/\F=sF [0,1] fz [(5,.i k)]/\h=gz/\m=ds.length-k) _ _ _ ⟨0,ob,DK,rfl,rfl,rfl⟩ (wk [] (ZZ fl)) ?_))))))
 rintro m F h ⟨k,Y4,Zm,rfl,rfl,rfl⟩
 refine aq (ar (Z0 2 (iw (Vu ds) (Z0 1 (ie (ZF ((k:Int)<(ds.length:Int)) (fun Zg=>?_) (fun Zg=>?_)))))))
 ·refine ak (aq (ab 1 (aq (aD 39 (Zj 37 39 [0,1] ?_)))))
  obtain ⟨x1,Z2⟩:=Zs ds k om
  have hcl:=hd.cons_at Z2
  refine dx 2 (Zi none (k:Int) 3 (Wo Z2)) (Zj 32 36 [3,4,5,6] ?_)
  obtain ⟨x2,Zo⟩:=Zs es k om
  refine dx 7 (Zi none (k:Int) 3 (Wo Zo)) (KV [0,1,5] [(56,.b ((x1.frm != x2.frm)||((x1.to_ != x2.to_)||((x1.cons.length:Int) != (x2.cons.length:Int)))))] (fun gz=>gz) ?_ ?_)
  ·refine Zj 27 31 [8,9,10,11] (db (b:=(x1.frm != x2.frm)) 29 (fun Zf=>?_) (fun Zf=>?_))
   ·exact Zj 0 27 [12,13,14,15,16,17,18,19,20,21,22,23,24,25,26,27,28,29,30,31,32,33,34,35,36,37,38] (de (wk [] (Zr true Zf fl)))
   refine Zj 25 27 [12,13] (dx 14 (Zi none (k:Int) 3 (Wo Z2)) (Zj 20 24 [15,16,17,18] (dx 19 (Zi none (k:Int) 3 (Wo Zo)) (Zj 14 19 [20,21,22,23,24] (db (b:=(x1.to_ != x2.to_)) 42 (fun ZH=>?_) (fun ZH=>?_))))))
   ·exact Zj 0 14 [25,26,27,28,29,30,31,32,33,34,35,36,37,38] (de (wk [] (Zr true (And.intro Zf ZH) fl)))
   exact Zj 12 14 [25,26] (dx 27 (Zi none (k:Int) 3 (Wo Z2)) (Zj 9 11 [28,29] (dw 30 (VF x1.cons) (Zj 6 8 [31,32] (dx 33 (Zi none (k:Int) 3 (Wo Zo)) (Zj 3 5 [34,35] (dw 36 (VF x2.cons) (Zj 0 2 [37,38] (de (wk [] (Zr ((x1.cons.length:Int) != (x2.cons.length:Int)) (And.intro Zf ZH) fl)))))))))))
  refine ac ((x1.frm != x2.frm)||((x1.to_ != x2.to_)||((x1.cons.length:Int) != (x2.cons.length:Int)))) (p:=(x1.frm≠x2.frm)∨((x1.to_≠x2.to_)∨((x1.cons.length:Int)≠(x2.cons.length:Int)))) (Yn Yg (Yn Yg Yg)) (fun ZA=>?_) (fun ZA=>?_)
  ·exact ar (Z0 1 (ie (Za (ZU (.b false) (lb (decide_eq_false (BH Z2 Zo (fun z=>by rw [z] at ZA;simp at ZA))).symm)))))
  simp only [not_or,ne_eq,W7,decide_eq_true_eq] at ZA
  obtain ⟨hq1,hq2,hq3⟩:=ZA
  refine ak (ar (Z0 1 (ie (ab 2 (ZV (fun fz gz m F h=>∃(j:Nat),(j<=x1.cons.length)/\(∀i,i<j->x1.cons[i]? = x2.cons[i]?)/\F=sF [0,1,5] fz [(6,.i j)]/\h=gz/\m=x1.cons.length-j) _ _ _ ⟨0,ob,DK,rfl,rfl,rfl⟩ (wk [] (ZZ fl)) ?_)))))
  rintro m F h ⟨j,Vs,XB,rfl,rfl,rfl⟩
  refine aq (ar (Z0 3 (Zp (Zi none (k:Int) 3 (Wo Z2)) (Z0 2 (iw (VF x1.cons) (Z0 1 (ie (ZF ((j:Int)<(x1.cons.length:Int)) (fun Yf=>?_) (fun Yf=>?_)))))))))
  ·refine ak (aq (ab 3 (aD 20 (Zj 18 20 [0,1] (dx 2 (Zi none (k:Int) 3 (Wo Z2)) (Zj 14 17 [3,4,5] ?_))))))
   obtain ⟨x3,YJ⟩:=Zs x1.cons j om
   refine dx 6 (Zi none (j:Int) 1 (Jy YJ)) (Zj 9 13 [7,8,9,10] (dx 11 (Zi none (k:Int) 3 (Wo Zo)) (Zj 5 8 [12,13,14] ?_)))
   obtain ⟨x4,Vy⟩:=Zs x2.cons j om
   refine dx 15 (Zi none (j:Int) 1 (Jy Vy)) (Zj 2 4 [16,17] (Z8 18 (Ye 18 [] [] [] (F5 x3.fields x4.fields (hxl:=(WR (hd.fields_at Z2 YJ) (by decide))) (hyl:=(WR (he.fields_at Zo Vy) (by decide)))) (Zj 0 1 [19] (de (ac (!(decide (x3.fields=x4.fields))) (p:=¬(x3.fields=x4.fields)) (Yx dq) (fun X3=>?_) (fun X3=>?_)))))))
   ·exact ar (Z0 1 (ie (Za (ZU (.b false) (lb (decide_eq_false (BH Z2 Zo (fun z=>BH YJ Vy (fun w=>X3 (Yc Y1.fields w)) (Yc Zd.cons z)))).symm)))))
   exact ak (az (Z0 1 (ZD j (Z0 1 (ie (ZG ⟨j+1,ob,(DL XB YJ Vy (Y1.ext1 (W7.1 X3))),rfl,rfl,rfl⟩ (wk [] (ZK j fl))))))))
  have hE:=CO (xs:=x1.cons) (ys:=x2.cons) om (fun i hi=>XB i om)
  exact ax 2 (az (Z0 1 (ZD k (Z0 1 (ie (ZG ⟨k+1,ob,(DL Zm Z2 Zo (Zd.ext3 hq1 hq2 hE)),rfl,rfl,rfl⟩ (wk [] (ZK k fl))))))))
 exact ax 0 (ar (Z0 1 (ie (Za (ZU (.b true) (lb (decide_eq_true (CO om (fun i hi=>Zm i om))).symm))))))
theorem Z6f (z:Nat) (s:Z3) (t:Z3) (hz:s.sz<=z+1:=by exact ob) (hs:s.sz<=1000000000:=by exact ob) (ht:t.sz<=1000000000:=by exact ob) (ih:∀(a2:Z5) (b2:Z5),(a2.sz<=z)->(a2.sz<=1000000000)->(b2.sz<=1000000000)->Zl 81 [ZE a2,ZE b2] [] (Y7 (.b (decide (a2=b2))))):Zl 116 [Ys s,Ys t] [] (Y7 (.b (decide (s=t)))):=by
 have hsa:=Te s
 have hta:=Te t
 have hsk:=Ud s
 have htk:=Ud t
 refine ZC 61 Tryz.func116 (ar (iA (Xa s) fun b1=>iA (Xa t) fun b2=>Z0 1 (ie (aq (ar (Xx 12 [2,3] [(17,.b ((s.op != t.op)||(s.num != t.num)))] (fun gz=>gz) ?_ (fun hj1=>?_)))))))
 ·refine Xx 19 [2,3] [(24,.b (((s.op != t.op)||(s.num != t.num))||(s.into != t.into)))] (fun gz=>gz) ?_ (fun hj2=>?_)
  ·refine Xx 27 [2,3] [(32,.b ((((s.op != t.op)||(s.num != t.num))||(s.into != t.into))||(!(decide (s.args=t.args)))))] (fun gz=>gz) ?_ (fun hj3=>?_)
   ·refine X8 [2,3] [(41,.b (((((s.op != t.op)||(s.num != t.num))||(s.into != t.into))||(!(decide (s.args=t.args))))||((s.kids.length:Int) != (t.kids.length:Int))))] (fun gz=>gz) ?_ ?_
    ·refine Z0 1 (ib (b:=((((s.op != t.op)||(s.num != t.num))||(s.into != t.into))||(!(decide (s.args=t.args))))) 33 (fun Zf=>?_) (fun Zf=>?_))
     ·exact Z0 8 (ie (wk [0,0] (Zr true Zf fl)))
     exact Z4 2 [1] (iw (Vh s.kids) (Z4 2 [0] (iw (Vh t.kids) (Z0 2 (ie (wk [0,0] (Zr ((s.kids.length:Int) != (t.kids.length:Int)) Zf fl)))))))
    refine ac (((((s.op != t.op)||(s.num != t.num))||(s.into != t.into))||(!(decide (s.args=t.args))))||((s.kids.length:Int) != (t.kids.length:Int))) (p:=((((s.op≠t.op)∨(s.num≠t.num))∨(s.into≠t.into))∨(¬(s.args=t.args)))∨((s.kids.length:Int)≠(t.kids.length:Int))) (Yn (Yn (Yn (Yn Yg Yg) Yg) (Yx dq)) Yg) (fun Zb=>?_) (fun Zb=>?_)
    ·exact ar (Z0 1 (ie (Za (ZU (.b false) (lb (decide_eq_false (fun z=>by rw [z] at Zb;simp at Zb)).symm)))))
    simp only [not_or,ne_eq,W7,decide_eq_true_eq] at Zb
    obtain ⟨⟨⟨⟨hq1,hq2⟩,hq3⟩,hq4⟩,hq5⟩:=Zb
    refine ak (aq (ar (Z0 1 (ie (ab 0 (ZV (fun fz gz m F h=>∃(k:Nat),(k<=s.kids.length)/\(∀i,i<k->s.kids[i]? = t.kids[i]?)/\F=sF [2,3] fz [(5,.i k)]/\h=gz/\m=s.kids.length-k) _ _ _ ⟨0,ob,DK,rfl,rfl,rfl⟩ (wk [0,0] (ZZ fl)) ?_))))))
    rintro m F h ⟨k,Y4,Zm,rfl,rfl,rfl⟩
    refine aq (ar (Z4 3 [1] (iw (Vh s.kids) (Z0 1 (ie (ZF ((k:Int)<(s.kids.length:Int)) (fun Zg=>?_) (fun Zg=>?_)))))))
    ·refine ak (aq (ab 1 (aD 12 (ZL 9 12 [0,1,2] [1] ?_))))
     obtain ⟨x1,Z2⟩:=Zs s.kids k om
     have hk1:=Uc Z2
     refine dx 3 (Zi none (k:Int) 2 (VR Z2)) (ZL 4 8 [4,5,6,7] [0] ?_)
     obtain ⟨x2,Zo⟩:=Zs t.kids k om
     have hk2:=Uc Zo
     refine dx 8 (Zi none (k:Int) 2 (VR Zo)) (Zj 2 3 [9] (Z8 10 (Ye 10 [] [] [] (ih x1 x2 ob ob ob) (Zj 0 1 [11] (de (ac (!(decide (x1=x2))) (p:=¬(x1=x2)) (Yx dq) (fun ZA=>?_) (fun ZA=>?_)))))))
     ·exact ar (Z0 1 (ie (Za (ZU (.b false) (lb (decide_eq_false (fun z=>BH Z2 Zo ZA (Yc Z3.kids z))).symm)))))
     exact ak (az (Z0 1 (ZD k (Z0 1 (ie (ZG ⟨k+1,ob,(DL Zm Z2 Zo (W7.1 ZA)),rfl,rfl,rfl⟩ (wk [0,0] (ZK k fl))))))))
    exact ax 0 (ar (Z0 1 (ie (Za (ZU (.b true) (lb (decide_eq_true (Z3.ext4 hq1 hq2 hq3 hq4 (CO om (fun i hi=>Zm i om)))).symm))))))
   refine Z0 1 (ib (b:=(((s.op != t.op)||(s.num != t.num))||(s.into != t.into))) 25 (fun ZH=>?_) (fun ZH=>?_))
   ·exact Z0 7 (Yp (wk [0,0] (Zr true ZH fl)) hj3)
   exact Z4 4 [1,0] (Zx [] (F5 s.args t.args) (Z0 2 (Yp (wk [0,0] (Zr (!(decide (s.args=t.args))) ZH fl)) hj3)))
  refine Z0 1 (ib (b:=((s.op != t.op)||(s.num != t.num))) 18 (fun Yv=>?_) (fun Yv=>?_))
  ·exact Z0 6 (Yp (wk [0,0] (Zr true Yv fl)) hj2)
  exact Z4 6 [1,0] (Yp (wk [0,0] (Zr (s.into != t.into) Yv fl)) hj2)
 refine Z4 6 [1,0] (ib (b:=(s.op != t.op)) 11 (fun YX=>?_) (fun YX=>?_))
 ·exact Z0 6 (Yp (wk [0,0] (Zr true YX fl)) hj1)
 exact Z4 6 [1,0] (Yp (wk [0,0] (Zr (s.num != t.num) YX fl)) hj1)
theorem Z6c (z:Nat) (a:Z5) (b:Z5) (hz:a.sz<=z+1:=by exact ob) (ha:a.sz<=1000000000:=by exact ob) (hb:b.sz<=1000000000:=by exact ob) (ih:∀(a2:Z5) (b2:Z5),(a2.sz<=z)->(a2.sz<=1000000000)->(b2.sz<=1000000000)->Zl 81 [ZE a2,ZE b2] [] (Y7 (.b (decide (a2=b2))))):Zl 81 [ZE a,ZE b] [] (Y7 (.b (decide (a=b)))):=by
 have hsa:=V3 a
 have hsb:=V3 b
 refine ZC 39 Tryz.func81 (ar (iA (YU a) fun b1=>iA (YU b) fun b2=>Z0 1 (ie (aq (ar (X8 [2,3] [(19,.b ((a.result != b.result)||((a.steps.length:Int) != (b.steps.length:Int))))] (fun gz=>gz) ?_ ?_))))))
 ·refine Z4 6 [1,0] (ib (b:=(a.result != b.result)) 11 (fun Zf=>?_) (fun Zf=>?_))
  ·exact Z0 8 (ie (wk [0,0] (Zr true Zf fl)))
  exact Z4 2 [1] (iw (WW a.steps) (Z4 2 [0] (iw (WW b.steps) (Z0 2 (ie (wk [0,0] (Zr ((a.steps.length:Int) != (b.steps.length:Int)) Zf fl)))))))
 refine ac ((a.result != b.result)||((a.steps.length:Int) != (b.steps.length:Int))) (p:=(a.result≠b.result)∨((a.steps.length:Int)≠(b.steps.length:Int))) (Yn Yg Yg) (fun Zb=>?_) (fun Zb=>?_)
 ·exact ar (Z0 1 (ie (Za (ZU (.b false) (lb (decide_eq_false (fun z=>by rw [z] at Zb;simp at Zb)).symm)))))
 simp only [not_or,ne_eq,W7,decide_eq_true_eq] at Zb
 obtain ⟨hq1,hq2⟩:=Zb
 refine ak (aq (ar (Z0 1 (ie (ab 0 (ZV (fun fz gz m F h=>∃(k:Nat),(k<=a.steps.length)/\(∀i,i<k->a.steps[i]? = b.steps[i]?)/\F=sF [2,3] fz [(5,.i k)]/\h=gz/\m=a.steps.length-k) _ _ _ ⟨0,ob,DK,rfl,rfl,rfl⟩ (wk [0,0] (ZZ fl)) ?_))))))
 rintro m F h ⟨k,Y4,Zm,rfl,rfl,rfl⟩
 refine aq (ar (Z4 3 [1] (iw (WW a.steps) (Z0 1 (ie (ZF ((k:Int)<(a.steps.length:Int)) (fun Zg=>?_) (fun Zg=>?_)))))))
 ·refine ak (aq (ab 1 (aD 12 (ZL 9 12 [0,1,2] [1] ?_))))
  obtain ⟨x1,Z2⟩:=Zs a.steps k om
  have hk1:=Qq Z2
  refine dx 3 (Zi none (k:Int) 5 (W3 Z2)) (ZL 4 8 [4,5,6,7] [0] ?_)
  obtain ⟨x2,Zo⟩:=Zs b.steps k om
  have hk2:=Qq Zo
  refine dx 8 (Zi none (k:Int) 5 (W3 Zo)) (Zj 2 3 [9] (Z8 10 (Ye 10 [] [] [] (Z6f z x1 x2 (ih:=ih)) (Zj 0 1 [11] (de (ac (!(decide (x1=x2))) (p:=¬(x1=x2)) (Yx dq) (fun ZA=>?_) (fun ZA=>?_)))))))
  ·exact ar (Z0 1 (ie (Za (ZU (.b false) (lb (decide_eq_false (fun z=>BH Z2 Zo ZA (Yc Z5.steps z))).symm)))))
  exact ak (az (Z0 1 (ZD k (Z0 1 (ie (ZG ⟨k+1,ob,(DL Zm Z2 Zo (W7.1 ZA)),rfl,rfl,rfl⟩ (wk [0,0] (ZK k fl))))))))
 exact ax 0 (ar (Z0 1 (ie (Za (ZU (.b true) (lb (decide_eq_true (Z5.ext2 (CO om (fun i hi=>Zm i om)) hq1)).symm))))))
theorem Z6d (m:Nat):∀(a2:Z5) (b2:Z5),(a2.sz<=m)->(a2.sz<=1000000000)->(b2.sz<=1000000000)->Zl 81 [ZE a2,ZE b2] [] (Y7 (.b (decide (a2=b2)))):=by
 induction m with
 | zero=>intro a b h;have:=a.sz_pos;omega
 | succ m ih=>intro a b h1 h2 h3;exact Z6c m a b h1 h2 h3 ih
theorem Z6b (a:Z5) (b:Z5) (ha:a.sz<=1000000000:=by exact ob) (hb:b.sz<=1000000000:=by exact ob):Zl 81 [ZE a,ZE b] [] (Y7 (.b (decide (a=b)))):=Z6d a.sz a b (YR _) ha hb
theorem Nl (n:Zq) (t:Zq) (hn:VC n:=by exact ob) (ht:VC t:=by exact ob):Zl 41 [Yb n,Yb t] [] (Y7 (.b (decide (n=t)))):=by
 have hnl:=hn.len
 have htl:=ht.len
 refine ZC 69 Tryz.func41 (ar (iA (Yz n) fun b1=>iA (Yz t) fun b2=>Z0 1 (ie (aq (ar (Z4 4 [1,0] (Zx [] (Z6e n.decls t.decls (hd:=hn.decls) (he:=ht.decls)) (X8 [2,3] [(22,.b ((!(decide (n.decls=t.decls)))||((n.routines.length:Int) != (t.routines.length:Int))))] (fun gz=>gz) ?_ ?_))))))))
 ·refine Z0 2 (ib (b:=(!(decide (n.decls=t.decls)))) 14 (fun Zf=>?_) (fun Zf=>?_))
  ·exact Z0 8 (ie (wk [0,0] (Zr true Zf fl)))
  exact Z4 2 [1] (iw (Vm n.routines) (Z4 2 [0] (iw (Vm t.routines) (Z0 2 (ie (wk [0,0] (Zr ((n.routines.length:Int) != (t.routines.length:Int)) Zf fl)))))))
 refine ac ((!(decide (n.decls=t.decls)))||((n.routines.length:Int) != (t.routines.length:Int))) (p:=(¬(n.decls=t.decls))∨((n.routines.length:Int)≠(t.routines.length:Int))) (Yn (Yx dq) Yg) (fun Zb=>?_) (fun Zb=>?_)
 ·exact ar (Z0 1 (ie (Za (ZU (.b false) (lb (decide_eq_false (fun z=>by rw [z] at Zb;simp at Zb)).symm)))))
 simp only [not_or,ne_eq,W7,decide_eq_true_eq] at Zb
 obtain ⟨hq1,hq2⟩:=Zb
 refine ak (aq (ar (Z0 1 (ie (ab 0 (ZV (fun fz gz m F h=>∃(k:Nat),(k<=n.routines.length)/\(∀i,i<k->n.routines[i]? = t.routines[i]?)/\F=sF [2,3] fz [(5,.i k)]/\h=gz/\m=n.routines.length-k) _ _ _ ⟨0,ob,DK,rfl,rfl,rfl⟩ (wk [0,0] (ZZ fl)) ?_))))))
 rintro m F h ⟨k,Y4,Zm,rfl,rfl,rfl⟩
 refine aq (ar (Z4 3 [1] (iw (Vm n.routines) (Z0 1 (ie (ZF ((k:Int)<(n.routines.length:Int)) (fun Zg=>?_) (fun Zg=>?_)))))))
 ·refine ak (aq (ab 1 (ar (Z4 3 [1] ?_))))
  obtain ⟨x1,Z2⟩:=Zs n.routines k om
  have hm1:=Y0 Z2
  have ha1:=hn.params _ hm1
  have ha2:=hn.lent _ hm1
  have ha3:=hn.body _ hm1
  refine Zp (Zi none (k:Int) 5 (Wi Z2)) (Z0 1 (iA [nl,nl,.i 0,nl,.i 0] fun b3=>Zy 0 b3 (Tj x1) (ie (ar (Z4 3 [1] ?_)))))
  obtain ⟨x2,Zo⟩:=Zs t.routines k om
  have hm2:=Y0 Zo
  have ha4:=ht.params _ hm2
  have ha5:=ht.lent _ hm2
  have ha6:=ht.body _ hm2
  refine Zp (Zi none (k:Int) 5 (Wi Zo)) (Z0 1 (iA [nl,nl,.i 0,nl,.i 0] fun b4=>Zy 0 b4 (Tj x2) (ie (ar (Z4 4 [1,0] (Zx [] (F5 x1.params x2.params) (Xx 14 [2,3,5,6,7] [(53,.b ((!(decide (x1.params=x2.params)))||(!(decide (x1.lent=x2.lent)))))] (fun gz=>gz) ?_ (fun hj1=>?_))))))))
  ·refine Xx 21 [2,3,5,6,7] [(60,.b (((!(decide (x1.params=x2.params)))||(!(decide (x1.lent=x2.lent))))||(x1.result != x2.result)))] (fun gz=>gz) ?_ (fun hj2=>?_)
   ·refine X8 [2,3,5] [(68,.b ((((!(decide (x1.params=x2.params)))||(!(decide (x1.lent=x2.lent))))||(x1.result != x2.result))||(!(decide (x1.body=x2.body)))))] (fun gz=>gz) ?_ ?_
    ·refine Z0 1 (ib (b:=(((!(decide (x1.params=x2.params)))||(!(decide (x1.lent=x2.lent))))||(x1.result != x2.result))) 61 (fun ZH=>?_) (fun ZH=>?_))
     ·exact Z0 7 (ie (ZI 4 (Zr true ZH fl)))
     exact Z4 4 [1,0] (Zx [] (Z6b x1.body x2.body) (Z0 2 (ie (ZI 4 (Zr (!(decide (x1.body=x2.body))) ZH fl)))))
    refine ac ((((!(decide (x1.params=x2.params)))||(!(decide (x1.lent=x2.lent))))||(x1.result != x2.result))||(!(decide (x1.body=x2.body)))) (p:=(((¬(x1.params=x2.params))∨(¬(x1.lent=x2.lent)))∨(x1.result≠x2.result))∨(¬(x1.body=x2.body))) (Yn (Yn (Yn (Yx dq) (Yx dq)) Yg) (Yx dq)) (fun ZA=>?_) (fun ZA=>?_)
    ·exact ar (Z0 1 (ie (Za (ZU (.b false) (lb (decide_eq_false (fun z=>BH Z2 Zo (fun w=>by rw [w] at ZA;simp at ZA) (Yc Zq.routines z))).symm)))))
    simp only [not_or,ne_eq,W7,decide_eq_true_eq] at ZA
    obtain ⟨⟨⟨hw1,hw2⟩,hw3⟩,hw4⟩:=ZA
    exact ak (az (Z0 1 (ZD k (Z0 1 (ie (ZG ⟨k+1,ob,(DL Zm Z2 Zo (ZX.ext4 hw1 hw2 hw3 hw4)),rfl,rfl,rfl⟩ (wk [2,2] (ZK k fl))))))))
   refine Z0 1 (ib (b:=((!(decide (x1.params=x2.params)))||(!(decide (x1.lent=x2.lent))))) 54 (fun Yv=>?_) (fun Yv=>?_))
   ·exact Z0 6 (Yp (ZI 4 (Zr true Yv fl)) hj2)
   exact Z4 6 [1,0] (Yp (ZI 4 (Zr (x1.result != x2.result) Yv fl)) hj2)
  refine Z0 2 (ib (b:=(!(decide (x1.params=x2.params)))) 46 (fun YX=>?_) (fun YX=>?_))
  ·exact Z0 7 (Yp (ZI 4 (Zr true YX fl)) hj1)
  exact Z4 4 [1,0] (Zx [] (F5 x1.lent x2.lent) (Z0 2 (Yp (ZI 4 (Zr (!(decide (x1.lent=x2.lent))) YX fl)) hj1)))
 exact ax 0 (ar (Z0 1 (ie (Za (ZU (.b true) (lb (decide_eq_true (Zq.ext2 hq1 (CO om (fun i hi=>Zm i om)))).symm))))))
theorem Z22 (code:LI) (hcl:code.length<=1048576:=by exact ob) (hcb:∀z∈code,0<=z/\z<=255):Zl 38 [VK code] [] (fun r h=>∃(n2:Zq),r=Yb n2/\h=[]/\ZS n2 7330632 11):=by
 refine ZC 6 Tryz.func38 (ar (iA [nl,nl] fun b1=>ie (ar (Z0 1 (ic [] (Z3c code (hc:=hcb)) ?_)))))
 rintro _ _ ⟨rd1,bs1,rfl,rfl,Y2⟩
 have hnr:=Y2
 refine ic [0] (Z24 rd1 bs1 0 (ZB:=hnr)) ?_
 rintro _ _ ⟨n21,p21,rfl,rfl,Yl⟩
 have haf:=Yl
 exact Zy 1 b1 (Yz n21) (ie (Za (r3 [] [Yb n21] [0] [(b1,b1)] ⟨n21,rfl,rfl,haf.1⟩ (lr _))))
open Go.Proofs
theorem MO (n:Zq) (hz:VC n:=by exact ob) (hr:∀r∈n.routines,r.body.rng):Zl 26 [Yb n] [] (Y7 (Z6 (cF n))):=(W2.frzI (Z4r n hz hr))
theorem Nm (n:Zq) (hz:VC n:=by exact ob):Zl 45 [Yb n] [] (Y7 (.i (TX n))):=by
 have hzl:=hz.len
 refine ZC 22 Tryz.func45 (ar (iA (Yz n) fun b1=>?_))
 refine Z0 1 (ie (ar (Z0 1 (ie (aq (ar (Z0 1 (ie (ab 0 (ZV (fun fz gz m F h=>∃(k:Nat),(k<=n.routines.length)/\F=sF [1] fz [(3,.i (V2 (n.routines.take k))),(4,.i k)]/\h=gz/\m=n.routines.length-k) _ _ _ ⟨0,ob,rfl,rfl,rfl⟩ (wk [0] (ZZ (ZZ fl))) ?_))))))))))
 rintro m F h ⟨k,Y4,rfl,rfl,rfl⟩
 refine aq (ar (Z4 3 [0] (iw (Vm n.routines) (Z0 1 (ie (ZF ((k:Int)<(n.routines.length:Int)) (fun Zb=>?_) (fun Zb=>?_)))))))
 ·have hsb:=FE (xs:=n.routines.take k)
  rw [Wm,Va Y4] at hsb
  refine ak (aq (ab 1 (az (Z4 4 [0] ?_))))
  obtain ⟨x1,Z2⟩:=Zs n.routines k om
  have hrm:=Y0 Z2
  have hbz:=hz.body _ hrm
  have hst:=PI (x1).body
  have htk:V2 (n.routines.take (k+1))=V2 (n.routines.take k)+Wr (x1).body:=by rw [We Z2,Pb]
  exact Zp (Zi none (k:Int) 5 (Wi Z2)) (Z0 2 (Zx [] (MP x1.body) (ia (((V2 (n.routines.take k))+(Wr x1.body))) (((V2 (n.routines.take k)))+(Wr x1.body)) (Z0 1 (ie (az (Z0 1 (ZD k (Z0 1 (ie (ZG ⟨k+1,ob,rfl,rfl,rfl⟩ (wk [0] (fc (x:=.i ((V2 (n.routines.take k))+(Wr x1.body))) li (ZK k fl))))))))))))))
 exact ax 0 (ar (Z0 2 (ie (Za (ZU (.i (V2 (n.routines.take k))) (li (by rw [WA om];rfl)))))))
theorem Z6g (xs:LI) (hxl:xs.length<=4:=by exact ob) (hxb:∀x∈xs,0<=x/\x<=40000000):Zl 46 [Z6 xs] [] (Y7 (.i (Wf xs))):=by
 refine ZC 18 Tryz.func46 (ar (Z0 1 (ie (ar (Z0 1 (ie (aq (ar (Z0 1 (ie (ab 0 (ZV (fun fz gz m F h=>∃(k:Nat),(k<=xs.length)/\F=sF [0] fz [(3,.i (Wf (xs.take k))),(4,.i k)]/\h=gz/\m=xs.length-k) _ _ _ ⟨0,ob,rfl,rfl,rfl⟩ (wk [] (ZZ (ZZ fl))) ?_))))))))))))
 rintro m F h ⟨k,Y4,rfl,rfl,rfl⟩
 refine aq (ar (Z0 2 (iw (Y9 xs) (Z0 1 (ie (ZF ((k:Int)<(xs.length:Int)) (fun Zb=>?_) (fun Zb=>?_)))))))
 ·have hsb:=PR (q:=40000000) (xs:=xs.take k) (fun x hx=>hxb x (TK hx))
  rw [Wm,Va Y4] at hsb
  refine ak (aq (ab 1 (az (Z0 3 ?_))))
  obtain ⟨x1,Z2⟩:=Zs xs k om
  have hxm:=hxb _ (Y0 Z2)
  have htk:Wf (xs.take (k+1))=Wf (xs.take k)+x1:=by rw [We Z2,PQ]
  exact Zp (Zi none (k:Int) 1 (ZY Z2)) (Z0 1 (ia (((Wf (xs.take k))+x1)) (((Wf (xs.take k)))+(x1)) (Z0 1 (ie (az (Z0 1 (ZD k (Z0 1 (ie (ZG ⟨k+1,ob,rfl,rfl,rfl⟩ (wk [] (fc (x:=.i ((Wf (xs.take k))+x1)) li (ZK k fl)))))))))))))
 exact ax 0 (ar (Z0 2 (ie (Za (ZU (.i (Wf (xs.take k))) (li (by rw [WA om])))))))
theorem Z6a (code:LI) (hcb:∀z∈code,0<=z/\z<=255):Zl 13 [VK code] [] (Y7 (.b true)):=by
 refine ZC 59 Tryz.func13 (ar (Z0 1 (ie (aq (ar (Z0 1 (iw (QX code) (Z0 1 (ie (ZF ((code.length:Int)>1048576) (fun Zb=>?_) (fun Zb=>?_)))))))))))
 ·exact ar (Z0 1 (ie (Za (Iw))))
 have hcl:code.length<=1048576:=by omega
 refine ak (ar (Z0 1 (ic [] (Z22 code (hcl:=hcl) (hcb:=hcb)) ?_)))
 rintro _ _ ⟨n21,rfl,rfl,Y2⟩
 have hzs:=Y2
 have hzn:=hzs.sz om om
 have hpz:=Z8f hzn
 have hrn:∀r∈n21.routines,r.body.rng:=fun r hr=>(hzs.rt r hr).2.2.2
 have hpr:=Z8e hrn
 refine iA [nl,nl] fun b1=>Zy 0 b1 (Yz n21) (ie (ar (Z4 1 [0] (Zx [] (Z4s n21 (hz:=hzn) (hr:=hrn)) (Z0 3 (iA [nl,nl] fun b2=>Zy 0 b2 (Yz (W5 n21)) (Z0 1 (ie (ar (Z4 1 [1] (Zx [] (Zai n21) (Z0 3 (iA [nl,nl] fun b3=>Zy 0 b3 (Yz (W5 n21)) (Z0 1 (ie (aq (ar (Z4 2 [1,0] (Zx [] (Nl (W5 n21) (W5 n21) (hn:=hpz) (ht:=hpz)) (Xx 9 [3,4,5,6,7] [(31,.b ((!(decide ((W5 n21)=(W5 n21))))||((YW n21) != (YW n21))))] (fun gz=>gz) ?_ (fun hj1=>?_)))))))))))))))))))))
 ·refine X8 [3,4,5,6,7] [(35,.b (((!(decide ((W5 n21)=(W5 n21))))||((YW n21) != (YW n21)))||(!(YW n21))))] (fun gz=>gz) ?_ ?_
  ·refine Z0 1 (ib (b:=((!(decide ((W5 n21)=(W5 n21))))||((YW n21) != (YW n21)))) 32 (fun Zf=>?_) (fun Zf=>?_))
   ·exact Z0 3 (ie (ZI 3 (fc (x:=.b true) (lb (by rw [Zf];rfl)) fl)))
   exact Z0 3 (ie (ZI 3 (fc (x:=.b (!(YW n21))) (lb (by rw [Zf];rfl)) fl)))
  refine ac (((!(decide ((W5 n21)=(W5 n21))))||((YW n21) != (YW n21)))||(!(YW n21))) (p:=((¬((W5 n21)=(W5 n21)))∨((YW n21)≠(YW n21)))∨(¬((YW n21)=true))) (Yn (Yn (Yx dq) Yg) (Yx Iff.rfl)) (fun Zg=>?_) (fun Zg=>?_)
  ·refine ar (Z4 2 [1,0] (Zx [] (Nl (W5 n21) (W5 n21) (hn:=hpz) (ht:=hpz)) (Xx 8 [] [(43,.b ((decide ((W5 n21)=(W5 n21)))&&((YW n21)==(YW n21))))] (fun gz=>gz) ?_ (fun hj2=>?_))))
   ·exact Z0 1 (ie (Za (ZU (.b ((decide ((W5 n21)=(W5 n21)))&&((YW n21)==(YW n21)))) (lb (by simp)))))
   refine Z0 1 (ib (b:=(decide ((W5 n21)=(W5 n21)))) 39 (fun ZH=>?_) (fun ZH=>?_))
   ·exact Z0 2 (Zp (Z5y (YW n21) (YW n21)) (Z0 1 (Yp (ZI 3 (fc (x:=.b ((YW n21)==(YW n21))) (lb (by rw [ZH];rfl)) fl)) hj2)))
   exact Z0 4 (Yp (ZI 3 (fc (x:=.b false) (lb (by rw [ZH];rfl)) fl)) hj2)
  have hV:YW n21=true:=AU fun z=>Zg (.inr z)
  have hnl:=hzs.len
  have hsl:=Zcc hzn hV
  have hl4:=Lo hV
  have hs1:=FE (xs:=n21.routines)
  have hs2:=FE (xs:=(W5 n21).routines)
  have hpl:=Z8d (n:=n21)
  have hsA:TX n21=V2 n21.routines:=rfl
  have hsB:TX (W5 n21)=V2 (W5 n21).routines:=rfl
  refine ak (aD 16 (ZL 13 16 [0,2,5] [2,1,2] (Z8 1 (Ye 1 [] [2,1] [b1,b2] (Nm n21 (hz:=(by first|exact hzn|exact hpz))) (Z8 3 (Ye 3 [] [2] [b1] (Nm (W5 n21) (hz:=(by first|exact hzn|exact hpz))) (da 4 (((TX n21)-(TX (W5 n21)))) (((TX n21))-((TX (W5 n21)))) (Z8 6 (Ye 6 [] [] [] (MO n21 (hr:=hrn)) (Z8 7 (Ye 7 [] [] [] (Z6g (cF n21) (hxl:=S3) (hxb:=(S2 hzn om))) (KV [] [(2,.b ((((TX n21)-(TX (W5 n21)))==(Wf (cF n21)))&&((((cF n21).length:Nat):Int)==4)))] (fun gz=>gz) ?_ ?_))))))))))))
  ·refine Zj 6 8 [8,9] (db (b:=(((TX n21)-(TX (W5 n21)))==(Wf (cF n21)))) 53 (fun Yv=>?_) (fun Yv=>?_))
   ·exact ZL 5 6 [10] [2] (Z8 11 (Ye 11 [] [] [] (MO n21 (hr:=hrn)) (dn 12 (.i (((cF n21).length:Nat):Int)) (.i (((Z7 (cF n21)).length:Nat):Int)) (li (by rw [Y9])) (Zj 0 3 [13,14,15] (de (ZI 3 (fc (x:=.b ((((cF n21).length:Nat):Int)==4)) (lb (by rw [Yv];rfl)) fl)))))))
   exact Zj 0 6 [10,11,12,13,14,15] (de (ZI 3 (fc (x:=.b false) (lb (by rw [Yv];rfl)) fl)))
  exact Za (ZU (.b ((((TX n21)-(TX (W5 n21)))==(Wf (cF n21)))&&((((cF n21).length:Nat):Int)==4))) (lb (by rw [hsl,hl4];simp)))
 refine Z0 2 (ib (b:=(!(decide ((W5 n21)=(W5 n21))))) 27 (fun YX=>?_) (fun YX=>?_))
 ·exact Z0 4 (Yp (ZI 3 (fc (x:=.b true) (lb (by rw [YX];rfl)) fl)) hj1)
 exact Z0 2 (Zp (Z5z (YW n21) (YW n21)) (Z0 1 (Yp (ZI 3 (fc (x:=.b ((YW n21) != (YW n21))) (lb (by rw [YX];rfl)) fl)) hj1)))
end Go.Abs
section
namespace Go.Proofs.YthllacimcjakdaaGreat.fnPlainOfSteps
open Go.ChangeShapes Go.WideShapes Go.ChangeAt Go.RowKit Go.Abs
theorem own:ownKnob Tryz.prog.godebug=none:=by kernel_rfl
theorem kids:Kids Tryz.prog (·<Tryz.prog.types.size):=kids_rows kr kr
theorem Z21:∀t e,t<Tryz.prog.types.size->Tryz.prog.underlying t=some (.slice e)->0<Tryz.prog.cellsOf e:=slices_full_of Tryz.prog kr
theorem P0 {w w':World} {G G':Y6} {h':List Res} (hx:YP w G [] w' G' h'):∀b,b<w.heap.size->w'.heap[b]? = w.heap[b]?:=
 fun b hb=>(hx.same b hb).eq fun o ⟨r,hr,_⟩=>by cases hr
theorem Sd {w w':World} {b o:Nat} (h:w'.heap[b]? = w.heap[b]?):w'.cell? ⟨b,o,none⟩=w.cell? ⟨b,o,none⟩:=by simp [World.cell?,h]
theorem Z72 {t:Nat} (h:Nat.blt t Tryz.prog.types.size=true):t<Tryz.prog.types.size:=Nat.le_of_ble_eq_true h
set_option maxRecDepth 100000 in
theorem SQ (H:Type) (enc:TypeId × Value->H) (W:World) (base:Nat) (args:Array Value) (ds gs:List (DataW H)) (before:List MemPlace) (hval:∀(j:Nat) t v,Tryz.f13.params[j]? = some t->args[j]? = some v->Value.okWide Tryz.prog W .any base t v)
  (hW:DataW.Whole enc Tryz.prog Tryz.f13.params.toList Rows.fnPlainOfStepsSpec.vars false W args.toList ds gs before) :
  Calls Tryz.prog 13 args W fun e W'=>∃v,e=.returned v/\Rows.fnPlainOfStepsSpec.post enc Tryz.prog Tryz.f13 false true false false W args v W':=by
 have hW':=hW
 obtain ⟨p,q,hA0,hV,rfl,hfz,hnd⟩:=hW
 have hA:DataW.TrodAll enc Tryz.prog W 0 (fun _=>true) true Tryz.f13.params.toList args.toList ds p:=hA0
 rw [Tryz.params13] at hA
 obtain ⟨v0,vs0,d0,ds0,p0,q0,hargs,rfl,rfl,h0,r0⟩:=trodAll_cons hA
 obtain ⟨rfl,rfl,rfl⟩:=trodAll_nil r0
 obtain rfl:args=#[v0]:=by cases args;simp_all
 obtain ⟨rfl,rfl⟩:=trodVars_none hV
 obtain ⟨fuel,htr⟩:=h0
 obtain ⟨qa,ql,qc,rfl⟩:=okWide_slice Tryz.underlying22 (hval 0 22 v0 kr rfl)
 obtain ⟨v1,code,hv1,hrv,hcb⟩:=Z8l htr
 have hv1:[Value.slice qa ql qc]=[v1]:=hv1
 cases hv1
 have hh:Yq W (GA W) []:=⟨(fun r hr=>by cases hr),List.Pairwise.nil,(fun r hr=>by cases hr),fun b o hg=>hg⟩
 refine (Z6a code hcb W (GA W) [.slice qa ql qc] (.cons hrv .nil) hh).mono ?_
 rintro e W' ⟨v,r,h',G',rfl,⟨rfl,rfl⟩,hv,hh',hx⟩
 have hvb:=hv.val_inv
 subst hvb
 refine ⟨_,rfl,[d0],[],p0++[]++[],[],p0++[],[],hW',?_,?_,rfl,?_,(fun h=>by cases h)⟩
 ·exact trodAll_cons_mk (shut_bool Tryz.underlying4 _) trodAll_mk0
 ·have EM:∀b,b<W.heap.size->W'.heap[b]? = W.heap[b]?:=P0 hx
  have hlt:=hW'.lt
  have hcar:DataW.TrodAll enc Tryz.prog W' 0 (fun _=>true) true Tryz.f13.params.toList [.slice qa ql qc] [d0] (p0++[]):=by
   rw [Tryz.params13]
   refine ⟨p0,[],⟨fuel,DataW.trod_carry fuel 22 _ _ htr fun y hy=>?_⟩,rfl,rfl⟩
   have hyl:=hlt y (by simpa using hy)
   cases y with
   | cell b o=>exact Sd (EM b hyl)
   | map b=>exact EM b hyl
  exact DataW.TrodAll.respare kids Z21 (by rw [Tryz.params13];intro t ht;rw [List.mem_singleton.1 ht];exact Z72 kr) hcar (fun y hy=>by have:=hlt y (by simpa using hy);simpa using this)
 ·refine ⟨hx.os,hx.output,fun i hi=>?_⟩
  rw [P0 hx i hi]
  cases W.heap[i]? with
  | none=>rfl
  | some o=>cases o<;>first | rfl | exact ⟨rfl,rfl,rfl,fun _ _=>rfl⟩ | exact .inr ⟨rfl,rfl⟩
set_option maxRecDepth 100000 in
theorem Z6y (os:Os) (started:os.Started) (H:Type) (enc:TypeId × Value->H) (F:Stop.Interp) :
  ReturnsInHanded {} Tryz.checked os 13 .any ((Rows.OpenSpec.upto Rows.fnPlainOfStepsSpec).pre6 enc Tryz.prog Tryz.f13 Rows.fnPlainOfStepsUptoRow.domain false) (((Rows.OpenSpec.upto Rows.fnPlainOfStepsSpec).at F).post enc Tryz.prog Tryz.f13 false true false false):=by
 refine returnsInHanded_of_cond (C:=Tryz.checked) (s:=Rows.OpenSpec.upto Rows.fnPlainOfStepsSpec) (k:=Rows.uptoSmall) rfl own started kr Tryz.func13
  (OpenSpec.witness (enc:=enc) (C:=Tryz.checked) (s:=Rows.OpenSpec.upto Rows.fnPlainOfStepsSpec) (k:=Rows.uptoSmall) rfl false ⟨#[],#[.slice none 0 0],[]⟩ 8 kr kr kr
   (x:=([.nil],[],[])) kr rfl kr) ?_
 intro W base args ds gs before hval hW _ hk _
 exact SQ H enc W base args ds gs before hval hW
theorem RD {a b:Bool} (ha:a=true) (hb:b=true):(a&&b)=true:=by rw [ha,hb];rfl
set_option maxHeartbeats 4000000 in
theorem Si:joinedFacts Tryz.pinned.checked.prog 13 Tryz.f13 (Rows.OpenSpec.upto Rows.fnPlainOfStepsSpec).bare Rows.fnPlainOfStepsUptoRow=true:=by
 unfold joinedFacts
 iterate 31 refine RD ?_ (by as_aux_lemma=>kernel_rfl)
 as_aux_lemma=>kernel_rfl
theorem Z88:Rows.fnPlainOfStepsUptoRow.holds Tryz.pinned (Rows.OpenSpec.upto Rows.fnPlainOfStepsSpec):=
 OpenClaim.holds_of_cond 13 Tryz.f13 rfl rfl rfl rfl rfl rfl rfl ⟨rfl,rfl,rfl,rfl,rfl⟩ rfl rfl rfl rfl rfl (by as_aux_lemma=>kernel_rfl) Tryz.func13 Si
  (of_decide_eq_true kr) (by unfold Func.isWrapper;first|(rw [if_pos (by decide +kernel)];kernel_rfl)|(rw [if_neg (by decide +kernel)];exact ⟨rfl,rfl⟩))
  (fun os started H enc _ F=>Z6y os started H enc F)
theorem proved:Rows.FnPlainOfStepsUptoSaid:=
 Z88
#print axioms proved
end Go.Proofs.YthllacimcjakdaaGreat.fnPlainOfSteps
end
