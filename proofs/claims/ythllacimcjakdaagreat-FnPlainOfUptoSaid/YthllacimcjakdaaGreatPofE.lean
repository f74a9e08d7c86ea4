/-
  FnPlainOfUptoSaid: the law FnPlainOf returns true at every argument of bulk at most 1048576, and the argument reads behind the call as it read before.
-/
import Derived.Test.YthllacimcjakdaaGreatPofD
import Derived.Test.YthllacimcjakdaaGreatRows
import Derived.WalkKit
import Derived.ProofKit
import Derived.OpenShut
import Derived.JoinedCond
import Derived.ReadAgain
set_option linter.all false
set_option linter.unusedVariables false
set_option linter.unusedSimpArgs false
set_option linter.unusedSectionVars false
set_option maxRecDepth 10000
set_option maxHeartbeats 4000000
namespace Go.Abs
open Go.Proofs
theorem Z2q (rd:Nat) (bs:LI) (p:Nat) (xs:LI) (ZB:∀z∈bs,0<=z/\z<=255) (hp:p+3<=1000000000:=by exact ob) (hl:xs.length<=1000000:=by exact ob):Zl 52 [.p rd 0,Z6 xs] [Yl rd bs p] (fun r h=>∃(zs:LI) (p2:Nat),r=Z6 zs/\h=[Yl rd bs p2]/\zs.length<=xs.length+1/\p<=p2/\p2<=p+3):=by
 refine ZC 32 Tryz.func52 (ar (Z0 1 (ie (ar (Z0 1 (ic [] (Ay xs) ?_))))))
 rintro _ _ ⟨v1,rfl,rfl⟩
 refine Z0 1 (ie (aq (ar (Z0 1 (Zp (JO 0 v1 xs) (Z0 2 (ib (b:=(decide ((xs.length:Int)>0))) 11 (fun Zf=>?_) (fun Zf=>?_))))))))
 ·have Y2:(xs.length:Int)>0:=(dq).1 Zf
  refine Z0 1 (ic [1] (XO rd bs p 2 (ZB:=ob)) ?_)
  rintro _ _ ⟨k1,rfl,rfl,Ym⟩
  refine Z0 2 (ie (ac (k1==0) Zs (fun Zb=>?_) (fun Zb=>?_)))
  ·refine ar (Z0 3 (Zp (JO 1 v1 xs) (ic [0] (KW rd bs (p+1) xs.length (ZB:=ob)) ?_)))
   rintro _ _ ⟨Yw,rfl,rfl,YN⟩
   refine Z0 1 (iL (Z7 [0,1,-1,7,1000,1001]) 6 1 fun v2=>ZM 0 [(22,Z6 [0,1,-1,7,1000,1001])] (ic [1] (Vq rd bs ((p+1)+1) [0,1,-1,7,1000,1001] (ZB:=ob)) ?_))
   rintro _ _ ⟨z1,rfl,rfl,YW⟩
   exact Zp (Vw 2 v1 xs (Yw:Int) Yw) (MA 2 v1 xs Yw z1 (ie (ar (Z0 2 (ie (DN 4 0 (v:=v1) (xs:=(xs.set Yw z1)) (Z9 (r2 [1] [ZT (xs.set Yw z1) v1.v] ⟨(xs.set Yw z1),((p+1)+1)+1,rfl,rfl,⟨by simp,by omega,by omega⟩⟩ (Zc.forget _ _)))))))))
  refine ak (ar (Z0 2 (iL (Z7 [0,1,2,-1,1000]) 5 1 fun v3=>ZM 0 [(28,Z6 [0,1,2,-1,1000])] (ic [1] (Vq rd bs (p+1) [0,1,2,-1,1000] (ZB:=ob)) ?_))))
  rintro _ _ ⟨z2,rfl,rfl,X9⟩
  exact iL (Z7 [z2]) 1 1 fun v4=>ZM 0 [(30,Z6 [z2])] (KY 3 v1 xs [z2] none fun v5=>Z0 1 (ie (DN 4 0 (v:=v5) (xs:=(xs++[z2])) (Z9 (r2 [2] [ZT (xs++[z2]) v5.v] ⟨(xs++[z2]),(p+1)+1,rfl,rfl,⟨by simp,by omega,by omega⟩⟩ (Zc.forget _ _))))))
 have XX:¬((xs.length:Int)>0):=Yi dq Zf
 refine Z0 4 (ie (WF (ak (ar (Z0 2 (iL (Z7 [0,1,2,-1,1000]) 5 1 fun v6=>ZM 0 [(28,Z6 [0,1,2,-1,1000])] (ic [2] (Vq rd bs p [0,1,2,-1,1000] (ZB:=ob)) ?_)))))))
 rintro _ _ ⟨z3,rfl,rfl,Wv⟩
 exact iL (Z7 [z3]) 1 1 fun v7=>ZM 0 [(30,Z6 [z3])] (KY 3 v1 xs [z3] none fun v8=>Z0 1 (ie (DN 4 0 (v:=v8) (xs:=(xs++[z3])) (Z9 (r2 [2] [ZT (xs++[z3]) v8.v] ⟨(xs++[z3]),p+1,rfl,rfl,⟨by simp,by omega,by omega⟩⟩ (Zc.forget _ _))))))
theorem Sd (s:Z4) (hz:s.sz<=1000000000:=by exact ob):Zl 127 [Ys s] [] (fun r h=>∃(v:Hd),r=.agg [.i s.op,.i s.num,.i s.into,.h v,Xb s.kids]/\h=[rV v s.args]):=by
 have hkz:=U7 s
 have haz:=T6 s
 refine ZC 33 Tryz.func127 (ar (iA (Xa s) fun b1=>iA [.i 0,.i 0,.i 0,nl,nl] fun b2=>ie (ar (iL (Yt []) 0 2 fun v1=>?_))))
 refine Z0 1 (ie (aq (ar (Z0 1 (ie (ab 0 (ZW (fun fz gz m F h=>∃(k:Nat) (v:Value),(k<=s.kids.length)/\F=sF [1,2] fz [(3,U8 (s.kids.take k) v),(4,.i k)]/\h=[Zh gz 1,Zh gz 2,.tail v 2]/\m=s.kids.length-k) _ _ _ ⟨0,v1,ob,rfl,rfl,rfl⟩ (wk [1,1,0] (fc (x:=U8 [] v1) (Zc.slh _ (Ya Yt rfl)) (Y0 fl))) ?_)))))))
 rintro m F h ⟨k,v,Y6,rfl,rfl,rfl⟩
 refine aq (ar (Z3 3 [1] (iw (Vb s.kids) (Z0 1 (ie (ZG ((k:Int)<(s.kids.length:Int)) (fun Zb=>?_) (fun Zb=>?_)))))))
 ·refine ak (aq (ab 1 (az (Z3 4 [1] ?_))))
  obtain ⟨x1,Z2⟩:=Zt s.kids k om
  have hks:=U6 Z2
  exact Zp (Zi none (k:Int) 2 (VP Z2)) (Z0 1 (Zx [] (Fv x1) (iL [ZD x1] 1 2 fun v2=>ZM 0 [(20,.sl [ZD x1] none)] (ip 3 (Yt (s.kids.take (k+1))) (Yt (s.kids.take k)) [ZD x1] v none 2 (UI _) (UQ rfl) rfl (by simp<;>omega) (by rw [Wq Z2];simp [U2]) fun v3=>Z0 1 (ie (az (Z0 1 (ZE k (Z0 1 (ie (ZI ⟨k+1,v3,ob,rfl,rfl,rfl⟩ (wk [2,2,0] (fr (ZK k fl))))))))))))))
 refine ax 0 (aD 12 (ZL 3 12 [0,1,2,3,4,5,6,7,9] [1,1,1,1] (Z8 8 (dc 8 [] [1,1,1] [b1,b1,b1] (Ay s.args) ?_))))
 rintro _ _ ⟨v4,rfl,rfl⟩
 exact Zj 1 2 [10] (Z8 11 (YA 11 1 [] [] b2 [.i s.op,.i s.num,.i s.into,.h v4,U8 (s.kids.take k) v] (de (Z9 (r3 [1] [.agg [.i s.op,.i s.num,.i s.into,.h v4,U8 (s.kids.take k) v]] [0] [(b2,b2)] ⟨v4,rfl,rfl⟩ (Zc.agg (.cons (lr _) (.cons (lr _) (.cons (lr _) (.cons (lr _) (.cons (Zc.sl _ (Ya Yt (by rw [WK om]))) .nil)))))))))))
theorem Mp (rd:Nat) (bs:LI) (p:Nat) (s:Z4) (ZB:∀z∈bs,0<=z/\z<=255) (hp:p+3<=1000000000:=by exact ob) (hz:s.sz<=100000000:=by exact ob) (hg:s.rng:=by exact ob):Zl 89 [.p rd 0,Ys s] [Yl rd bs p] (fun r h=>∃(y:Z4) (p2:Nat),r=Ys y/\h=[Yl rd bs p2]/\Vx s y/\p<=p2/\p2<=p+3):=by
 have haz:=T6 s
 have hkz:=U7 s
 refine ZC 66 Tryz.func89 (ar (iA (Xa s) fun b1=>iA [.i 0,.i 0,.i 0,nl,nl] fun b2=>ie (ar (Z3 1 [1] (ic [] (Sd s) ?_)))))
 rintro _ _ ⟨v1,rfl,rfl⟩
 refine iA [.i 0,.i 0,.i 0,nl,nl] fun b3=>Zy 0 b3 [.i s.op,.i s.num,.i s.into,.h v1,Xb s.kids] (ie (aq (ar (Z0 1 (ic [4] (XO rd bs p 6 (ZB:=ob)) ?_)))))
 rintro _ _ ⟨k1,rfl,rfl,Y2⟩
 refine ie (ab 0 (ar (Z0 2 (ie (ac (k1==0) Zs (fun Zb=>?_) (fun Zb=>?_))))))
 ·refine az (Z0 1 (iL (Z7 [14,15,16,17,6,9,12,0,1]) 9 1 fun v2=>ZM 0 [(13,Z6 [14,15,16,17,6,9,12,0,1])] (ic [1] (Vq rd bs (p+1) [14,15,16,17,6,9,12,0,1] (ZB:=ob)) ?_)))
  rintro _ _ ⟨z1,rfl,rfl,Ym⟩
  have hon:=Ym
  exact Z0 1 (Zy 2 b3 [.i z1,.i s.num,.i s.into,.h v1,Xb s.kids] (ie (ar (XF (J8 3 v1 s.args) (XF (UE 0 0 3 v1.v 1 b3 (Z7 s.args) [.i z1,.i s.num,.i s.into,.h v1,Xb s.kids] (Yu _) rfl) (Z3 1 [0] (Zy 4 b2 [.i z1,.i s.num,.i s.into,ZT s.args v1.v,Xb s.kids] (ie (Z9 (r3 [3] [.agg [.i z1,.i s.num,.i s.into,ZT s.args v1.v,Xb s.kids]] [0] [(b2,b2)] ⟨(Z4.mk z1 s.num s.into s.args s.kids),(p+1)+1,rfl,rfl,⟨by first|exact Vx.refl hg|exact Vx.of hg (by first|exact .inl rfl|exact .inr hon) (by first|exact Nat.le_succ _|(simp<;>omega)) (by first|exact .inl rfl|exact .inr rfl),by omega,by omega⟩⟩ (Zc.agg (.cons (lr _) (.cons (lr _) (.cons (lr _) (.cons (Zc.forget _ _) (.cons (lr _) .nil))))))))))))))))
 refine ar (Z0 2 (ie (ac (k1==1) Zs (fun Zg=>?_) (fun Zg=>?_))))
 ·refine az (Z0 1 (iL (Z7 [0,1,2,3,-1,1000]) 6 1 fun v3=>ZM 0 [(19,Z6 [0,1,2,3,-1,1000])] (ic [1] (Vq rd bs (p+1) [0,1,2,3,-1,1000] (ZB:=ob)) ?_)))
  rintro _ _ ⟨z2,rfl,rfl,YN⟩
  have hon:=YN
  exact Z0 1 (Zy 2 b3 [.i s.op,.i z2,.i s.into,.h v1,Xb s.kids] (ie (ar (XF (J8 3 v1 s.args) (XF (UE 0 0 3 v1.v 1 b3 (Z7 s.args) [.i s.op,.i z2,.i s.into,.h v1,Xb s.kids] (Yu _) rfl) (Z3 1 [0] (Zy 4 b2 [.i s.op,.i z2,.i s.into,ZT s.args v1.v,Xb s.kids] (ie (Z9 (r3 [3] [.agg [.i s.op,.i z2,.i s.into,ZT s.args v1.v,Xb s.kids]] [0] [(b2,b2)] ⟨(Z4.mk s.op z2 s.into s.args s.kids),(p+1)+1,rfl,rfl,⟨by first|exact Vx.refl hg|exact Vx.of hg (by first|exact .inl rfl|exact .inr hon) (by first|exact Nat.le_succ _|(simp<;>omega)) (by first|exact .inl rfl|exact .inr rfl),by omega,by omega⟩⟩ (Zc.agg (.cons (lr _) (.cons (lr _) (.cons (lr _) (.cons (Zc.forget _ _) (.cons (lr _) .nil))))))))))))))))
 refine ar (Z0 2 (ie (ac (k1==2) Zs (fun Zz=>?_) (fun Zz=>?_))))
 ·refine az (Z0 1 (iL (Z7 [1,2,0,-1,90]) 5 1 fun v4=>ZM 0 [(25,Z6 [1,2,0,-1,90])] (ic [1] (Vq rd bs (p+1) [1,2,0,-1,90] (ZB:=ob)) ?_)))
  rintro _ _ ⟨z3,rfl,rfl,YW⟩
  have hon:=YW
  exact Z0 1 (Zy 2 b3 [.i s.op,.i s.num,.i z3,.h v1,Xb s.kids] (ie (ar (XF (J8 3 v1 s.args) (XF (UE 0 0 3 v1.v 1 b3 (Z7 s.args) [.i s.op,.i s.num,.i z3,.h v1,Xb s.kids] (Yu _) rfl) (Z3 1 [0] (Zy 4 b2 [.i s.op,.i s.num,.i z3,ZT s.args v1.v,Xb s.kids] (ie (Z9 (r3 [3] [.agg [.i s.op,.i s.num,.i z3,ZT s.args v1.v,Xb s.kids]] [0] [(b2,b2)] ⟨(Z4.mk s.op s.num z3 s.args s.kids),(p+1)+1,rfl,rfl,⟨by first|exact Vx.refl hg|exact Vx.of hg (by first|exact .inl rfl|exact .inr hon) (by first|exact Nat.le_succ _|(simp<;>omega)) (by first|exact .inl rfl|exact .inr rfl),by omega,by omega⟩⟩ (Zc.agg (.cons (lr _) (.cons (lr _) (.cons (lr _) (.cons (Zc.forget _ _) (.cons (lr _) .nil))))))))))))))))
 refine ar (Z0 2 (ie (ac (k1==3) Zs (fun Yd=>?_) (fun Yd=>?_))))
 ·refine aE 9 (ZL 6 9 [0,1,2] [1] (Z8 3 (dL 3 [1] [b3] (Z7 [0,1,-1]) 3 1 fun v5=>Yg 5 5 [] [(33,Z6 [0,1,-1])] (Z8 4 (dc 4 [1] [0] [b3] (Vq rd bs (p+1) [0,1,-1] (ZB:=ob)) ?_)))))
  rintro _ _ ⟨z4,rfl,rfl,X9⟩
  have hon:=X9
  exact Z8 5 (dL 5 [1] [b3] (Z7 [z4]) 1 1 fun v6=>Yg 3 3 [] [(35,Z6 [z4])] (Z8 6 (Si 6 4 [] [] v1 s.args [z4] none fun v7=>Zj 1 2 [7] (Z8 8 (YA 8 4 [] [] b3 [.i s.op,.i s.num,.i s.into,.h v7,Xb s.kids] (de (ar (XF (J8 1 v7 (s.args++[z4])) (XF (UE 0 0 3 v7.v 1 b3 (Z7 (s.args++[z4])) [.i s.op,.i s.num,.i s.into,.h v7,Xb s.kids] (Yu _) rfl) (Z3 1 [0] (Zy 5 b2 [.i s.op,.i s.num,.i s.into,ZT (s.args++[z4]) v7.v,Xb s.kids] (ie (Z9 (r3 [4] [.agg [.i s.op,.i s.num,.i s.into,ZT (s.args++[z4]) v7.v,Xb s.kids]] [0] [(b2,b2)] ⟨(Z4.mk s.op s.num s.into (s.args++[z4]) s.kids),(p+1)+1,rfl,rfl,⟨by first|exact Vx.refl hg|exact Vx.of hg (by first|exact .inl rfl|exact .inr hon) (by first|exact Nat.le_succ _|(simp<;>omega)) (by first|exact .inl rfl|exact .inr rfl),by omega,by omega⟩⟩ (Zc.agg (.cons (lr _) (.cons (lr _) (.cons (lr _) (.cons (Zc.forget _ _) (.cons (lr _) .nil))))))))))))))))))))
 refine ar (Z0 2 (ie (ac (k1==4) Zs (fun X2=>?_) (fun X2=>?_))))
 ·refine ar (Z3 2 [1] (Zp (JO 2 v1 s.args) (Z0 1 (ie (ZG ((s.args.length:Int)>0) (fun Xd=>?_) (fun Xd=>?_))))))
  ·refine aE 12 (ZL 7 12 [0,1,2,3,4] [1,1] (dx 5 (JO 2 v1 s.args) (Zj 5 6 [7] (Va 6 8 ?_ ?_))))
   ·refine dc 6 [0] [0] [b3] (KW rd bs (p+1) s.args.length (ZB:=ob)) ?_
    rintro _ _ ⟨Yw,rfl,rfl,XX⟩
    refine Z8 8 (dL 8 [1] [b3] (Z7 [0,1,2,3,-1,99]) 6 1 fun v8=>Yg 3 3 [] [(52,Z6 [0,1,2,3,-1,99])] (Z8 9 (dc 9 [1] [0] [b3] (Vq rd bs ((p+1)+1) [0,1,2,3,-1,99] (ZB:=ob)) ?_)))
    rintro _ _ ⟨z5,rfl,rfl,Wv⟩
    have hon:=Wv
    exact dx 10 (Vw 3 v1 s.args (Yw:Int) Yw) (Z8 11 (Ab 11 3 [] [] v1 s.args Yw z5 (de (ar (XF (J8 0 v1 (s.args.set Yw z5)) (XF (UE 0 2 3 v1.v 1 b3 (Z7 (s.args.set Yw z5)) [.i s.op,.i s.num,.i s.into,.h v1,Xb s.kids] (Yu _) rfl) (Z3 1 [0] (Zy 4 b2 [.i s.op,.i s.num,.i s.into,ZT (s.args.set Yw z5) v1.v,Xb s.kids] (ie (Z9 (r3 [3] [.agg [.i s.op,.i s.num,.i s.into,ZT (s.args.set Yw z5) v1.v,Xb s.kids]] [0] [(b2,b2)] ⟨(Z4.mk s.op s.num s.into (s.args.set Yw z5) s.kids),((p+1)+1)+1,rfl,rfl,⟨by first|exact Vx.refl hg|exact Vx.of hg (by first|exact .inl rfl|exact .inr hon) (by first|exact Nat.le_succ _|(simp<;>omega)) (by first|exact .inl rfl|exact .inr rfl),by omega,by omega⟩⟩ (Zc.agg (.cons (lr _) (.cons (lr _) (.cons (lr _) (.cons (Zc.forget _ _) (.cons (lr _) .nil)))))))))))))))))
   refine dL 8 [1,1] [b3,b3] (Z7 [0,1,2,3,-1,99]) 6 1 fun v9=>Z8 6 (dc 6 [1] [0] [b3] (KW rd bs (p+1) s.args.length (ZB:=ob)) ?_)
   rintro _ _ ⟨YP,rfl,rfl,V7⟩
   refine Yg 3 3 [] [(52,Z6 [0,1,2,3,-1,99])] (Z8 9 (dc 9 [0] [0] [b3] (Vq rd bs ((p+1)+1) [0,1,2,3,-1,99] (ZB:=ob)) ?_))
   rintro _ _ ⟨z6,rfl,rfl,Vf⟩
   have hon:=Vf
   exact dx 10 (Vw 3 v1 s.args (YP:Int) YP) (Z8 11 (Ab 11 3 [] [] v1 s.args YP z6 (de (ar (XF (J8 0 v1 (s.args.set YP z6)) (XF (UE 0 2 3 v1.v 1 b3 (Z7 (s.args.set YP z6)) [.i s.op,.i s.num,.i s.into,.h v1,Xb s.kids] (Yu _) rfl) (Z3 1 [0] (Zy 4 b2 [.i s.op,.i s.num,.i s.into,ZT (s.args.set YP z6) v1.v,Xb s.kids] (ie (Z9 (r3 [3] [.agg [.i s.op,.i s.num,.i s.into,ZT (s.args.set YP z6) v1.v,Xb s.kids]] [0] [(b2,b2)] ⟨(Z4.mk s.op s.num s.into (s.args.set YP z6) s.kids),((p+1)+1)+1,rfl,rfl,⟨by first|exact Vx.refl hg|exact Vx.of hg (by first|exact .inl rfl|exact .inr hon) (by first|exact Nat.le_succ _|(simp<;>omega)) (by first|exact .inl rfl|exact .inr rfl),by omega,by omega⟩⟩ (Zc.agg (.cons (lr _) (.cons (lr _) (.cons (lr _) (.cons (Zc.forget _ _) (.cons (lr _) .nil)))))))))))))))))
  exact ak (ar (XF (J8 2 v1 s.args) (XF (UE 0 1 3 v1.v 1 b3 (Z7 s.args) [.i s.op,.i s.num,.i s.into,.h v1,Xb s.kids] (Yu _) rfl) (Z3 1 [0] (Zy 3 b2 [.i s.op,.i s.num,.i s.into,ZT s.args v1.v,Xb s.kids] (ie (Z9 (r3 [3] [.agg [.i s.op,.i s.num,.i s.into,ZT s.args v1.v,Xb s.kids]] [0] [(b2,b2)] ⟨s,p+1,rfl,rfl,⟨by first|exact Vx.refl hg|exact Vx.of hg (by first|exact .inl rfl|exact .inr hon) (by first|exact Nat.le_succ _|(simp<;>omega)) (by first|exact .inl rfl|exact .inr rfl),by omega,by omega⟩⟩ (Zc.agg (.cons (lr _) (.cons (lr _) (.cons (lr _) (.cons (Zc.forget _ _) (.cons (lr _) .nil))))))))))))))
 refine ar (Z0 2 (ie (ac (k1==5) Zs (fun Vr=>?_) (fun Vr=>?_))))
 ·refine ar (Z3 2 [1] (iw (Vb s.kids) (Z0 1 (ie (ZG ((s.kids.length:Int)>0) (fun Ve=>?_) (fun Ve=>?_))))))
  ·exact az (Z3 2 [1] (Zp (Kt (es:=Yt s.kids) (hv:=none) (l:=1) (m:=(((Yt s.kids).length:Nat):Int)) (sz:=2) (es':=Yt (s.kids.drop 1)) kr om (by simp<;>omega) (by simp<;>omega) (UI _) (by first|(simp only [VU,Vd,Gu,Gt];done)|(simp only [VU,Vd,Gu,Gt];rfl)|(simp [Gu,Gt];done))) (Z0 1 (Zy 1 b3 [.i s.op,.i s.num,.i s.into,.h v1,Xb (s.kids.drop 1)] (ie (ar (XF (J8 2 v1 s.args) (XF (UE 0 0 3 v1.v 1 b3 (Z7 s.args) [.i s.op,.i s.num,.i s.into,.h v1,Xb (s.kids.drop 1)] (Yu _) rfl) (Z3 1 [0] (Zy 3 b2 [.i s.op,.i s.num,.i s.into,ZT s.args v1.v,Xb (s.kids.drop 1)] (ie (Z9 (r3 [3] [.agg [.i s.op,.i s.num,.i s.into,ZT s.args v1.v,Xb (s.kids.drop 1)]] [0] [(b2,b2)] ⟨(Z4.mk s.op s.num s.into s.args (s.kids.drop 1)),p+1,rfl,rfl,⟨by first|exact Vx.refl hg|exact Vx.of hg (by first|exact .inl rfl|exact .inr hon) (by first|exact Nat.le_succ _|(simp<;>omega)) (by first|exact .inl rfl|exact .inr rfl),by omega,by omega⟩⟩ (Zc.agg (.cons (lr _) (.cons (lr _) (.cons (lr _) (.cons (Zc.forget _ _) (.cons (lr _) .nil)))))))))))))))))))
  exact ak (ar (XF (J8 2 v1 s.args) (XF (UE 0 1 3 v1.v 1 b3 (Z7 s.args) [.i s.op,.i s.num,.i s.into,.h v1,Xb s.kids] (Yu _) rfl) (Z3 1 [0] (Zy 3 b2 [.i s.op,.i s.num,.i s.into,ZT s.args v1.v,Xb s.kids] (ie (Z9 (r3 [3] [.agg [.i s.op,.i s.num,.i s.into,ZT s.args v1.v,Xb s.kids]] [0] [(b2,b2)] ⟨s,p+1,rfl,rfl,⟨by first|exact Vx.refl hg|exact Vx.of hg (by first|exact .inl rfl|exact .inr hon) (by first|exact Nat.le_succ _|(simp<;>omega)) (by first|exact .inl rfl|exact .inr rfl),by omega,by omega⟩⟩ (Zc.agg (.cons (lr _) (.cons (lr _) (.cons (lr _) (.cons (Zc.forget _ _) (.cons (lr _) .nil))))))))))))))
 exact ak (ar (XF (J8 2 v1 s.args) (XF (UE 0 1 3 v1.v 1 b3 (Z7 s.args) [.i s.op,.i s.num,.i s.into,.h v1,Xb s.kids] (Yu _) rfl) (Z3 1 [0] (Zy 3 b2 [.i s.op,.i s.num,.i s.into,ZT s.args v1.v,Xb s.kids] (ie (Z9 (r3 [3] [.agg [.i s.op,.i s.num,.i s.into,ZT s.args v1.v,Xb s.kids]] [0] [(b2,b2)] ⟨s,p+1,rfl,rfl,⟨by first|exact Vx.refl hg|exact Vx.of hg (by first|exact .inl rfl|exact .inr hon) (by first|exact Nat.le_succ _|(simp<;>omega)) (by first|exact .inl rfl|exact .inr rfl),by omega,by omega⟩⟩ (Zc.agg (.cons (lr _) (.cons (lr _) (.cons (lr _) (.cons (Zc.forget _ _) (.cons (lr _) .nil))))))))))))))
theorem Z2g (rd:Nat) (bs:LI) (p:Nat) (mx:Int) (ZB:∀z∈bs,0<=z/\z<=255) (hp:p+1<=1000000000):Zl 50 [.p rd 0,.i mx] [Yl rd bs p] (fun r h=>∃(k:Int),r=.i k/\h=[.obj rd [VG bs,.i (p+1:Nat)]]/\Pk mx k/\k=JL bs p mx):=by
 refine ZC 99 Tryz.func50 (ar (Z0 1 (ie (ar (Z3 5 [0] (ZE p (Z0 2 (Zy 0 rd [VG bs,.i (p+1:Nat)] (ie (aq (ar (X8 [0,1] [(24,.b ((decide (mx<1))||((bs.length:Int)==0)))] (fun gz=>gz) ?_ ?_))))))))))))
 ·refine Z0 3 (ib (b:=(decide (mx<1))) 17 (fun Zf=>?_) (fun Zf=>?_))
  ·exact Z0 7 (ie (wk [0] (Zq true Zf fl)))
  exact Z3 4 [0] (iw (QQ bs) (Z0 2 (ie (wk [0] (Zq ((bs.length:Int)==0) Zf fl)))))
 refine ac ((decide (mx<1))||((bs.length:Int)==0)) (p:=(mx<1)∨((bs.length:Int)=0)) (Yo dq Zs) (fun Zb=>?_) (fun Zb=>?_)
 ·exact ar (Z0 1 (ie (Z9 (r1 [0] ⟨0,rfl,rfl,⟨Pk.zero,by rw [JL,Zk om]⟩⟩))))
 refine ak (ar (Z3 4 [0] (ia ((p:Int)) ((((p+1:Nat):Int))-(1)) (Z0 1 (ie (aq (ar (Z3 5 [0] (iw (QQ bs) (Z0 1 (ie (ZG ((p:Int)<(bs.length:Int)) (fun Zg=>?_) (fun Zg=>?_)))))))))))))
 ·refine ar (Z3 5 [0] ?_)
  obtain ⟨x1,Z2⟩:=Zt bs p om
  have hz:=ZB _ (ZZ Z2)
  exact Zp (Zi none (p:Int) 1 (BE Z2)) (Z0 1 (Zp (BZ x1 om) (Z0 1 (Zp (D5 x1 mx om om) (Z0 1 (ie (Z9 (r1 [0] ⟨(x1 % mx),rfl,rfl,⟨Pk.rem om om,by rw [JL,Za om,Zk om,Z2];rfl⟩⟩))))))))
 have hq1:p / bs.length<=p:=Nat.div_le_self _ _
 have hq0:(0:Int)<=((p / bs.length:Nat):Int):=Int.natCast_nonneg _
 refine ak (aD 46 (ZL 37 46 [0,1,2,3,4,5,6,7,8] [0,0] (dw 9 (QQ bs) (dx 10 (EK p bs.length om om) ?_))))
 obtain ⟨x2,Zo⟩:=Zt bs (p % bs.length) (Nat.mod_lt _ om)
 have hz:=ZB _ (ZZ Zo)
 have hy2:=Zo
 refine dx 11 (Zi none ((p % bs.length:Nat):Int) 1 (BE Zo)) (Zj 33 34 [12] (dx 13 (BZ x2 om) (da 14 ((x2*131)) ((x2)*(131)) (ZL 26 31 [15,16,17,18,19] [0] (da 20 (((p*7:Nat):Int)) (((p:Int))*(7)) (da 21 (((p*7+3:Nat):Int)) ((((p*7:Nat):Int))+(3)) (ZL 20 24 [22,23,24,25] [0] (dw 26 (QQ bs) (dx 27 (EK (p*7+3) bs.length om om) ?_)))))))))
 obtain ⟨x3,YH⟩:=Zt bs ((p*7+3) % bs.length) (Nat.mod_lt _ om)
 have hz3:=ZB _ (ZZ YH)
 have hy3:=YH
 exact dx 28 (Zi none (((p*7+3) % bs.length:Nat):Int) 1 (BE YH)) (Zj 16 17 [29] (dx 30 (BZ x3 om) (da 31 ((x3*1117)) ((x3)*(1117)) (da 32 (((x2*131)+(x3*1117))) (((x2*131))+((x3*1117))) (Zj 12 13 [33] (da 34 (((p*29:Nat):Int)) (((p:Int))*(29)) (da 35 ((((x2*131)+(x3*1117))+((p*29:Nat):Int))) ((((x2*131)+(x3*1117)))+(((p*29:Nat):Int))) (ZL 5 10 [36,37,38,39,40] [0] (dw 41 (QQ bs) (dx 42 (Bc p bs.length om om) (da 43 ((((p / bs.length:Nat):Int)*53)) ((((p / bs.length:Nat):Int))*(53)) (da 44 (((((x2*131)+(x3*1117))+((p*29:Nat):Int))+(((p / bs.length:Nat):Int)*53))) (((((x2*131)+(x3*1117))+((p*29:Nat):Int)))+((((p / bs.length:Nat):Int)*53))) (Zj 0 1 [45] (de (ar (Z0 2 (Zp (Hk ((((x2*131)+(x3*1117))+((p*29:Nat):Int))+(((p / bs.length:Nat):Int)*53)) 64 om om) (Zp (MQ ((((x2*131)+(x3*1117))+((p*29:Nat):Int))+(((p / bs.length:Nat):Int)*53)) (((((x2*131)+(x3*1117))+((p*29:Nat):Int))+(((p / bs.length:Nat):Int)*53)) / 64)) (Z0 1 (ie (ar (Z0 2 (Zp (D5 (JQ ((((x2*131)+(x3*1117))+((p*29:Nat):Int))+(((p / bs.length:Nat):Int)*53)) (((((x2*131)+(x3*1117))+((p*29:Nat):Int))+(((p / bs.length:Nat):Int)*53)) / 64)) mx om (FH ⟨by omega,by omega⟩ ⟨by omega,by omega⟩).1) (Z0 1 (ie (Z9 (r1 [0] ⟨((JQ ((((x2*131)+(x3*1117))+((p*29:Nat):Int))+(((p / bs.length:Nat):Int)*53)) (((((x2*131)+(x3*1117))+((p*29:Nat):Int))+(((p / bs.length:Nat):Int)*53)) / 64)) % mx),rfl,rfl,⟨Pk.rem (FH ⟨by omega,by omega⟩ ⟨by omega,by omega⟩).1 om,by rw [JL,Za om,Za om,hy2,hy3];rfl⟩⟩)))))))))))))))))))))))))))
theorem Z2h (rd:Nat) (bs:LI) (p:Nat) (mx:Nat) (ZB:∀z∈bs,0<=z/\z<=255) (hp:p+1<=1000000000:=by exact ob) (hmx:0<mx:=by exact ob):Zl 50 [.p rd 0,.i mx] [Yl rd bs p] (fun r h=>∃(kn:Nat),r=.i kn/\h=[.obj rd [VG bs,.i (p+1:Nat)]]/\kn<mx/\kn=(JL bs p mx).toNat):=(Z2g rd bs p mx ZB hp).mono fun r h ⟨z,hr,hh,hz,he⟩=>by
  have h0:=hz.lt om
  exact ⟨z.toNat,by rw [hr,Int.toNat_of_nonneg h0.1],hh,by omega,by rw [he]⟩
theorem Sc (s:Z4) (hz:s.sz<=1000000000):Zl 127 [Ys s] [] (fun r h=>∃(v:Hd),r=.agg [.i s.op,.i s.num,.i s.into,Z6 s.args,.h v]/\h=[rK v 2 (Ze (Yt s.kids))]):=by
 have hkz:=U7 s
 have haz:=T6 s
 refine ZC 33 Tryz.func127 (ar (iA (Xa s) fun b1=>iA [.i 0,.i 0,.i 0,nl,nl] fun b2=>ie (ar (BV 2 fun g1=>?_))))
 refine Z0 1 (ie (aq (ar (Z0 1 (ie (ab 0 (ZW (fun fz gz m F h=>∃(k:Nat) (v:Hd),(k<=s.kids.length)/\F=sF [1,2] fz [(3,.h v),(4,.i k)]/\h=[Zh gz 1,Zh gz 2,rK v 2 (Ze (Yt (s.kids.take k)))]/\m=s.kids.length-k) _ _ _ ⟨0,(⟨some ⟨g1,0,none⟩,0,0⟩:Hd),ob,rfl,rfl,rfl⟩ (wk [1,1,0] (fr (Y0 fl)) (e:=(rc (rc (rr (ls:=[]) ob rz))))) ?_)))))))
 rintro m F h ⟨k,v,Y6,rfl,rfl,rfl⟩
 refine aq (ar (Z3 3 [1] (iw (Vb s.kids) (Z0 1 (ie (ZG ((k:Int)<(s.kids.length:Int)) (fun Zb=>?_) (fun Zb=>?_)))))))
 ·refine ak (aq (ab 1 (az (Z3 4 [1] ?_))))
  obtain ⟨x1,Z2⟩:=Zt s.kids k om
  have hks:=U6 Z2
  exact Zp (Zi none (k:Int) 2 (VP Z2)) (Z0 1 (Zx [] (Fv x1) (iL [ZD x1] 1 2 fun v1=>ZM 0 [(20,.sl [ZD x1] none)] (ED 3 k v 2 (Ze (Yt (s.kids.take k))) [ZD x1] none (by rw [CK,Ws,Vj om]) (UQ rfl) rfl (List.cons_ne_nil _ _) (by simp<;>omega) fun v2=>Z0 1 (ie (az (Z0 1 (ZE k (Z0 1 (ie (ZI ⟨k+1,v2,ob,rfl,rfl,rfl⟩ (wk [2,2,0] (fr (ZK k fl)) (e:=(rc (rc (rr (ls:=Ze (Yt (s.kids.take k))++Ze [ZD x1]) (Z0j Z2) rz))))))))))))))))
 refine ax 0 (aD 12 (ZL 3 12 [0,1,2,3,4,5,6,7,9] [1,1,1,1] (Z8 8 (dc 8 [] [1,1,1] [b1,b1,b1] (VI s.args) ?_))))
 rintro _ _ ⟨v3,rfl,rfl⟩
 exact Zj 1 2 [10] (Z8 11 (YA 11 1 [] [] b2 [.i s.op,.i s.num,.i s.into,ZT s.args v3,.h v] (de (Z9 (r3 [3] [.agg [.i s.op,.i s.num,.i s.into,ZT s.args v3,.h v]] [0] [(b2,b2)] ⟨v,rfl,rfl⟩ (Zc.agg (.cons (lr _) (.cons (lr _) (.cons (lr _) (.cons (Zc.forget _ _) (.cons (lr _) .nil)))))) (eq:=(rr (ls:=Ze (Yt (s.kids.take k))) (by rw [WK om]) rz)))))))
theorem Sb (s:Z4) (fl:Bool) (hz:s.sz<=1000000000:=by exact ob):Zl 127 [Ys s] [] (fun r h=>(∃(v:Hd),r=.agg [.i s.op,.i s.num,.i s.into,Z6 s.args,.h v]/\h=[rK v 2 (Ze (Yt s.kids))]/\fl=true)∨(r=Ys s/\h=[]/\fl=false)):=by
 cases fl with
 | true=>exact (Sc s hz).mono fun r h ⟨v,hr,hh⟩=>.inl ⟨v,hr,hh,rfl⟩
 | false=>exact (P6 s hz).mono fun r h ⟨hr,hh⟩=>.inr ⟨hr,hh,rfl⟩
theorem S8 (b:Z5) (kk:Nat) (hz:b.sz<=1000000000:=by exact ob) (hkk:kk<b.steps.length:=by exact ob):Zl 86 [ZD b] [] (fun r h=>∃(v:Hd) (u:Hd),r=.agg [.h v,.i b.result]/\h=[rK v 5 (Ww b kk u.v b.steps.length),rK u 2 (Uz b kk b.steps.length)]):=by
 have hbz:=WX b
 refine ZC 28 Tryz.func86 (ar (iA (YR b) fun b1=>iA [nl,.i 0] fun b2=>ie (ar (BV 5 fun g1=>Z3 3 [2] (iA [nl,.i 0] fun b3=>?_)))))
 refine Zy 0 b3 [.ms g1 0 0 0,.i b.result] (ie (aq (ar (XF (Io (k:=2)) (Z0 1 (ie (ab 0 (ZW (fun fz gz m F h=>∃(k:Nat) (v:Hd) (u:Hd),(k<=b.steps.length)/\F=sF [1,2,3] fz [(4,.i k)]/\h=[.obj b3 [.h v,.i b.result],Zh gz 3,Zh gz 4,rK v 5 (Ww b kk u.v k),rK u 2 (Uz b kk k)]/\m=b.steps.length-k) _ _ _ ⟨0,(⟨some ⟨g1,0,none⟩,0,0⟩:Hd),hN,ob,rfl,rfl,rfl⟩ (wk [1,2,2,1,0] (Y0 fl) (e:=(rc (rc (rc (rr (ls:=[]) (by first|exact MT.symm|exact MW.symm) (rr (ls:=[]) (by first|exact MT.symm|exact MW.symm) rz))))))) ?_))))))))
 rintro m F h ⟨k,v,u,Y6,rfl,rfl,rfl⟩
 refine aq (ar (Z3 3 [2] (iw (WS b.steps) (Z0 1 (ie (ZG ((k:Int)<(b.steps.length:Int)) (fun Zb=>?_) (fun Zb=>?_)))))))
 ·refine ak (aq (ab 1 (aE 12 (ZL 7 12 [0,1,2,3,4] [0,2] ?_))))
  obtain ⟨x1,Z2⟩:=Zt b.steps k om
  have hss:=TU Z2
  refine dx 5 (Zi none (k:Int) 5 (W6 Z2)) (Zj 5 6 [6] (Z8 7 (dc 7 [] [0] [b3] (Sb x1 (decide (k=kk))) ?_)))
  rintro _ _ (⟨v1,rfl,rfl,Y2⟩|⟨rfl,rfl,Ym⟩)
  ·have hke:k=kk:=of_decide_eq_true Y2
   exact E3 (Py [1,1,1,0,0,0] (h':=[.obj b3 [.h v,.i b.result],.obj b2 [nl,.i 0],.obj b1 (YR b),rK v1 2 (Ze (Yt x1.kids)),rK v 5 (Ww b kk u.v k),rK u 2 (Uz b kk k)]) (d:=[]) kr) (Z8 8 (dL 8 [0] [b3] [.agg [.i x1.op,.i x1.num,.i x1.into,Z6 x1.args,.h v1]] 1 5 fun v2=>Yg 3 3 [] [(24,.sl [.agg [.i x1.op,.i x1.num,.i x1.into,Z6 x1.args,.h v1]] none)] (Z8 9 (Gl 9 5 k [] [] v 5 (Ww b kk u.v k) [.agg [.i x1.op,.i x1.num,.i x1.into,Z6 x1.args,.h v1]] none (Hn om) (UQ rfl) rfl (List.cons_ne_nil _ _) (by simp<;>omega) fun v3=>Zj 1 2 [10] (Z8 11 (YA 11 2 [] [] b3 [.h v3,.i b.result] (de (az (Z0 1 (ZE k (Z0 1 (ie (ZI ⟨k+1,v3,v1,ob,rfl,rfl,rfl⟩ (wk [0,2,2,0,1] (ZK k fl) (e:=(rc (rc (rc (rr (ls:=Ww b kk u.v k++Ze [.agg [.i x1.op,.i x1.num,.i x1.into,Z6 x1.args,.h v1]]) (by first|(subst hke;exact MS Z2)|(subst hke;exact MV Z2)) (rr (ls:=Ze (Yt x1.kids)) (by first|(subst hke;exact MS Z2)|(subst hke;exact MV Z2)) rz))))))))))))))))))))
  have hke:¬k=kk:=of_decide_eq_false Ym
  exact Z8 8 (dL 8 [0] [b3] [Ys x1] 1 5 fun v4=>Yg 3 3 [] [(24,.sl [Ys x1] none)] (Z8 9 (Gl 9 4 k [] [] v 5 (Ww b kk u.v k) [Ys x1] none (Hn om) (UQ rfl) rfl (List.cons_ne_nil _ _) (by simp<;>omega) fun v5=>Zj 1 2 [10] (Z8 11 (YA 11 2 [] [] b3 [.h v5,.i b.result] (de (az (Z0 1 (ZE k (Z0 1 (ie (ZI ⟨k+1,v5,u,ob,rfl,rfl,rfl⟩ (wk [0,2,2,0,1] (ZK k fl) (e:=(rc (rc (rc (rr (ls:=Ww b kk u.v k++Ze [Ys x1]) (by first|exact MR Z2 hke|exact MU hke) (rr (ls:=Uz b kk k) (by first|exact MR Z2 hke|exact MU hke) rz)))))))))))))))))))
 exact ax 0 (ar (Z3 1 [0] (Zy 1 b2 [.h v,.i b.result] (ie (Z9 (r3 [3,3] [.agg [.h v,.i b.result]] [0] [(b2,b2)] ⟨v,u,rfl,rfl⟩ (lr _) (eq:=(rr (ls:=Ww b kk u.v k) (by rw [show k=b.steps.length by omega]) (rr (ls:=Uz b kk k) (by rw [show k=b.steps.length by omega]) rz)))))))))
theorem Z2o (rd:Nat) (bs:LI) (p:Nat) (b:Z5) (ZB:∀z∈bs,0<=z/\z<=255) (hp:p+(10*b.sz)<=1000000000) (hz:b.sz<=20000000) (hg:b.rng) (h0:b.steps.length=0):Zl 53 [.p rd 0,ZD b] [Yl rd bs p] (fun r h=>∃(y:Z5) (p2:Nat),r=ZD y/\h=[Yl rd bs p2]/\Xl b y/\p<=p2/\p2<=p+(10*b.sz)):=by
 have hbp:=b.sz_pos
 refine ZC 109 Tryz.func53 (ar (iA (YR b) fun b1=>iA [nl,.i 0] fun b2=>ie (ar (Z3 1 [1] (Zx [] (Fv b) (iA [nl,.i 0] fun b3=>Zy 0 b3 (YR b) (ie (aq (ar (Z3 2 [0] (iw (WS b.steps) (Z0 2 (ib (b:=((b.steps.length:Int)==0)) 14 (fun Zf=>?_) (fun Zf=>?_))))))))))))))
 ·refine Z0 4 (ie (WG (ar (Z0 1 (iL (Z7 [0,1,2,3,-1,99]) 6 1 fun v1=>ZM 0 [(20,Z6 [0,1,2,3,-1,99])] (ic [4] (Vq rd bs p [0,1,2,3,-1,99] (ZB:=ob)) ?_))))))
  rintro _ _ ⟨z1,rfl,rfl,Ym⟩
  exact Z0 1 (Zy 2 b3 [Wx b.steps,.i z1] (ie (ar (Z3 1 [0] (Zy 3 b2 [Wx b.steps,.i z1] (ie (Z9 (r3 [2] [.agg [Wx b.steps,.i z1]] [0] [(b2,b2)] ⟨(Z5.mk b.steps z1),p+1,rfl,rfl,⟨Xl.result hg _,by have:=b.sz_pos;omega,by have:=b.sz_pos;omega⟩⟩ (lr _)))))))))
 have YN:¬((b.steps.length:Int)=0):=Yi Zs Zf
 exact absurd (show (b.steps.length:Int)=0 by omega) YN
theorem Z2p (rd:Nat) (bs:LI) (p:Nat) (b:Z5) (ZB:∀z∈bs,0<=z/\z<=255) (hp:p+(10*b.sz)<=1000000000) (hz:b.sz<=20000000) (hg:b.rng) (h0:0<b.steps.length) (ih:∀(rd:Nat) (bs:LI) (p:Nat) (b2:Z5),(∀z∈bs,0<=z/\z<=255)->(p+(10*b2.sz)<=1000000000)->(b2.sz<=20000000)->(b2.rng)->(b2.sz<b.sz)->Zl 53 [.p rd 0,ZD b2] [Yl rd bs p] (fun r h=>∃(y:Z5) (p2:Nat),r=ZD y/\h=[Yl rd bs p2]/\Xl b2 y/\p<=p2/\p2<=p+(10*b2.sz))):Zl 53 [.p rd 0,ZD b] [Yl rd bs p] (fun r h=>∃(y:Z5) (p2:Nat),r=ZD y/\h=[Yl rd bs p2]/\Xl b y/\p<=p2/\p2<=p+(10*b.sz)):=by
 have hbp:=b.sz_pos
 obtain ⟨kk,hkk⟩:∃kk,kk=(JL bs (p+1) (b.steps.length:Int)).toNat:=⟨_,rfl⟩
 have hkl:kk<b.steps.length:=by have:=Z73 (bs:=bs) (p:=p+1) (mx:=(b.steps.length:Int)) om;omega
 obtain ⟨sk,hsk⟩:=Zt b.steps kk hkl
 have hsb:=TU hsk
 have hsg:=Z84 hg hsk
 have hst:=WX b
 refine ZC 109 Tryz.func53 (ar (iA (YR b) fun b1=>iA [nl,.i 0] fun b2=>ie (ar (Z3 1 [1] (ic [] (S8 b kk) ?_)))))
 rintro _ _ ⟨v1,u1,rfl,rfl⟩
 refine EC 0 b.steps.length (v:=v1) (Hn (kk:=kk) (u:=u1.v) (YU b.steps.length)) om (fun g1 c1 he1=>?_)
 subst he1
 refine XF (Py [0,1,1,1,0] (h':=[.row (.slice (some ⟨g1,0,none⟩) b.steps.length c1) 5 (Ww b kk u1.v b.steps.length),.obj b2 [nl,.i 0],.obj b1 (YR b),Yl rd bs p,rK u1 2 (Uz b kk b.steps.length)]) (d:=[]) kr) (iA [nl,.i 0] fun b3=>Zy 0 b3 [.ms g1 0 b.steps.length c1,.i b.result] (ie (aq (ar (Z3 2 [0] (io (.i b.steps.length) (.i b.steps.length) (lr _) (Z0 2 (ib (b:=((b.steps.length:Int)==0)) 14 (fun Zf=>?_) (fun Zf=>?_)))))))))
 ·have Y2:(b.steps.length:Int)=0:=(Zs).1 Zf
  exact absurd Y2 om
 have Ym:¬((b.steps.length:Int)=0):=Yi Zs Zf
 refine Z0 1 (ic [4] (XO rd bs p 5 (ZB:=ob)) ?_)
 rintro _ _ ⟨k1,rfl,rfl,YN⟩
 refine Z0 2 (ie (ac (k1==0) Zs (fun Zb=>?_) (fun Zb=>?_)))
 ·refine ar (XF (Ik 5 2 b kk sk u1.v (.slice (some ⟨g1,0,none⟩) b.steps.length c1) hsk) (XF (UE 0 2 0 (.slice (some ⟨g1,0,none⟩) b.steps.length c1) 5 b3 (Zu b.steps) [.ms g1 0 b.steps.length c1,.i b.result] (X0 _) rfl) (Z0 1 (iL (Z7 [0,1,2,3,-1,99]) 6 1 fun v2=>ZM 0 [(20,Z6 [0,1,2,3,-1,99])] (ic [4] (Vq rd bs (p+1) [0,1,2,3,-1,99] (ZB:=ob)) ?_)))))
  rintro _ _ ⟨z1,rfl,rfl,YW⟩
  exact Z0 1 (Zy 2 b3 [YD b.steps (.slice (some ⟨g1,0,none⟩) b.steps.length c1),.i z1] (ie (ar (Z3 1 [0] (Zy 5 b2 [YD b.steps (.slice (some ⟨g1,0,none⟩) b.steps.length c1),.i z1] (ie (Z9 (r3 [2] [.agg [YD b.steps (.slice (some ⟨g1,0,none⟩) b.steps.length c1),.i z1]] [0] [(b2,b2)] ⟨(Z5.mk b.steps z1),(p+1)+1,rfl,rfl,(by first|exact ⟨Xl.result hg _,by omega,by omega⟩|exact ⟨Xl.kid hg hsk hck hyb.1,by omega,by omega⟩|exact ⟨Xl.del hg,by omega,by omega⟩|exact ⟨Xl.put hg,by omega,by omega⟩|exact ⟨Xl.set hg hsk ⟨by have:=hys.1.1;omega,hys.1.2⟩,by omega,by omega⟩)⟩ (Zc.agg (.cons (Zc.forget _ _) (.cons (lr _) .nil)))))))))))
 refine ak (ar (Z3 3 [1] (io (.i b.steps.length) (.i b.steps.length) (lr _) (ic [0] (Z2h rd bs (p+1) b.steps.length (ZB:=ob)) ?_))))
 rintro _ _ ⟨Yw,rfl,rfl,X9⟩
 have hkn:Yw=kk:=by have:=X9.2;omega
 refine Z0 1 (ie (aq (ar (Z3 3 [1] (Zp (XJ g1 b.steps.length c1 Yw 5 (Yw:Int)) (Z0 1 (VE (WJ 2 g1 b.steps.length c1 5 (Yw*5+4) (Ww b kk u1.v b.steps.length) [.h u1] 42 (.h u1) (by rw [hkn];exact EN hsk)) (Zp (MP 5 sk.kids.length u1 2 (Uz b kk b.steps.length) (by rw [Ho hsk];exact CK _)) (Z0 2 (ib (b:=(decide ((sk.kids.length:Int)>0))) 37 (fun ZF=>?_) (fun ZF=>?_)))))))))))
 ·have XX:(sk.kids.length:Int)>0:=(dq).1 ZF
  refine Z0 1 (ic [0] (XO rd bs ((p+1)+1) 3 (ZB:=ob)) ?_)
  rintro _ _ ⟨k2,rfl,rfl,Wv⟩
  refine Z0 2 (ie (ZG (k2>0) (fun Zg=>?_) (fun Zg=>?_)))
  ·refine ar (XF (Cg 5 u1.v 2 (Uz b kk b.steps.length) (Ze (Yt sk.kids)) (Ho hsk)) (EC 0 sk.kids.length (v:=u1) (CK _) om (fun g2 c2 he2=>?_)))
   subst he2
   refine Z3 4 [2] (Zp (XJ g1 b.steps.length c1 Yw 5 (Yw:Int)) (Z0 1 (VE (WJ 3 g1 b.steps.length c1 5 (Yw*5+4) (Ww b kk (.slice (some ⟨g2,0,none⟩) sk.kids.length c2) b.steps.length) [.ms g2 0 sk.kids.length c2] 42 (.ms g2 0 sk.kids.length c2) (by rw [hkn];exact EN hsk)) (io (.i sk.kids.length) (.i sk.kids.length) (lr _) (ic [1] (KW rd bs (((p+1)+1)+1) sk.kids.length (ZB:=ob)) ?_)))))
   rintro _ _ ⟨YP,rfl,rfl,V7⟩
   obtain ⟨ck,hck⟩:=Zt sk.kids YP om
   have hckz:=U6 hck
   have hckb:=TU hsk
   have hckg:=Z81 hg hsk hck
   refine Z0 1 (ie (aD 20 (ZL 17 20 [0,1,2] [2] (dx 3 (XJ g1 b.steps.length c1 Yw 5 (Yw:Int)) (Zj 15 16 [4] (VO 5 (WJ 3 g1 b.steps.length c1 5 (Yw*5+4) (Ww b kk (.slice (some ⟨g2,0,none⟩) sk.kids.length c2) b.steps.length) [.ms g2 0 sk.kids.length c2] 42 (.ms g2 0 sk.kids.length c2) (by rw [hkn];exact EN hsk)) (ZL 9 14 [6,7,8,9,10] [2] (dx 11 (XJ g1 b.steps.length c1 Yw 5 (Yw:Int)) (Zj 7 8 [12] (VO 13 (WJ 3 g1 b.steps.length c1 5 (Yw*5+4) (Ww b kk (.slice (some ⟨g2,0,none⟩) sk.kids.length c2) b.steps.length) [.ms g2 0 sk.kids.length c2] 42 (.ms g2 0 sk.kids.length c2) (by rw [hkn];exact EN hsk)) (Zj 5 6 [14] (dx 15 (XJ g2 sk.kids.length c2 YP 2 (YP:Int)) (VO 16 (WJ 1 g2 sk.kids.length c2 2 (YP*2) (Ze (Yt sk.kids)) (YR ck) 30 (ZD ck) (Z0i hck)) (Z8 17 (dc 17 [0] [2,1] [g1,b3] (ih rd bs ((((p+1)+1)+1)+1) ck ob ob ob ob ob) ?_)))))))))))))))
   rintro _ _ ⟨y1,p21,rfl,rfl,Vf⟩
   have hyb:=Vf
   exact dx 18 (XJ g2 sk.kids.length c2 YP 2 (YP:Int)) (Z8 19 (Aa 19 1 [] [] g2 sk.kids.length c2 2 (YP*2) (YR y1) (Ze (Yt sk.kids)) (Ze (Yt (sk.kids.set YP y1))) (by rw [CK];simp only [YK,Xg];omega) (Z0k y1 om) (de (ar (XF (Pv 0 2 b kk sk (sk.kids.set YP y1) (.slice (some ⟨g2,0,none⟩) sk.kids.length c2) (.slice (some ⟨g1,0,none⟩) b.steps.length c1) hsk) (XF (UE 0 2 0 (.slice (some ⟨g1,0,none⟩) b.steps.length c1) 5 b3 (Zu (b.steps.set kk (Z4.mk sk.op sk.num sk.into sk.args (sk.kids.set YP y1)))) [.ms g1 0 b.steps.length c1,.i b.result] (X0 _) rfl) (Z3 1 [0] (Zy 4 b2 [YD (b.steps.set kk (Z4.mk sk.op sk.num sk.into sk.args (sk.kids.set YP y1))) (.slice (some ⟨g1,0,none⟩) b.steps.length c1),.i b.result] (ie (Z9 (r3 [4] [.agg [YD (b.steps.set kk (Z4.mk sk.op sk.num sk.into sk.args (sk.kids.set YP y1))) (.slice (some ⟨g1,0,none⟩) b.steps.length c1),.i b.result]] [0] [(b2,b2)] ⟨(Z5.mk (b.steps.set kk (Z4.mk sk.op sk.num sk.into sk.args (sk.kids.set YP y1))) b.result),p21,rfl,rfl,(by first|exact ⟨Xl.result hg _,by omega,by omega⟩|exact ⟨Xl.kid hg hsk hck hyb.1,by omega,by omega⟩|exact ⟨Xl.del hg,by omega,by omega⟩|exact ⟨Xl.put hg,by omega,by omega⟩|exact ⟨Xl.set hg hsk ⟨by have:=hys.1.1;omega,hys.1.2⟩,by omega,by omega⟩)⟩ (Zc.agg (.cons (Zc.forget _ _) (.cons (lr _) .nil))))))))))))))
  refine ak (aq (ar (XF (Ik 5 2 b kk sk u1.v (.slice (some ⟨g1,0,none⟩) b.steps.length c1) hsk) (Z0 1 (ic [2] (XO rd bs (((p+1)+1)+1) 4 (ZB:=ob)) ?_)))))
  rintro _ _ ⟨k3,rfl,rfl,UM⟩
  refine ie (ab 0 (ar (Z0 2 (ie (ac (k3==0) Zs (fun Zz=>?_) (fun Zz=>?_))))))
  ·exact aE 12 (ZL 9 12 [0,1,2] [3] (dx 3 (Hh 1 g1 b.steps.length c1 Yw 5 (Ze (Zu b.steps))) (ZL 5 8 [4,5,6] [3] (da 7 (((Yw+1:Nat):Int)) (((Yw:Int))+(1)) (dx 8 (MN 1 g1 b.steps.length c1 (Yw+1) 5 (Ze (Zu b.steps))) (Z8 9 (Lo 9 1 [] [] g1 b.steps.length c1 Yw (Yw+1) 5 (Ze (Zu b.steps)) (Vp _) (Zj 1 2 [10] (Z8 11 (YA 11 3 [] [] b3 [.ms g1 0 (Yw+(b.steps.length-(Yw+1))) c1,.i b.result] (de (ar (XF (Cg 1 (.slice (some ⟨g1,0,none⟩) (Yw+(b.steps.length-(Yw+1))) c1) 5 (((Ze (Zu b.steps)).take (Yw*5))++((Ze (Zu b.steps)).drop ((Yw+1)*5))) (Ze (Zu (b.steps.take kk++b.steps.drop (kk+1)))) (by rw [hkn];exact LV hkl)) (XF (UE 0 0 0 (.slice (some ⟨g1,0,none⟩) (Yw+(b.steps.length-(Yw+1))) c1) 5 b3 (Zu (b.steps.take kk++b.steps.drop (kk+1))) [.ms g1 0 (Yw+(b.steps.length-(Yw+1))) c1,.i b.result] (X0 _) rfl) (Z3 1 [0] (Zy 4 b2 [YD (b.steps.take kk++b.steps.drop (kk+1)) (.slice (some ⟨g1,0,none⟩) (Yw+(b.steps.length-(Yw+1))) c1),.i b.result] (ie (Z9 (r3 [3] [.agg [YD (b.steps.take kk++b.steps.drop (kk+1)) (.slice (some ⟨g1,0,none⟩) (Yw+(b.steps.length-(Yw+1))) c1),.i b.result]] [0] [(b2,b2)] ⟨(Z5.mk (b.steps.take kk++b.steps.drop (kk+1)) b.result),(((p+1)+1)+1)+1,rfl,rfl,(by first|exact ⟨Xl.result hg _,by omega,by omega⟩|exact ⟨Xl.kid hg hsk hck hyb.1,by omega,by omega⟩|exact ⟨Xl.del hg,by omega,by omega⟩|exact ⟨Xl.put hg,by omega,by omega⟩|exact ⟨Xl.set hg hsk ⟨by have:=hys.1.1;omega,hys.1.2⟩,by omega,by omega⟩)⟩ (Zc.agg (.cons (Zc.forget _ _) (.cons (lr _) .nil))))))))))))))))))))))
  refine ar (Z0 2 (ie (ac (k3==1) Zs (fun Yd=>?_) (fun Yd=>?_))))
  ·refine aD 10 (E3 (UE 1 2 0 (.slice (some ⟨g1,0,none⟩) b.steps.length c1) 5 b3 (Zu b.steps) [.ms g1 0 b.steps.length c1,.i b.result] (X0 _) rfl) (ZL 6 10 [0,1,2,5] [0] (Z8 3 (dL 3 [0] [b3] (Z7 [14,15,15,16,17]) 5 1 fun v3=>Yg 5 5 [] [(102,Z6 [14,15,15,16,17])] (Z8 4 (dc 4 [3] [0] [b3] (Vq rd bs ((((p+1)+1)+1)+1) [14,15,15,16,17] (ZB:=ob)) ?_))))))
   rintro _ _ ⟨z2,rfl,rfl,T0⟩
   refine Z8 6 (dc 6 [0] [0] [b3] (XO rd bs (((((p+1)+1)+1)+1)+1) 4 (ZB:=ob)) ?_)
   rintro _ _ ⟨k4,rfl,rfl,Uy⟩
   exact Z8 7 (Ye 7 [] [1] [b3] (J7 z2 k4) (Yg 2 2 [] [(99,ZD b)] (Z8 8 (Ye 8 [] [] [] (Ep b Yw (Zw z2 k4)) (Z8 9 (YA 9 5 [] [] b2 (YR (Z5.mk (Wc b.steps Yw (Zw z2 k4)) b.result)) (de (Z9 (r3 [1] [ZD (Z5.mk (Wc b.steps Yw (Zw z2 k4)) b.result)] [0] [(b2,b2)] ⟨(Z5.mk (Wc b.steps Yw (Zw z2 k4)) b.result),(((((p+1)+1)+1)+1)+1)+1,rfl,rfl,(by first|exact ⟨Xl.result hg _,by omega,by omega⟩|exact ⟨Xl.kid hg hsk hck hyb.1,by omega,by omega⟩|exact ⟨Xl.del hg,by omega,by omega⟩|exact ⟨Xl.put hg,by omega,by omega⟩|exact ⟨Xl.set hg hsk ⟨by have:=hys.1.1;omega,hys.1.2⟩,by omega,by omega⟩)⟩ (lr _))))))))))
  refine aE 12 (ZL 5 12 [0,1,2,3,4,5,6] [3,3] (dx 7 (XJ g1 b.steps.length c1 Yw 5 (Yw:Int)) (VO 8 (WJ 1 g1 b.steps.length c1 5 (Yw*5) (Ze (Zu b.steps)) (Xa sk) 44 (Ys sk) (by rw [hkn];exact GS hsk)) (Z8 9 (dc 9 [0] [1] [b3] (Mp rd bs ((((p+1)+1)+1)+1) sk (ZB:=ob)) ?_)))))
  rintro _ _ ⟨y2,p22,rfl,rfl,TK⟩
  have hys:=TK
  exact dx 10 (XJ g1 b.steps.length c1 Yw 5 (Yw:Int)) (Z8 11 (Aa 11 1 [] [] g1 b.steps.length c1 5 (Yw*5) (Xa y2) (Ze (Zu b.steps)) (Ze (Zu (b.steps.set kk y2))) (by rw [Q6];simp only [YK,Xg];omega) (by rw [hkn];exact Ek hsk) (de (ar (XF (UE 0 2 0 (.slice (some ⟨g1,0,none⟩) b.steps.length c1) 5 b3 (Zu (b.steps.set kk y2)) [.ms g1 0 b.steps.length c1,.i b.result] (X0 _) rfl) (Z3 1 [0] (Zy 4 b2 [YD (b.steps.set kk y2) (.slice (some ⟨g1,0,none⟩) b.steps.length c1),.i b.result] (ie (Z9 (r3 [3] [.agg [YD (b.steps.set kk y2) (.slice (some ⟨g1,0,none⟩) b.steps.length c1),.i b.result]] [0] [(b2,b2)] ⟨(Z5.mk (b.steps.set kk y2) b.result),p22,rfl,rfl,(by first|exact ⟨Xl.result hg _,by omega,by omega⟩|exact ⟨Xl.kid hg hsk hck hyb.1,by omega,by omega⟩|exact ⟨Xl.del hg,by omega,by omega⟩|exact ⟨Xl.put hg,by omega,by omega⟩|exact ⟨Xl.set hg hsk ⟨by have:=hys.1.1;omega,hys.1.2⟩,by omega,by omega⟩)⟩ (Zc.agg (.cons (Zc.forget _ _) (.cons (lr _) .nil)))))))))))))
 have Tv:¬((sk.kids.length:Int)>0):=Yi dq ZF
 refine Z0 4 (ie (WF (ak (aq (ar (XF (Ik 5 2 b kk sk u1.v (.slice (some ⟨g1,0,none⟩) b.steps.length c1) hsk) (Z0 1 (ic [2] (XO rd bs ((p+1)+1) 4 (ZB:=ob)) ?_))))))))
 rintro _ _ ⟨k5,rfl,rfl,QT⟩
 refine ie (ab 0 (ar (Z0 2 (ie (ac (k5==0) Zs (fun X2=>?_) (fun X2=>?_))))))
 ·exact aE 12 (ZL 9 12 [0,1,2] [3] (dx 3 (Hh 1 g1 b.steps.length c1 Yw 5 (Ze (Zu b.steps))) (ZL 5 8 [4,5,6] [3] (da 7 (((Yw+1:Nat):Int)) (((Yw:Int))+(1)) (dx 8 (MN 1 g1 b.steps.length c1 (Yw+1) 5 (Ze (Zu b.steps))) (Z8 9 (Lo 9 1 [] [] g1 b.steps.length c1 Yw (Yw+1) 5 (Ze (Zu b.steps)) (Vp _) (Zj 1 2 [10] (Z8 11 (YA 11 3 [] [] b3 [.ms g1 0 (Yw+(b.steps.length-(Yw+1))) c1,.i b.result] (de (ar (XF (Cg 1 (.slice (some ⟨g1,0,none⟩) (Yw+(b.steps.length-(Yw+1))) c1) 5 (((Ze (Zu b.steps)).take (Yw*5))++((Ze (Zu b.steps)).drop ((Yw+1)*5))) (Ze (Zu (b.steps.take kk++b.steps.drop (kk+1)))) (by rw [hkn];exact LV hkl)) (XF (UE 0 0 0 (.slice (some ⟨g1,0,none⟩) (Yw+(b.steps.length-(Yw+1))) c1) 5 b3 (Zu (b.steps.take kk++b.steps.drop (kk+1))) [.ms g1 0 (Yw+(b.steps.length-(Yw+1))) c1,.i b.result] (X0 _) rfl) (Z3 1 [0] (Zy 4 b2 [YD (b.steps.take kk++b.steps.drop (kk+1)) (.slice (some ⟨g1,0,none⟩) (Yw+(b.steps.length-(Yw+1))) c1),.i b.result] (ie (Z9 (r3 [3] [.agg [YD (b.steps.take kk++b.steps.drop (kk+1)) (.slice (some ⟨g1,0,none⟩) (Yw+(b.steps.length-(Yw+1))) c1),.i b.result]] [0] [(b2,b2)] ⟨(Z5.mk (b.steps.take kk++b.steps.drop (kk+1)) b.result),((p+1)+1)+1,rfl,rfl,(by first|exact ⟨Xl.result hg _,by omega,by omega⟩|exact ⟨Xl.kid hg hsk hck hyb.1,by omega,by omega⟩|exact ⟨Xl.del hg,by omega,by omega⟩|exact ⟨Xl.put hg,by omega,by omega⟩|exact ⟨Xl.set hg hsk ⟨by have:=hys.1.1;omega,hys.1.2⟩,by omega,by omega⟩)⟩ (Zc.agg (.cons (Zc.forget _ _) (.cons (lr _) .nil))))))))))))))))))))))
 refine ar (Z0 2 (ie (ac (k5==1) Zs (fun Xd=>?_) (fun Xd=>?_))))
 ·refine aD 10 (E3 (UE 1 2 0 (.slice (some ⟨g1,0,none⟩) b.steps.length c1) 5 b3 (Zu b.steps) [.ms g1 0 b.steps.length c1,.i b.result] (X0 _) rfl) (ZL 6 10 [0,1,2,5] [0] (Z8 3 (dL 3 [0] [b3] (Z7 [14,15,15,16,17]) 5 1 fun v4=>Yg 5 5 [] [(102,Z6 [14,15,15,16,17])] (Z8 4 (dc 4 [3] [0] [b3] (Vq rd bs (((p+1)+1)+1) [14,15,15,16,17] (ZB:=ob)) ?_))))))
  rintro _ _ ⟨z3,rfl,rfl,QU⟩
  refine Z8 6 (dc 6 [0] [0] [b3] (XO rd bs ((((p+1)+1)+1)+1) 4 (ZB:=ob)) ?_)
  rintro _ _ ⟨k6,rfl,rfl,Aj⟩
  exact Z8 7 (Ye 7 [] [1] [b3] (J7 z3 k6) (Yg 2 2 [] [(99,ZD b)] (Z8 8 (Ye 8 [] [] [] (Ep b Yw (Zw z3 k6)) (Z8 9 (YA 9 5 [] [] b2 (YR (Z5.mk (Wc b.steps Yw (Zw z3 k6)) b.result)) (de (Z9 (r3 [1] [ZD (Z5.mk (Wc b.steps Yw (Zw z3 k6)) b.result)] [0] [(b2,b2)] ⟨(Z5.mk (Wc b.steps Yw (Zw z3 k6)) b.result),((((p+1)+1)+1)+1)+1,rfl,rfl,(by first|exact ⟨Xl.result hg _,by omega,by omega⟩|exact ⟨Xl.kid hg hsk hck hyb.1,by omega,by omega⟩|exact ⟨Xl.del hg,by omega,by omega⟩|exact ⟨Xl.put hg,by omega,by omega⟩|exact ⟨Xl.set hg hsk ⟨by have:=hys.1.1;omega,hys.1.2⟩,by omega,by omega⟩)⟩ (lr _))))))))))
 refine aE 12 (ZL 5 12 [0,1,2,3,4,5,6] [3,3] (dx 7 (XJ g1 b.steps.length c1 Yw 5 (Yw:Int)) (VO 8 (WJ 1 g1 b.steps.length c1 5 (Yw*5) (Ze (Zu b.steps)) (Xa sk) 44 (Ys sk) (by rw [hkn];exact GS hsk)) (Z8 9 (dc 9 [0] [1] [b3] (Mp rd bs (((p+1)+1)+1) sk (ZB:=ob)) ?_)))))
 rintro _ _ ⟨y3,p23,rfl,rfl,Ko⟩
 have hys:=Ko
 exact dx 10 (XJ g1 b.steps.length c1 Yw 5 (Yw:Int)) (Z8 11 (Aa 11 1 [] [] g1 b.steps.length c1 5 (Yw*5) (Xa y3) (Ze (Zu b.steps)) (Ze (Zu (b.steps.set kk y3))) (by rw [Q6];simp only [YK,Xg];omega) (by rw [hkn];exact Ek hsk) (de (ar (XF (UE 0 2 0 (.slice (some ⟨g1,0,none⟩) b.steps.length c1) 5 b3 (Zu (b.steps.set kk y3)) [.ms g1 0 b.steps.length c1,.i b.result] (X0 _) rfl) (Z3 1 [0] (Zy 4 b2 [YD (b.steps.set kk y3) (.slice (some ⟨g1,0,none⟩) b.steps.length c1),.i b.result] (ie (Z9 (r3 [3] [.agg [YD (b.steps.set kk y3) (.slice (some ⟨g1,0,none⟩) b.steps.length c1),.i b.result]] [0] [(b2,b2)] ⟨(Z5.mk (b.steps.set kk y3) b.result),p23,rfl,rfl,(by first|exact ⟨Xl.result hg _,by omega,by omega⟩|exact ⟨Xl.kid hg hsk hck hyb.1,by omega,by omega⟩|exact ⟨Xl.del hg,by omega,by omega⟩|exact ⟨Xl.put hg,by omega,by omega⟩|exact ⟨Xl.set hg hsk ⟨by have:=hys.1.1;omega,hys.1.2⟩,by omega,by omega⟩)⟩ (Zc.agg (.cons (Zc.forget _ _) (.cons (lr _) .nil)))))))))))))
theorem Z2n (rd:Nat) (bs:LI) (p:Nat) (b:Z5) (ZB:∀z∈bs,0<=z/\z<=255) (hp:p+10*b.sz<=1000000000:=by exact ob) (hz:b.sz<=20000000:=by exact ob) (hg:b.rng:=by exact ob):Zl 53 [.p rd 0,ZD b] [Yl rd bs p] (fun r h=>∃(y:Z5) (p2:Nat),r=ZD y/\h=[Yl rd bs p2]/\Xl b y/\p<=p2/\p2<=p+(10*b.sz)):=by
 have key:∀k:Nat,∀(rd:Nat) (bs:LI) (p:Nat) (b2:Z5),(∀z∈bs,0<=z/\z<=255)->(p+(10*b2.sz)<=1000000000)->(b2.sz<=20000000)->(b2.rng)->(b2.sz<k)->Zl 53 [.p rd 0,ZD b2] [Yl rd bs p] (fun r h=>∃(y:Z5) (p2:Nat),r=ZD y/\h=[Yl rd bs p2]/\Xl b2 y/\p<=p2/\p2<=p+(10*b2.sz)):=by
  intro k
  induction k with
  | zero=>intro rd bs p b2 h1 h2 h3 h4 h5;omega
  | succ k ih=>
   intro rd bs p b2 h1 h2 h3 h4 h5
   by_cases h0:b2.steps.length=0
   ·exact Z2o rd bs p b2 h1 h2 h3 h4 h0
   ·exact Z2p rd bs p b2 h1 h2 h3 h4 om fun rd bs p b3 q1 q2 q3 q4 q5=>ih rd bs p b3 q1 q2 q3 q4 om
 exact key (b.sz+1) rd bs p b ZB hp hz hg om
theorem Mo (rd:Nat) (bs:LI) (p:Nat) (n:Zr) (often:Nat) (q:Nat) (l:Nat) (ZB:∀z∈bs,0<=z/\z<=255) (hp:p+(10*q+20)<=1000000000:=by exact ob) (hzn:ZS n q l:=by exact ob) (hq:q<=9999000:=by exact ob) (hl:l<=100:=by exact ob) (ho:0<often:=by exact ob):Zl 61 [.p rd 0,Yc n,.i often] [Yl rd bs p] (fun r h=>∃(n2:Zr) (p2:Nat),r=Yc n2/\h=[Yl rd bs p2]/\ZS n2 (q+2) (l+1)/\p<=p2/\p2<=p+(10*q+20)):=by
 have hnl:=hzn.len
 refine ZC 64 Tryz.func61 (ar (iA (Yz n) fun b1=>iA [nl,nl] fun b2=>ie (aq (ar (Z0 2 (ic [2] (KW rd bs p often (ZB:=ob)) ?_))))))
 rintro _ _ ⟨Yw,rfl,rfl,Y2⟩
 refine Z0 1 (ie (ZG ((Yw:Int)>0) (fun Zb=>?_) (fun Zb=>?_)))
 ·exact ar (Z3 1 [2] (Zy 1 b2 (Yz n) (ie (Z9 (r3 [1] [Yc n] [0] [(b2,b2)] ⟨n,p+1,rfl,rfl,(by first|exact ⟨hzn.le om om,by omega,by omega⟩|exact ⟨hzn.set hx1k om om om om hz1.2.2.2,by omega,by omega⟩|exact ⟨(hzn.le om om).ds had.1,by omega,by omega⟩|exact ⟨hzn.set hx2k om om om (by have:=hsb.1.1;omega) hsb.1.2,by omega,by omega⟩)⟩ (lr _))))))
 refine ak (ar (Z3 3 [2] (iw (Vo n.routines) (ic [0] (KW rd bs (p+1) n.routines.length (ZB:=ob)) ?_))))
 rintro _ _ ⟨YP,rfl,rfl,Ym⟩
 refine Z0 1 (ie (aq (ar (Z0 1 (ic [0] (XO rd bs ((p+1)+1) 8 (ZB:=ob)) ?_)))))
 rintro _ _ ⟨k1,rfl,rfl,YN⟩
 refine ie (ab 0 (ar (Z0 2 (ie (ac (k1==0) Zs (fun Zg=>?_) (fun Zg=>?_))))))
 ·refine aD 11 (ZL 6 11 [0,1,2,3,4] [2,2] ?_)
  obtain ⟨x1,Z2⟩:=Zt n.routines YP om
  have hx1k:=Z2
  have hz1:=hzn.rt _ (ZZ Z2)
  refine dx 5 (Zi none (YP:Int) 5 (Wk Z2)) (Zj 3 5 [6,7] (Ki (fun fz gz F h=>∃(g1:Nat) (c1:Nat) (b3:Nat),F=sF [0,6,7] fz [(8,.p b3 0)]/\h=[.obj b3 [Y8 n.decls,.ms g1 0 n.routines.length c1],.row (.slice (some ⟨g1,0,none⟩) n.routines.length c1) 5 (Ze (Yr (n.routines.set YP (ZX.mk x1.params x1.lent x1.result x1.body)))),Zh gz 0,Zh gz 1,Zh gz 2]) ?_ ?_))
  ·refine Va 8 9 ?_ ?_
   ·refine dc 8 [] [] [] (H1 n YP x1.body x1 (hr:=Z2)) ?_
    rintro _ _ ⟨g1,c1,rfl,rfl⟩
    exact Z8 9 (dA 9 [] [] [nl,nl] fun b3=>Z8 10 (YA 10 0 [] [] b3 [Y8 n.decls,.ms g1 0 n.routines.length c1] (de (ZO ⟨g1,c1,b3,rfl,rfl⟩ (ZH 5 fl)))))
   refine dA 9 [2,2] [b1,b1] [nl,nl] fun b4=>Z8 8 (dc 8 [] [] [] (H1 n YP x1.body x1 (hr:=Z2)) ?_)
   rintro _ _ ⟨g2,c2,rfl,rfl⟩
   exact Z8 10 (YA 10 1 [] [] b4 [Y8 n.decls,.ms g2 0 n.routines.length c2] (de (ZO ⟨g2,c2,b4,rfl,rfl⟩ (ZH 5 fl))))
  rintro F h ⟨g1,c1,b3,rfl,rfl⟩
  refine aD 14 (ZL 7 14 [0,1,2,3,4,5,6] [0,0] (dx 7 (XJ g1 n.routines.length c1 YP 5 (YP:Int)) (Zj 5 6 [8] (VO 9 (WJ 1 g1 n.routines.length c1 5 (YP*5+1) (Ze (Yr (n.routines.set YP (ZX.mk x1.params x1.lent x1.result x1.body)))) [Z6 x1.lent] 27 (Z6 x1.lent) (Z0p om _)) (Z8 10 (dc 10 [2] [0] [b3] (Z2q rd bs (((p+1)+1)+1) x1.lent (ZB:=ob)) ?_))))))
  rintro _ _ ⟨zs1,p21,rfl,rfl,YW⟩
  have hsi:=YW
  exact dx 11 (XJ g1 n.routines.length c1 YP 5 (YP:Int)) (Zj 1 2 [12] (Z8 13 (Aa 13 2 [] [] g1 n.routines.length c1 5 (YP*5+1) [Z6 zs1] (Ze (Yr (n.routines.set YP (ZX.mk x1.params x1.lent x1.result x1.body)))) (Ze (Yr (n.routines.set YP (ZX.mk x1.params zs1 x1.result x1.body)))) (by rw [Ei,T3];simp only [YK,Xg];omega) (Z0r om _ _) (de (ar (XF (UE 0 1 1 (.slice (some ⟨g1,0,none⟩) n.routines.length c1) 5 b3 (Yr (n.routines.set YP (ZX.mk x1.params zs1 x1.result x1.body))) [Y8 n.decls,.ms g1 0 n.routines.length c1] (VB _) rfl) (Z3 1 [0] (Zy 3 b2 [Y8 n.decls,XK (n.routines.set YP (ZX.mk x1.params zs1 x1.result x1.body)) (.slice (some ⟨g1,0,none⟩) n.routines.length c1)] (ie (Z9 (r3 [3] [.agg [Y8 n.decls,XK (n.routines.set YP (ZX.mk x1.params zs1 x1.result x1.body)) (.slice (some ⟨g1,0,none⟩) n.routines.length c1)]] [0] [(b2,b2)] ⟨(Zr.mk n.decls (n.routines.set YP (ZX.mk x1.params zs1 x1.result x1.body))),p21,rfl,rfl,(by first|exact ⟨hzn.le om om,by omega,by omega⟩|exact ⟨hzn.set hx1k om om om om hz1.2.2.2,by omega,by omega⟩|exact ⟨(hzn.le om om).ds had.1,by omega,by omega⟩|exact ⟨hzn.set hx2k om om om (by have:=hsb.1.1;omega) hsb.1.2,by omega,by omega⟩)⟩ (Zc.agg (.cons (lr _) (.cons (Zc.forget _ _) .nil))))))))))))))
 refine ar (Z0 2 (ie (ac (k1==1) Zs (fun Zz=>?_) (fun Zz=>?_))))
 ·refine aD 6 (ZL 3 6 [0,2,3] [2] (Z8 1 (dc 1 [0] [1] [b1] (Z0z rd bs (((p+1)+1)+1) (ZB:=ob)) ?_)))
  rintro _ _ ⟨dz1,p22,rfl,rfl,X9⟩
  have had:=X9
  exact Zj 1 2 [4] (Z8 5 (YA 5 1 [] [] b2 [Y8 dz1,TM n.routines] (de (Z9 (r3 [1] [.agg [Y8 dz1,TM n.routines]] [0] [(b2,b2)] ⟨(Zr.mk dz1 n.routines),p22,rfl,rfl,(by first|exact ⟨hzn.le om om,by omega,by omega⟩|exact ⟨hzn.set hx1k om om om om hz1.2.2.2,by omega,by omega⟩|exact ⟨(hzn.le om om).ds had.1,by omega,by omega⟩|exact ⟨hzn.set hx2k om om om (by have:=hsb.1.1;omega) hsb.1.2,by omega,by omega⟩)⟩ (lr _))))))
 refine ak (aD 12 (ZL 6 12 [0,1,2,3,4,5] [2,2] ?_))
 obtain ⟨x2,Zo⟩:=Zt n.routines YP om
 have hx2k:=Zo
 have hz2:=hzn.rt _ (ZZ Zo)
 refine dx 6 (Zi none (YP:Int) 5 (Wk Zo)) (Zj 3 5 [7,8] (Z8 9 (dc 9 [0] [1] [b1] (Z2n rd bs (((p+1)+1)+1) x2.body (ZB:=ob) (hg:=hz2.2.2.2)) ?_)))
 rintro _ _ ⟨y1,p23,rfl,rfl,XX⟩
 have hsb:=XX
 exact Z8 10 (Ye 10 [] [] [] (Mq n YP y1 x2 (hr:=Zo)) (Z8 11 (YA 11 1 [] [] b2 (Yz (withR n YP x2 y1)) (de (Z9 (r3 [1] [Yc (withR n YP x2 y1)] [0] [(b2,b2)] ⟨(withR n YP x2 y1),p23,rfl,rfl,(by first|exact ⟨hzn.le om om,by omega,by omega⟩|exact ⟨hzn.set hx1k om om om om hz1.2.2.2,by omega,by omega⟩|exact ⟨(hzn.le om om).ds had.1,by omega,by omega⟩|exact ⟨hzn.set hx2k om om om (by have:=hsb.1.1;omega) hsb.1.2,by omega,by omega⟩)⟩ (lr _)))))))
theorem Z10 (rd:Nat) (bs:LI) (p:Nat) (ZB:∀z∈bs,0<=z/\z<=255) (hp:p+73706400<=1000000000:=by exact ob):Zl 49 [.p rd 0] [Yl rd bs p] (fun r h=>∃(n2:Zr) (p2:Nat),r=Yc n2/\h=[Yl rd bs p2]/\ZS n2 7330632 11/\p<=p2/\p2<=p+73706400):=by
 refine ZC 14 Tryz.func49 (ar (iA [nl,nl] fun b1=>ie (aq (ar (Z0 1 (ic [1] (XO rd bs p 4 (ZB:=ob)) ?_))))))
 rintro _ _ ⟨k1,rfl,rfl,Y2⟩
 refine Z0 1 (ie (ac (k1==0) Zs (fun Zb=>?_) (fun Zb=>?_)))
 ·refine ar (Z0 2 (ic [0] (Ml rd bs (p+1) (ZB:=ob)) ?_))
  rintro _ _ ⟨n1,p21,rfl,rfl,Ym⟩
  have hpf:=((FO.zn Ym.1).le (show 181<=7330630 by omega)).zs
  refine ic [0] (Mo rd bs p21 n1 8 7330630 10 (ZB:=ob) (hzn:=(by first|exact hpf|exact hbf))) ?_
  rintro _ _ ⟨n21,p22,rfl,rfl,YN⟩
  have hsf:=YN
  exact Zy 1 b1 (Yz n21) (ie (Z9 (r3 [1] [Yc n21] [0] [(b1,b1)] ⟨n21,p22,rfl,rfl,⟨hsf.1,by omega,by omega⟩⟩ (lr _))))
 refine ak (ar (Z0 2 (ic [0] (Z12 rd bs (p+1) (ZB:=ob)) ?_)))
 rintro _ _ ⟨n2,p23,rfl,rfl,YW⟩
 have hbf:=YW.1.zs
 refine ic [0] (Mo rd bs p23 n2 8 7330630 10 (ZB:=ob) (hzn:=(by first|exact hpf|exact hbf))) ?_
 rintro _ _ ⟨n22,p24,rfl,rfl,X9⟩
 have hsf:=X9
 exact Zy 1 b1 (Yz n22) (ie (Z9 (r3 [1] [Yc n22] [0] [(b1,b1)] ⟨n22,p24,rfl,rfl,⟨hsf.1,by omega,by omega⟩⟩ (lr _))))
theorem Cv (xs:LI) (hl_xs:xs.length<=4294967296:=by exact ob):Zl 92 [Z6 xs] [] (fun r h=>∃(v:Value),r=ZT xs v/\h=[.tail v 1]):=by
 refine ZC 8 Tryz.func92 (ar (Z0 1 (ie (aq (ar (Z0 1 (iN (Z7 xs) (fun hz1=>?_) ?_)))))))
 ·have hz1:=SW hz1
  exact ie (WG (ar (Z0 1 (ie (AP 1 (Z9 (r2 [0] [nl] ⟨(.slice none 0 0),rfl,rfl⟩ (Zc.slh _ (by first|rfl|(subst_vars;rfl))))))))))
 exact ie (WF (ak (ar (iL (Z7 []) 0 1 fun v1=>Z0 1 (ip 0 (Z7 xs) (Z7 []) (Z7 xs) v1 none 1 (Yu _) (Yu _) (XR _) (by simp<;>omega) (by simp [Z7]) fun v2=>Z0 1 (ie (Z9 (r1 [0] ⟨v2,rfl,rfl⟩))))))))
theorem Dv (xs:LI) (ys:LI) (hl_xs:xs.length<=4294967296:=by exact ob) (hl_ys:ys.length<=4294967296:=by exact ob):Zl 170 [Z6 xs,Z6 ys] [] (Y7 (.b (decide (xs=ys)))):=by
 refine ZC 26 Tryz.func170 (ar (Z0 1 (ie (aq (ar (Z0 1 (iw (Y9 xs) (Z0 1 (iw (Y9 ys) (Z0 1 (ie (ac ((xs.length:Int) != (ys.length:Int)) Yf (fun Zb=>?_) (fun Zb=>?_)))))))))))))
 ·exact ar (Z0 1 (ie (Z9 (ZU (.b false) (lb (eq_comm.1 (decide_eq_false (fun q=>by rw [q] at Zb;exact Zb rfl))))))))
 refine ak (aq (ar (Z0 1 (iw (Y9 xs) (Z0 1 (ie (ab 0 (ZW (fun fz gz m F h=>∃(k:Nat),(k<=xs.length)/\(xs.take k=ys.take k)/\F=sF [0,1,12] fz [(13,.i k)]/\h=gz/\m=xs.length-k) _ _ _ ⟨0,ob,ob,rfl,rfl,rfl⟩ (wk [] (Y0 fl)) ?_))))))))
 rintro m F h ⟨k,Y6,Zm,rfl,rfl,rfl⟩
 refine ar (Z0 1 (ie (aq (ZG ((k:Int)<(xs.length:Int)) (fun Zg=>?_) (fun Zg=>?_)))))
 ·refine ak (aq (ab 1 (ar (Z0 2 (ie (aD 9 (Zj 7 9 [0,1] ?_)))))))
  obtain ⟨x1,Z2⟩:=Zt xs k om
  refine dx 2 (Zi none (k:Int) 1 (ZY Z2)) (Zj 3 6 [3,4,5] ?_)
  obtain ⟨x2,Zo⟩:=Zt ys k om
  refine dx 6 (Zi none (k:Int) 1 (ZY Zo)) (Zj 0 2 [7,8] (de (ac (x1 != x2) Yf (fun Zz=>?_) (fun Zz=>?_))))
  ·exact ar (Z0 1 (ie (Z9 (ZU (.b false) (lb (eq_comm.1 (decide_eq_false (fun q=>by subst q;rw [Z2] at Zo;cases Zo;exact Zz rfl))))))))
  refine ak (az (ZE k (Z0 1 (ie ?_))))
  have hdr:=Y3 Z2
  exact ZI ⟨k+1,ob,(by rw [Wq Z2,Wq Zo,Zm];have hxx:x1=x2:=om;rw [hxx]),rfl,rfl,rfl⟩ (wk [] (ZK k fl))
 exact ax 0 (ar (Z0 1 (ie (Z9 (ZU (.b true) (lb (eq_comm.1 (decide_eq_true (by rw [WK om,WK om] at Zm;exact Zm)))))))))
theorem Z9j (m:Nat) (hm:m<=4294967296:=by exact ob):Zl 210 [nl,.i m] [] (fun r h=>∃(v:Hd),r=.h v/\h=[rV v []]):=by
 refine ZC 27 Tryz.func210 (Kf Bn (AQ (F':=[(0,.h hN),(1,.i m)]) (h':=[rV hN []]) (wk [0] (fc (x:=nl) (Zc.hd (v:=hN)) ( fc (x:=.i m) (lr _) (M3 _)))) (ar (Z0 1 (ie (aq (ar (Z0 2 (ie (ZG ((m:Int)<0) (fun Zb=>?_) (fun Zb=>?_)))))))))))
 ·exfalso;omega
 refine ak (aq (ar (Z0 2 (Zp (Xs.le (Po hN) (li (by rfl))) (Z0 1 (Zp (Xs.le (JO 0 hN []) (li (by rfl))) (ia ((0-0)) ((0)-(0)) (ia ((m:Int)) (((m:Int))-((0-0))) (Z0 1 (ie (ar (Z0 2 (ie (ZG ((m:Int)>0) (fun Zg=>?_) (fun Zg=>?_)))))))))))))))
 ·exact az (Z0 2 (Zp (Xs.le (Po hN) (li (by rfl))) (Zp (AE 0 hN [] 0) (Z0 1 (iZ m fun v1=>Z0 1 (Zp (Xs.le (JO 1 hN []) (li (by rfl))) (Zp (AE 0 v1 (List.replicate m 0) 0) (Z0 1 (ie (ar (Z0 2 (ie (Kf (Bm 0 0 v1 (List.replicate m 0)) (Z9 (r1 [0] ⟨(v1.cut 0),rfl,rfl⟩ (eq:=(rv (xs:=((List.replicate m 0).take 0)) ob rz)))))))))))))))))
 exact ak (ar (Z0 2 (ie (Z9 (r1 [0] ⟨hN,rfl,rfl⟩)))))
theorem Z9i (xss:List LI) (hl_xss:xss.length<=4294967296:=by exact ob) (hf:xss.flatten.length<=4294967296:=by exact ob):Zl 166 [K0 xss] [] (fun r h=>∃(v:Value),r=ZT xss.flatten v/\h=[.tail v 1]):=by
 have hft:=M1 xss
 refine ZC 36 Tryz.func166 (ar (Z0 1 (ie (ar (Z0 1 (ie (aq (ar (Z0 1 (iw (Ea xss) (Z0 1 (ie (ab 0 (ZW (fun fz gz m F h=>∃(k:Nat) (q:Nat),(k<=xss.length)/\(q=(xss.take k).flatten.length)/\F=sF [0,9,10] fz [(3,.i q),(11,.i k)]/\h=gz/\m=xss.length-k) _ _ _ ⟨0,0,ob,(by simp),rfl,rfl,rfl⟩ (wk [] (Y0 (Y0 fl))) ?_))))))))))))))
 rintro m F h ⟨k,q,Y6,Zm,rfl,rfl,rfl⟩
 refine ar (Z0 1 (ie (aq (ZG ((k:Int)<(xss.length:Int)) (fun Zb=>?_) (fun Zb=>?_)))))
 ·refine ak (aq (ab 1 (ar ?_)))
  obtain ⟨x1,Z2⟩:=Zt xss k om
  refine Zp (Zi none (k:Int) 1 (E9 Z2)) (Z0 2 (ie (ar (Z0 2 (iw (Y9 x1) (ia (((q+x1.length:Nat):Int)) (((q:Int))+((x1.length:Int))) (hb:=(by have:=M0 Z2;omega)) (Z0 1 (ie (ar (Z0 2 (ie (ZG (((q+x1.length:Nat):Int)<0) (fun Zg=>?_) (fun Zg=>?_)))))))))))))
  ·exfalso;omega
  refine ak (az (ZE k (Z0 1 (ie ?_))))
  have hdr:=Y3 Z2
  exact ZI ⟨k+1,q+x1.length,ob,(by rw [GT Z2,Yn,Zm]),rfl,rfl,rfl⟩ (wk [] (fc (x:=.i (q+x1.length:Nat)) li (ZK k fl)))
 refine ax 0 (ar (Z0 1 (ic [] (Z9j q (hm:=(by have:=hft k;omega))) ?_)))
 rintro _ _ ⟨v1,rfl,rfl⟩
 refine Z0 1 (ie (aq (ar (Z0 1 (iw (Ea xss) (Z0 1 (ie (ab 2 (ZW (fun fz gz m F h=>∃(j:Nat) (v:Hd),(j<=xss.length)/\F=sF [25,26] fz [(6,.h v),(27,.i j)]/\h=[rV v ((xss.take j).flatten)]/\m=xss.length-j) _ _ _ ⟨0,v1,ob,rfl,rfl,rfl⟩ (wk [0] (fr (Y0 fl)) (e:=(rv (xs:=[]) ob rz))) ?_)))))))))
 rintro m F h ⟨j,v,Vl,rfl,rfl,rfl⟩
 refine ar (Z0 1 (ie (aq (ZG ((j:Int)<(xss.length:Int)) (fun Zz=>?_) (fun Zz=>?_)))))
 ·refine ak (aq (ab 3 (ar ?_)))
  obtain ⟨x2,Zo⟩:=Zt xss j om
  refine Zp (Zi none (j:Int) 1 (E9 Zo)) (Z0 2 (ie (az (Z0 2 (KY 0 v ((xss.take j).flatten) x2 none (hbound:=(by have:=M0 Zo;omega)) fun v2=>Z0 1 (ie (az (ZE j (Z0 1 (ie ?_))))))))))
  have hdr:=Y3 Zo
  exact ZI ⟨j+1,v2,ob,rfl,rfl,rfl⟩ (wk [0] (fr (ZK j fl)) (e:=(rv (xs:=((xss.take j).flatten++x2)) (GT Zo).symm rz)))
 exact ax 2 (ar (Z0 2 (ie (DN 2 0 (v:=v) (xs:=(xss.take j).flatten) (Z9 (r2 [0] [ZT ((xss.take j).flatten) v.v] ⟨v.v,rfl,rfl⟩ (Zc.slh _ (Ya Z7 (by rw [WK om])))))))))
theorem EG (ds:List Zd) (t:Int) (hl_ds:ds.length<=4294967296:=by exact ob):Zl 91 [Y8 ds,.i t] [] (fun r h=>r=.b (decide (0<=t/\t<=ds.length))/\h=[]):=by
 refine ZC 13 Tryz.func91 (ar (Z0 1 (ie (ar (Xo 8 [] [(12,.b ((decide (t>=0))&&(decide (t<=(ds.length:Int)))))] (fun gz=>gz) ?_ (fun hj1=>?_))))))
 ·exact Z0 1 (ie (Z9 (ZU (.b ((decide (t>=0))&&(decide (t<=(ds.length:Int))))) (lb (by rw [Xf];simp)))))
 refine Z0 3 (ib (b:=(decide (t>=0))) 7 (fun Zf=>?_) (fun Zf=>?_))
 ·exact Z0 2 (iw (Vn ds) (Z0 2 (Yh (wk [] (Zq (decide (t<=(ds.length:Int))) Zf fl)) hj1)))
 exact Z0 5 (Yh (wk [] (Zq false Zf fl)) hj1)
theorem ME (ds:List Zd) (xs:LI) (hl_ds:ds.length<=4294967296:=by exact ob) (hl_xs:xs.length<=4294967296:=by exact ob):Zl 55 [Y8 ds,Z6 xs] [] (Y7 (.b (XU ds.length xs))):=by
 refine ZC 18 Tryz.func55 (ar (Z0 1 (ie (aq (ar (Z0 1 (iw (Y9 xs) (Z0 1 (ie (ab 0 (ZW (fun fz gz m F h=>∃(k:Nat),(k<=xs.length)/\(XU ds.length (xs.drop k)=XU ds.length xs)/\F=sF [0,7,8] fz [(9,.i k)]/\h=gz/\m=xs.length-k) _ _ _ ⟨0,ob,ob,rfl,rfl,rfl⟩ (wk [] (Y0 fl)) ?_)))))))))))
 rintro m F h ⟨k,Y6,Zm,rfl,rfl,rfl⟩
 refine ar (Z0 1 (ie (aq (ZG ((k:Int)<(xs.length:Int)) (fun Zb=>?_) (fun Zb=>?_)))))
 ·refine ak (aq (ab 1 (ar ?_)))
  obtain ⟨x1,Z2⟩:=Zt xs k om
  refine Zp (Zi none (k:Int) 1 (ZY Z2)) (Z0 2 (ie (ar (Z0 2 (Zx [] (EG ds x1) (Z0 1 (ie (ac (!(decide (0<=x1/\x1<=ds.length))) (p:=¬(0<=x1/\x1<=ds.length)) (Yx dq) (fun Zg=>?_) (fun Zg=>?_)))))))))
  ·refine ar (Z0 1 (ie ?_))
   rw [Y3 Z2] at Zm
   exact Z9 (ZU (.b false) (lb (by clear Z2;first|rfl|omega|grind [XU])))
  refine ak (az (ZE k (Z0 1 (ie ?_))))
  have hdr:=Y3 Z2
  exact ZI ⟨k+1,ob,(by rw [hdr] at Zm;clear hdr Z2;grind [XU]),rfl,rfl,rfl⟩ (wk [] (ZK k fl))
 refine ax 0 (ar (Z0 1 (ie ?_)))
 try rw [X5 (xs:=xs) (k:=k) om] at Zm
 exact Z9 (ZU (.b true) (lb (by first|rfl|omega|grind [XU])))
theorem Z3w (ds:List Zd) (hd:W1 ds:=by exact ob):Zl 211 [Y8 ds] [] (Y7 (.i (Yy ds:Nat))):=by
 have hdl:=hd.len
 refine ZC 19 Tryz.func211 (ar (Z0 1 (ie (ar (Z0 1 (ie (aq (ar (Z0 1 (iw (Vn ds) (Z0 1 (ie (ab 0 (ZW (fun fz gz m F h=>∃(k:Nat),(k<=ds.length)/\F=sF [6,7] fz [(3,.i ((Yy (ds.take k):Nat):Int)),(8,.i k)]/\h=gz/\m=ds.length-k) _ _ _ ⟨0,ob,rfl,rfl,rfl⟩ (wk [] (Y0 (Y0 fl))) ?_))))))))))))))
 rintro m F h ⟨k,Y6,rfl,rfl,rfl⟩
 refine ar (Z0 1 (ie (aq (ZG ((k:Int)<(ds.length:Int)) (fun Zb=>?_) (fun Zb=>?_)))))
 ·refine ak (aq (ab 1 (ar ?_)))
  obtain ⟨x1,Z2⟩:=Zt ds k om
  refine Zp (Zi none (k:Int) 3 (Wj Z2)) (Z0 1 (iA [.i 0,.i 0,nl] fun b1=>Zy 0 b1 (UP x1) (ie (az (Z3 3 [0] (iw (Vz x1.cons) (ia (((Yy (ds.take k)+x1.cons.length:Nat):Int)) ((((Yy (ds.take k):Nat):Int))+((x1.cons.length:Int))) (hb:=(by have h1:=hd.cons_at Z2;have h2:=(hd.take k).sum;omega)) (Z0 1 (ie (az (ZE k (Z0 1 (ie ?_)))))))))))))
  have hdr:=Y3 Z2
  exact ZI ⟨k+1,ob,rfl,rfl,rfl⟩ (wk [] (fc (x:=.i ((Yy (ds.take k)+x1.cons.length:Nat):Int)) (li (by rw [Wq Z2,Cw];simp [Yy])) (ZK k fl)))
 exact ax 0 (ar (Z0 2 (ie (Z9 (ZU (.i ((Yy (ds.take k):Nat):Int)) (li (by rw [WK om])))))))
theorem MF (ds:List Zd) (c:Int) (hd:W1 ds:=by exact ob) (hc:-9223372036854775808<=c/\c<=9223372036854775807:=by exact ob):Zl 169 [Y8 ds,.i c] [] (Y7 (.tup [.i (XP ds c),.agg [Z6 (ZP ds c)]])):=by
 have hdl:=hd.len
 refine ZC 38 Tryz.func169 (ar (Z0 1 (iA [nl] fun b1=>?_)))
 refine ie (aq (ar (Z0 1 (iw (Vn ds) (Z0 1 (ie (ab 0 (ZW (fun fz gz m F h=>∃(k:Nat) (cv:Int),(k<=ds.length)/\(JV c (Yy (ds.take k)) cv)/\(Us c (ds.drop k) k (Yy (ds.take k))=Us c ds 0 0)/\F=sF [5,8,9] fz [(1,.i cv),(10,.i k)]/\h=gz/\m=ds.length-k) _ _ _ ⟨0,c,ob,(.inl (by simp [Yy])),rfl,rfl,rfl,rfl⟩ (wk [0] (fr (Y0 fl))) ?_))))))))
 rintro m F h ⟨k,cv,Y6,Zm,Zv,rfl,rfl,rfl⟩
 refine ar (Z0 1 (ie (aq (ZG ((k:Int)<(ds.length:Int)) (fun Zb=>?_) (fun Zb=>?_)))))
 ·refine ak (aq (ab 1 (ar (Z0 1 ?_))))
  obtain ⟨x1,Z2⟩:=Zt ds k om
  refine Zp (Zi none (k:Int) 3 (Wj Z2)) (Z0 1 (iA [.i 0,.i 0,nl] fun b2=>Z0 1 (Zy 0 b2 (UP x1) (ie (aq (ar (X8 [1,5,6,7,8,9,10] [(23,.b ((decide (cv>=0))&&(decide (cv<(x1.cons.length:Int)))))] (fun gz=>gz) ?_ ?_)))))))
  ·refine Z0 3 (ib (b:=(decide (cv>=0))) 17 (fun Zf=>?_) (fun Zf=>?_))
   ·exact Z3 3 [0] (iw (Vz x1.cons) (Z0 2 (ie (wk [0,0] (Zq (decide (cv<(x1.cons.length:Int))) Zf fl)))))
   exact Z0 6 (ie (wk [0,0] (Zq false Zf fl)))
  refine ac ((decide (cv>=0))&&(decide (cv<(x1.cons.length:Int)))) (p:=(cv>=0)/\(cv<(x1.cons.length:Int))) (YB dq dq) (fun Zg=>?_) (fun Zg=>?_)
  ·refine aD 9 (Zj 8 9 [0] (da 1 (((k+1:Nat):Int)) (((k:Int))+(1)) (ZL 4 7 [2,3,4] [0] ?_)))
   obtain ⟨x2,Zo⟩:=Zt x1.cons cv.toNat om
   refine dx 5 (Zi none cv 1 (Jp Zo)) (Zj 1 3 [6,7] (Z8 8 (YA 8 1 [] [] b1 (C0 x2) (de ?_))))
   have hz:=(hd.take k).sum
   have h3:=hd.cons_at Z2
   have hH:=Zv.symm.trans (S2 Z2 Zm om h3 hc.1 Zg Zo)
   exact Z9 (r3 [] [.i (k+1:Nat),Bw x2] [0] [(b1,b1)] ⟨rfl,rfl⟩ (Zc.tup (.cons (li (by rw [XP,hH];omega)) (.cons (Zc.agg (.cons (Zc.sl _ (Ya Z7 (by rw [ZP,hH]))) .nil)) .nil))))
  refine ak (az (Z3 3 [0] (iw (Vz x1.cons) (iW ((cv)-((x1.cons.length:Int))) (Z0 1 (ie (az (ZE k (Z0 1 (ie ?_))))))))))
  have hdr:=Y3 Z2
  exact ZI ⟨k+1,(Bp ((cv)-((x1.cons.length:Int)))),ob,(by have hz:=(hd.take k).sum;have h3:=hd.cons_at Z2;rw [Wq Z2,Cw];simpa [Yy] using Rv Zm om h3 hc),(S0 Z2 Zm Zg Zv),rfl,rfl,rfl⟩ (wk [1] (fr (ZK k fl)))
 refine ax 0 (ar (Z0 2 (Zy 0 b1 [nl] (ie ?_))))
 have hH:Us c ds 0 0=(-1,[]):=by rw [<-Zv,X5 om];rfl
 exact Z9 (r3 [] [.i (-1),.agg [nl]] [0] [(b1,b1)] ⟨rfl,rfl⟩ (Zc.tup (.cons (li (by rw [XP,hH])) (.cons (Zc.agg (.cons (Zc.sl _ (by rw [ZP,hH];rfl)) .nil)) .nil))))
theorem Z40 (ds:List Zd) (c:Int) (hd:W1 ds:=by exact ob) (hc:-9223372036854775808<=c/\c<=9223372036854775807:=by exact ob):Zl 168 [Y8 ds,.i c] [] (Y7 (Z6 (ZP ds c))):=by
 exact ZC 15 Tryz.func168 (ar (Z0 1 (ie (ar (Z0 2 (Zx [] (MF ds c) (Z0 3 (iA [nl] fun b1=>Z0 1 (Zy 0 b1 [Z6 (ZP ds c)] (ie (ar (Z3 3 [0] (ie (Z9 (In)))))))))))))))
theorem Z3x (ds:List Zd) (t:Int) (hd:W1 ds:=by exact ob):Zl 167 [Y8 ds,.i t] [] (Y7 (Z6 (ZQ ds t))):=by
 have hdl:=hd.len
 refine ZC 39 Tryz.func167 (ar (Z0 1 (ie (aq (ar (X8 [0,1] [(15,.b ((decide (t<1))||(decide (t>(ds.length:Int)))))] (fun gz=>gz) ?_ ?_))))))
 ·refine Z0 3 (ib (b:=(decide (t<1))) 10 (fun Zf=>?_) (fun Zf=>?_))
  ·exact Z0 5 (ie (wk [] (Zq true Zf fl)))
  exact Z0 2 (iw (Vn ds) (Z0 2 (ie (wk [] (Zq (decide (t>(ds.length:Int))) Zf fl)))))
 refine ac ((decide (t<1))||(decide (t>(ds.length:Int)))) (p:=(t<1)∨(t>(ds.length:Int))) (Yo dq dq) (fun Zb=>?_) (fun Zb=>?_)
 ·exact ar (Z0 1 (ie (Z9 (ZU (nl) (Zc.sl _ (by rw [ZQ,Za om];rfl))))))
 have hti:1<=t/\t<=ds.length:=by omega
 obtain ⟨d,hd1⟩:=Zt ds ((t-1).toNat) om
 have hdc:=hd.cons_at hd1
 have hsm:=(hd.take (t-1).toNat).sum
 refine ak (ar (Z0 2 (ia ((((t-1).toNat:Nat):Int)) ((t)-(1)) (Zp (Kt (es:=Yp ds) (hv:=none) (l:=0) (m:=(((t-1).toNat:Nat):Int)) (sz:=3) (es':=Yp (ds.take ((t-1).toNat))) kr om (by simp<;>omega) (by simp<;>omega) (Qw _) (by first|(simp only [VU,Vd,BG,BF];done)|(simp only [VU,Vd,BG,BF];rfl)|(simp [BG,BF];done))) (Zx [] (Z3w (ds.take ((t-1).toNat)) (hd:=(hd.take _))) (Z0 1 (ie (ar (Z0 1 (ie (aq (ar (Z0 2 (ia ((((t-1).toNat:Nat):Int)) ((t)-(1)) (Zp (Zi none (((t-1).toNat:Nat):Int) 3 (Wj hd1)) (Z0 2 (iw (Vz d.cons) (Z0 1 (ie (ab 0 (AP 1 (ZW (fun fz gz m F h=>∃(k:Nat) (v:Value),(k<=d.cons.length)/\F=sF [5,27] fz [(6,ZT (V1 (Yy (ds.take (t-1).toNat)) k) v),(28,.i k)]/\h=[.tail v 1]/\m=d.cons.length-k) _ _ _ ⟨0,(.slice none 0 0),ob,rfl,rfl,rfl⟩ (wk [0] (fc (x:=nl) (Zc.slh _ rfl) (Y0 fl))) ?_))))))))))))))))))))))
 rintro m F h ⟨k,v,Y6,rfl,rfl,rfl⟩
 refine ar (Z0 1 (ie (aq (ZG ((k:Int)<(d.cons.length:Int)) (fun Zg=>?_) (fun Zg=>?_)))))
 ·exact ak (aq (ab 1 (ar (Z0 2 (ie (az (Z0 3 (ia ((((Yy (ds.take ((t-1).toNat)))+k:Nat):Int)) ((((Yy (ds.take ((t-1).toNat)):Nat):Int))+((k:Int))) (iL (Z7 [(((Yy (ds.take ((t-1).toNat)))+k:Nat):Int)]) 1 1 fun v1=>ZM 0 [(35,Z6 [(((Yy (ds.take ((t-1).toNat)))+k:Nat):Int)])] (ip 1 (Z7 (V1 (Yy (ds.take (t-1).toNat)) k++[(((Yy (ds.take ((t-1).toNat)))+k:Nat):Int)])) (Z7 (V1 (Yy (ds.take (t-1).toNat)) k)) (Z7 [(((Yy (ds.take ((t-1).toNat)))+k:Nat):Int)]) v none 1 (Yu _) (Yu _) (XR _) (by simp;omega) (by simp [XQ,Z7]) fun v2=>Z0 1 (ie (az (ZE k (Z0 1 (ie (ZI ⟨k+1,v2,ob,rfl,rfl,rfl⟩ (wk [0] (fc (x:=ZT (V1 (Yy (ds.take (t-1).toNat)) k++[(((Yy (ds.take ((t-1).toNat)))+k:Nat):Int)]) v2) (Zc.slh _ (Ya Z7 (Nt _ _).symm)) (ZK k fl)))))))))))))))))))
 exact ax 0 (ar (Z0 2 (ie (Z9 (ZU (ZT (V1 (Yy (ds.take (t-1).toNat)) k) v) (Zc.sl _ (Ya Z7 (by rw [ZQ,Zk hti,hd1,show k=d.cons.length by omega];rfl))))))))
theorem EE (ds:List Zd) (t:Int) (hd:W1 ds:=by exact ob):Zl 129 [Y8 ds,.i t] [] (Y7 (.tup [Ji (V8 ds t),.b (XG ds t)])):=by
 have hdl:=hd.len
 refine ZC 30 Tryz.func129 (ar (iA [.i 0,.i 0,nl] fun b1=>Z0 1 (ie (aq (ar (Xo 8 [0,1,4] [(13,.b ((decide (t<1))||(decide (t>(ds.length:Int)))))] (fun gz=>gz) ?_ (fun hj1=>?_)))))))
 ·refine Z0 1 (ib (b:=((decide (t<1))||(decide (t>(ds.length:Int))))) 14 (fun Zf=>?_) (fun Zf=>?_))
  ·have Y2:(t<1)∨(t>(ds.length:Int)):=((Yo dq dq)).1 Zf
   refine Z0 9 (ie (WG (ar (Z0 1 (Zy 0 b1 [.i 0,.i 0,nl] (Z0 1 (ie ?_)))))))
   have hA:XG ds t=false:=(Hb om).symm
   have hD:V8 ds t=⟨0,0,[]⟩:=by rw [V8,hA];rfl
   exact Z9 (r3 [] [.agg [.i 0,.i 0,nl],.b false] [0] [(b1,b1)] ⟨rfl,rfl⟩ (Zc.tup (.cons (Zc.agg (.cons (li (by rw [hD])) (.cons (li (by rw [hD])) (.cons (Zc.sl _ (by rw [hD];rfl)) .nil)))) (.cons (lb (by rw [hA])) .nil))))
  have Ym:¬((t<1)∨(t>(ds.length:Int))):=Yi (Yo dq dq) Zf
  refine Z0 2 (ia ((t-1)) ((t)-(1)) ?_)
  obtain ⟨x1,Z2⟩:=Zt ds ((t-1).toNat) om
  refine Zp (Zi none (t-1) 3 (Wj Z2)) (Z0 2 (iw (Vz x1.cons) (Z0 2 (ie (ZG ((x1.cons.length:Int)>0) (fun Zb=>?_) (fun Zb=>?_))))))
  ·refine ar (Z0 1 (Zy 0 b1 [.i 0,.i 0,nl] (Z0 1 (ie ?_))))
   have hA:XG ds t=false:=(EJ om Z2).symm.trans (beq_eq_false_iff_ne.2 om)
   have hD:V8 ds t=⟨0,0,[]⟩:=by rw [V8,hA];rfl
   exact Z9 (r3 [] [.agg [.i 0,.i 0,nl],.b false] [0] [(b1,b1)] ⟨rfl,rfl⟩ (Zc.tup (.cons (Zc.agg (.cons (li (by rw [hD])) (.cons (li (by rw [hD])) (.cons (Zc.sl _ (by rw [hD];rfl)) .nil)))) (.cons (lb (by rw [hA])) .nil))))
  refine ak (ar (Z0 2 (ia ((t-1)) ((t)-(1)) (Zp (Zi none (t-1) 3 (Wj Z2)) (Z0 1 (Zy 0 b1 (UP x1) (Z0 1 (ie ?_))))))))
  have hA:XG ds t=true:=(EJ om Z2).symm.trans (Zs.2 om)
  have hD:V8 ds t=x1:=by rw [V8,hA,Z2];rfl
  exact Z9 (r3 [] [Ji x1,.b true] [0] [(b1,b1)] ⟨rfl,rfl⟩ (Zc.tup (.cons (Zc.agg (.cons (li (by rw [hD])) (.cons (li (by rw [hD])) (.cons (Zc.sl _ (Ya Xt (by rw [hD]))) .nil)))) (.cons (lb (by rw [hA])) .nil))))
 refine Z0 3 (ib (b:=(decide (t<1))) 8 (fun ZF=>?_) (fun ZF=>?_))
 ·have YN:t<1:=(dq).1 ZF
  exact Z0 5 (Yh (wk [0] (Zq true ZF fl)) hj1)
 have YW:¬(t<1):=Yi dq ZF
 exact Z0 2 (iw (Vn ds) (Z0 2 (Yh (wk [0] (Zq (decide (t>(ds.length:Int))) ZF fl)) hj1)))
theorem Z3q (ds:List Zd) (frm:Int) (to_:Int) (hl_ds:ds.length<=4294967296:=by exact ob):Zl 171 [Y8 ds,.i frm,.i to_] [] (Y7 (.i (VM ds frm to_))):=by
 refine ZC 35 Tryz.func171 (ar (Z0 1 (ie (aq (ar (Z0 1 (iw (Vn ds) (Z0 1 (ie (ab 0 (ZW (fun fz gz m F h=>∃(k:Nat),(k<=ds.length)/\(Qr frm to_ (ds.drop k) k=VM ds frm to_)/\F=sF [1,2,9,10] fz [(11,.i k)]/\h=gz/\m=ds.length-k) _ _ _ ⟨0,ob,rfl,rfl,rfl,rfl⟩ (wk [] (Y0 fl)) ?_)))))))))))
 rintro m F h ⟨k,Y6,Zm,rfl,rfl,rfl⟩
 refine ar (Z0 1 (ie (aq (ZG ((k:Int)<(ds.length:Int)) (fun Zb=>?_) (fun Zb=>?_)))))
 ·refine ak (aq (ab 1 (ar (Z0 1 ?_))))
  obtain ⟨x1,Z2⟩:=Zt ds k om
  refine Zp (Zi none (k:Int) 3 (Wj Z2)) (Z0 1 (iA [.i 0,.i 0,nl] fun b1=>Z0 1 (Zy 0 b1 (UP x1) (ie (ar (Z3 2 [0] (iw (Vz x1.cons) (Xo 10 [1,2,7,8,9,10,11] [(25,.b (((x1.cons.length:Int)==0)&&(x1.frm==frm)))] (fun gz=>gz) ?_ (fun hj1=>?_)))))))))
  ·refine X8 [1,2,7,9,10,11] [(31,.b ((((x1.cons.length:Int)==0)&&(x1.frm==frm))&&(x1.to_==to_)))] (fun gz=>gz) ?_ ?_
   ·refine Z0 1 (ib (b:=(((x1.cons.length:Int)==0)&&(x1.frm==frm))) 26 (fun Zf=>?_) (fun Zf=>?_))
    ·exact Z3 5 [0] (ie (wk [0] (Zq (x1.to_==to_) Zf fl)))
    exact Z0 5 (ie (wk [0] (Zq false Zf fl)))
   refine ac ((((x1.cons.length:Int)==0)&&(x1.frm==frm))&&(x1.to_==to_)) (p:=(((x1.cons.length:Int)=0)/\(x1.frm=frm))/\(x1.to_=to_)) (YB (YB Zs Zs) Zs) (fun Zg=>?_) (fun Zg=>?_)
   ·refine ar (Z0 1 (ZE k (Z0 1 (ie ?_))))
    rw [Y3 Z2] at Zm
    exact Z9 (ZU (.i (k+1:Nat)) (li (by clear Z2;first|rfl|omega|grind [Qr])))
   refine ak (az (ZE k (Z0 1 (ie ?_))))
   have hdr:=Y3 Z2
   exact ZI ⟨k+1,ob,(by rw [hdr] at Zm;clear hdr Z2;grind [Qr]),rfl,rfl,rfl⟩ (wk [] (ZK k fl))
  refine Z0 2 (ib (b:=((x1.cons.length:Int)==0)) 20 (fun ZF=>?_) (fun ZF=>?_))
  ·exact Z3 5 [0] (Yh (wk [0] (Zq (x1.frm==frm) ZF fl)) hj1)
  exact Z0 5 (Yh (wk [0] (Zq false ZF fl)) hj1)
 refine ax 0 (ar (Z0 1 (ie ?_)))
 try rw [X5 (xs:=ds) (k:=k) om] at Zm
 exact Z9 (ZU (.i (-1)) (li (by first|rfl|omega|grind [Qr])))
theorem Z3p (ds:List Zd) (hz:Qp ds:=by exact ob):Zl 128 [Y8 ds] [] (Y7 (.b (Wr ds))):=by
 have hzl:=hz.len
 refine ZC 106 Tryz.func128 (ar (Z0 1 (ie (aq (ar (Z0 1 (iw (Vn ds) (Z0 1 (ie (ZG ((ds.length:Int)>4) (fun Zb=>?_) (fun Zb=>?_)))))))))))
 ·exact ar (Z0 1 (ie (Z9 (ZU (.b false) (lb (by rw [Wr,decide_eq_false om];rfl))))))
 refine ak (aq (ar (Z0 1 (iw (Vn ds) (Z0 1 (ie (ab 0 (ZW (fun fz gz m F h=>∃(k:Nat),(k<=ds.length)/\(Ut ds (ds.drop k) k=Ut ds ds 0)/\F=sF [0,12,13] fz [(14,.i k)]/\h=gz/\m=ds.length-k) _ _ _ ⟨0,ob,rfl,rfl,rfl,rfl⟩ (wk [] (Y0 fl)) ?_))))))))
 rintro m F h ⟨k,Y6,Zm,rfl,rfl,rfl⟩
 refine ar (Z0 1 (ie (aq (ZG ((k:Int)<(ds.length:Int)) (fun Zg=>?_) (fun Zg=>?_)))))
 ·refine ak (aq (ab 1 (ar (Z0 1 ?_))))
  obtain ⟨x1,Z2⟩:=Zt ds k om
  have hz1:=hz.cons_at Z2
  refine Zp (Zi none (k:Int) 3 (Wj Z2)) (Z0 1 (iA [.i 0,.i 0,nl] fun b1=>Z0 1 (Zy 0 b1 (UP x1) (ie (aq (ar (Z3 3 [0] (Zx [] (EG ds x1.frm) (Xo 12 [0,3,4,12,13,14] [(30,.b ((!(decide (0<=x1.frm/\x1.frm<=ds.length)))||(!(decide (0<=x1.to_/\x1.to_<=ds.length)))))] (fun gz=>gz) ?_ (fun hj1=>?_))))))))))
  ·refine Xo 18 [0,3,4,12,13,14] [(36,.b (((!(decide (0<=x1.frm/\x1.frm<=ds.length)))||(!(decide (0<=x1.to_/\x1.to_<=ds.length))))||(decide ((x1.cons.length:Int)>3))))] (fun gz=>gz) ?_ (fun hj2=>?_)
   ·refine X8 [0,3,4,12,13,14] [(52,.b ((((!(decide (0<=x1.frm/\x1.frm<=ds.length)))||(!(decide (0<=x1.to_/\x1.to_<=ds.length))))||(decide ((x1.cons.length:Int)>3)))||((decide ((x1.cons.length:Int)>0))&&((x1.frm != 0)||(x1.to_ != 0)))))] (fun gz=>gz) ?_ ?_
    ·refine Z0 1 (ib (b:=(((!(decide (0<=x1.frm/\x1.frm<=ds.length)))||(!(decide (0<=x1.to_/\x1.to_<=ds.length))))||(decide ((x1.cons.length:Int)>3)))) 37 (fun Zf=>?_) (fun Zf=>?_))
     ·have Y2:((¬(0<=x1.frm/\x1.frm<=ds.length))∨(¬(0<=x1.to_/\x1.to_<=ds.length)))∨((x1.cons.length:Int)>3):=((Yo (Yo (Yx dq) (Yx dq)) dq)).1 Zf
      exact Z0 15 (ie (wk [0] (Zq true Zf fl)))
     have Ym:¬(((¬(0<=x1.frm/\x1.frm<=ds.length))∨(¬(0<=x1.to_/\x1.to_<=ds.length)))∨((x1.cons.length:Int)>3)):=Yi (Yo (Yo (Yx dq) (Yx dq)) dq) Zf
     refine Z3 2 [0] (iw (Vz x1.cons) (Z0 2 (ib (b:=(decide ((x1.cons.length:Int)>0))) 42 (fun ZF=>?_) (fun ZF=>?_))))
     ·have YN:(x1.cons.length:Int)>0:=(dq).1 ZF
      refine Z3 4 [0] (ib (b:=(x1.frm != 0)) 46 (fun Yv=>?_) (fun Yv=>?_))
      ·have YW:x1.frm≠0:=(Yf).1 Yv
       exact Z0 6 (ie (wk [0] (Zq true (And.intro Zf (And.intro ZF Yv)) fl)))
      have X9:¬(x1.frm≠0):=Yi Yf Yv
      exact Z3 6 [0] (ie (wk [0] (Zq (x1.to_ != 0) (And.intro Zf (And.intro ZF Yv)) fl)))
     have XX:¬((x1.cons.length:Int)>0):=Yi dq ZF
     exact Z0 10 (ie (wk [0] (Zq false (And.intro Zf ZF) fl)))
    refine ac ((((!(decide (0<=x1.frm/\x1.frm<=ds.length)))||(!(decide (0<=x1.to_/\x1.to_<=ds.length))))||(decide ((x1.cons.length:Int)>3)))||((decide ((x1.cons.length:Int)>0))&&((x1.frm != 0)||(x1.to_ != 0)))) (p:=(((¬(0<=x1.frm/\x1.frm<=ds.length))∨(¬(0<=x1.to_/\x1.to_<=ds.length)))∨((x1.cons.length:Int)>3))∨(((x1.cons.length:Int)>0)/\((x1.frm≠0)∨(x1.to_≠0)))) (Yo (Yo (Yo (Yx dq) (Yx dq)) dq) (YB dq (Yo Yf Yf))) (fun Zz=>?_) (fun Zz=>?_)
    ·exact ar (Z0 1 (ie (Z9 (ZU (.b false) (lb (Iu Z2 (Sx Zz) Zm))))))
    refine ak (aq (ar (Z3 2 [0] (iw (Vz x1.cons) (Z0 1 (ie (ab 2 (ZW (fun fz gz m F h=>∃(q:Nat),(q<=x1.cons.length)/\(UX ds.length (x1.cons.drop q)=UX ds.length x1.cons)/\F=sF [0,3,4,12,13,14,54,55] fz [(56,.i q)]/\h=gz/\m=x1.cons.length-q) _ _ _ ⟨0,ob,rfl,rfl,rfl,rfl⟩ (wk [0] (Y0 fl)) ?_))))))))
    rintro m F h ⟨q,Vl,XD,rfl,rfl,rfl⟩
    refine ar (Z0 1 (ie (aq (ZG ((q:Int)<(x1.cons.length:Int)) (fun Yd=>?_) (fun Yd=>?_)))))
    ·refine ak (aq (ab 3 (ar ?_)))
     obtain ⟨x2,Zo⟩:=Zt x1.cons q om
     refine Zp (Zi none (q:Int) 1 (Jp Zo)) (Z0 1 (iA [nl] fun b2=>Zy 0 b2 (C0 x2) (ie (ar (Z3 2 [0] (iw (Y9 x2.fields) (X8 [0,3,4,12,13,14,54,55,56] [(70,.b ((decide ((x2.fields.length:Int)>3))||(!XU ds.length x2.fields)))] (fun gz=>gz) ?_ ?_)))))))
     ·refine Z0 2 (ib (b:=(decide ((x2.fields.length:Int)>3))) 64 (fun YX=>?_) (fun YX=>?_))
      ·have Wv:(x2.fields.length:Int)>3:=(dq).1 YX
       exact Z0 6 (ie (wk [0,0] (Zq true YX fl)))
      have V7:¬((x2.fields.length:Int)>3):=Yi dq YX
      exact Z3 3 [0] (Zx [] (ME ds x2.fields) (Z0 2 (ie (wk [0,0] (Zq (!XU ds.length x2.fields) YX fl)))))
     refine ac ((decide ((x2.fields.length:Int)>3))||(!XU ds.length x2.fields)) (p:=((x2.fields.length:Int)>3)∨(¬(XU ds.length x2.fields=true))) (Yo dq (Yx Iff.rfl)) (fun X2=>?_) (fun X2=>?_)
     ·exact ar (Z0 1 (ie (Z9 (ZU (.b false) (lb (Iu Z2 (Sy om (by rw [<-XD,Y3 Zo,UX,Za (by rw [S3 X2];simp)])) Zm))))))
     refine ak (az (ZE q (Z0 1 (ie ?_))))
     have hdr:=Y3 Zo
     exact ZI ⟨q+1,ob,(by rw [Y3 Zo,UX,Zk (S4 X2)] at XD;exact XD),rfl,rfl,rfl⟩ (wk [1] (ZK q fl))
    have hC:UX ds.length x1.cons=true:=by rw [<-XD,X5 om];rfl
    refine ax 2 (ar (Z0 2 (Zp (Kt (es:=Yp ds) (hv:=none) (l:=0) (m:=(k:Int)) (sz:=3) (es':=Yp (ds.take k)) kr om (by simp<;>omega) (by simp<;>omega) (Qw _) (by first|(simp only [VU,Vd,BG,BF];done)|(simp only [VU,Vd,BG,BF];rfl)|(simp [BG,BF];done))) (io (.i (((ds.take k).length:Nat):Int)) (.i (((Yp (ds.take k)).length:Nat):Int)) (li (by rw [Vn])) (Z0 1 (ie (ab 4 (ZW (fun fz gz m F h=>∃(j:Nat),(j<=k)/\(x1.cons.length=0->Q4 x1 ((ds.take k).drop j)=Q4 x1 (ds.take k))/\F=sF [0,4,12,13,14,74,75] fz [(76,.i j)]/\h=gz/\m=k-j) _ _ _ ⟨0,ob,ob,rfl,rfl,rfl⟩ (wk [0] (Y0 fl)) ?_))))))))
    rintro m F h ⟨j,Ld,DV,rfl,rfl,rfl⟩
    refine ar (Z0 1 (ie (aq (ZG ((j:Int)<(((ds.take k).length:Nat):Int)) (fun Xd=>?_) (fun Xd=>?_)))))
    ·have htl:(ds.take k).length<=k:=by rw [Ws];omega
     refine ak (aq (ab 5 (ar ?_)))
     obtain ⟨x3,YH⟩:=Zt (ds.take k) j om
     refine Zp (Zi none (j:Int) 3 (Wj YH)) (Z0 1 (iA [.i 0,.i 0,nl] fun b3=>Zy 0 b3 (UP x3) (ie (ar (Z3 2 [1] (iw (Vz x1.cons) (Xo 10 [0,4,8,12,13,14,74,75,76] [(89,.b (((x1.cons.length:Int)==0)&&((x3.cons.length:Int)==0)))] (fun gz=>gz) ?_ (fun hj3=>?_))))))))
     ·refine Xo 17 [0,4,8,12,13,14,74,75,76] [(96,.b ((((x1.cons.length:Int)==0)&&((x3.cons.length:Int)==0))&&(x3.frm==x1.frm)))] (fun gz=>gz) ?_ (fun hj4=>?_)
      ·refine X8 [0,4,12,13,14,74,75,76] [(103,.b (((((x1.cons.length:Int)==0)&&((x3.cons.length:Int)==0))&&(x3.frm==x1.frm))&&(x3.to_==x1.to_)))] (fun gz=>gz) ?_ ?_
       ·refine Z0 1 (ib (b:=((((x1.cons.length:Int)==0)&&((x3.cons.length:Int)==0))&&(x3.frm==x1.frm))) 97 (fun W2=>?_) (fun W2=>?_))
        ·have Vf:(((x1.cons.length:Int)=0)/\((x3.cons.length:Int)=0))/\(x3.frm=x1.frm):=((YB (YB Zs Zs) Zs)).1 W2
         exact Z3 6 [0,1] (ie (wk [0,0] (Zq (x3.to_==x1.to_) W2 fl)))
        have UM:¬((((x1.cons.length:Int)=0)/\((x3.cons.length:Int)=0))/\(x3.frm=x1.frm)):=Yi (YB (YB Zs Zs) Zs) W2
        exact Z0 6 (ie (wk [0,0] (Zq false W2 fl)))
       refine ac (((((x1.cons.length:Int)==0)&&((x3.cons.length:Int)==0))&&(x3.frm==x1.frm))&&(x3.to_==x1.to_)) (p:=((((x1.cons.length:Int)=0)/\((x3.cons.length:Int)=0))/\(x3.frm=x1.frm))/\(x3.to_=x1.to_)) (YB (YB (YB Zs Zs) Zs) Zs) (fun Vr=>?_) (fun Vr=>?_)
       ·exact ar (Z0 1 (ie (Z9 (ZU (.b false) (lb (Iu Z2 (Sz om (by rw [<-DV om,Y3 YH,Q4,Zk om])) Zm))))))
       exact ak (az (ZE j (Z0 1 (ie (ZI ⟨j+1,ob,(fun q=>by have hq:=DV q;rw [Y3 YH,Q4,Za om] at hq;exact hq),rfl,rfl,rfl⟩ (wk [1] (ZK j fl)))))))
      refine Z0 1 (ib (b:=(((x1.cons.length:Int)==0)&&((x3.cons.length:Int)==0))) 90 (fun WB=>?_) (fun WB=>?_))
      ·have T0:((x1.cons.length:Int)=0)/\((x3.cons.length:Int)=0):=((YB Zs Zs)).1 WB
       exact Z3 6 [0,1] (Yh (wk [0,0] (Zq (x3.frm==x1.frm) WB fl)) hj4)
      have Uy:¬(((x1.cons.length:Int)=0)/\((x3.cons.length:Int)=0)):=Yi (YB Zs Zs) WB
      exact Z0 6 (Yh (wk [0,0] (Zq false WB fl)) hj4)
     refine Z0 2 (ib (b:=((x1.cons.length:Int)==0)) 84 (fun WU=>?_) (fun WU=>?_))
     ·have TK:(x1.cons.length:Int)=0:=(Zs).1 WU
      exact Z3 2 [0] (iw (Vz x3.cons) (Z0 2 (Yh (wk [0,0] (Zq ((x3.cons.length:Int)==0) WU fl)) hj3)))
     have Tv:¬((x1.cons.length:Int)=0):=Yi Zs WU
     exact Z0 5 (Yh (wk [0,0] (Zq false WU fl)) hj3)
    have htl:(ds.take k).length=k:=by rw [Ws];omega
    have hD:x1.cons.length=0->Q4 x1 (ds.take k)=false:=fun q=>by rw [<-DV q,X5 om];rfl
    refine ax 4 (az (ZE k (Z0 1 (ie ?_))))
    have hdr:=Y3 Z2
    exact ZI ⟨k+1,ob,(Zc3 Z2 (SA Zz hC hD) Zm),rfl,rfl,rfl⟩ (wk [] (ZK k fl))
   refine Z0 1 (ib (b:=((!(decide (0<=x1.frm/\x1.frm<=ds.length)))||(!(decide (0<=x1.to_/\x1.to_<=ds.length))))) 31 (fun WH=>?_) (fun WH=>?_))
   ·have QT:(¬(0<=x1.frm/\x1.frm<=ds.length))∨(¬(0<=x1.to_/\x1.to_<=ds.length)):=((Yo (Yx dq) (Yx dq))).1 WH
    exact Z0 5 (Yh (wk [0] (Zq true WH fl)) hj2)
   have QU:¬((¬(0<=x1.frm/\x1.frm<=ds.length))∨(¬(0<=x1.to_/\x1.to_<=ds.length))):=Yi (Yo (Yx dq) (Yx dq)) WH
   exact Z3 2 [0] (iw (Vz x1.cons) (Z0 2 (Yh (wk [0] (Zq (decide ((x1.cons.length:Int)>3)) WH fl)) hj2)))
  refine Z0 2 (ib (b:=(!(decide (0<=x1.frm/\x1.frm<=ds.length)))) 24 (fun WI=>?_) (fun WI=>?_))
  ·have Aj:¬(0<=x1.frm/\x1.frm<=ds.length):=((Yx dq)).1 WI
   exact Z0 6 (Yh (wk [0] (Zq true WI fl)) hj1)
  have Ko:¬(¬(0<=x1.frm/\x1.frm<=ds.length)):=Yi (Yx dq) WI
  exact Z3 3 [0] (Zx [] (EG ds x1.to_) (Z0 2 (Yh (wk [0] (Zq (!(decide (0<=x1.to_/\x1.to_<=ds.length))) WI fl)) hj1)))
 exact ax 0 (ar (Z0 1 (ie (Z9 (ZU (.b true) (lb (Zc2 om om Zm)))))))
theorem EF (op:Int) :Zl 66 [.i op] [] (Y7 (.b (Yb op))):=by
 refine ZC 9 Tryz.func66 (ar (Z0 1 (ie (ar (Xo 6 [] [(8,.b ((decide (op>=14))&&(decide (op<=17))))] (fun gz=>gz) ?_ (fun hj1=>?_))))))
 ·exact Z0 1 (ie (Z9 (ZU (.b ((decide (op>=14))&&(decide (op<=17)))) (lb (by rw [Yb,Xf];simp)))))
 refine Z0 3 (ib (b:=(decide (op>=14))) 5 (fun Zf=>?_) (fun Zf=>?_))
 ·exact Z0 3 (Yh (wk [] (Zq (decide (op<=17)) Zf fl)) hj1)
 exact Z0 3 (Yh (wk [] (Zq false Zf fl)) hj1)
theorem Z3z (b:Z5) (c:Nat) (v:Int) (hb:b.sz<=1000000000:=by exact ob) (hv:0<=v/\v<=600:=by exact ob) (ih:∀(b2:Z5) (c:Nat) (v:Int),(b2.sz<b.sz)->(0<=v/\v<=600)->Zl 63 [ZD b2,.p c 0] [.obj c [.i v]] (fun r h=>(r=.b true/\h=[.obj c [.i (600-XY b2 (600-v))]]/\0<=XY b2 (600-v))∨(r=.b false/\h=[]/\XY b2 (600-v)<0))):Zl 63 [ZD b,.p c 0] [.obj c [.i v]] (fun r h=>(r=.b true/\h=[.obj c [.i (600-XY b (600-v))]]/\0<=XY b (600-v))∨(r=.b false/\h=[]/\XY b (600-v)<0)):=by
 have hbz:=WX b
 have hbe:=Na b (600-v)
 refine ZC 38 Tryz.func63 (ar (iA (YR b) fun b1=>?_))
 refine Z0 1 (ie (aq (ar (Z3 2 [0] (iw (WS b.steps) (Z0 1 (ie (ab 0 (ZW (fun fz gz m F h=>∃(k:Nat) (q:Int),(k<=b.steps.length)/\(0<=q/\q<=600)/\(Vu (b.steps.drop k) (600-q)=Vu b.steps (600-v))/\F=sF [1,10,11] fz [(12,.i k)]/\h=[.obj c [.i q]]/\m=b.steps.length-k) _ _ _ ⟨0,v,ob,ob,rfl,rfl,rfl,rfl⟩ (wk [1] (Y0 fl)) ?_)))))))))
 rintro m F h ⟨k,q,Y6,Zm,Zv,rfl,rfl,rfl⟩
 refine ar (Z0 1 (ie (aq (ZG ((k:Int)<(b.steps.length:Int)) (fun Zb=>?_) (fun Zb=>?_)))))
 ·refine ak (aq (ab 1 (ar ?_)))
  obtain ⟨x1,Z2⟩:=Zt b.steps k om
  have hss:=TU Z2
  have hkz:=U7 x1
  refine Zp (Zi none (k:Int) 5 (W6 Z2)) (Z0 1 (iA [.i 0,.i 0,.i 0,nl,nl] fun b2=>Zy 0 b2 (Xa x1) (ie (aq (ar (Z3 3 [1] (ia ((q+1)) ((q)+(1)) (Z0 1 (Zy 1 c [.i (q+1)] (ie (ar (Z3 4 [0] (ie (ZG ((q+1)>600) (fun Zg=>?_) (fun Zg=>?_)))))))))))))))
  ·exact ar (Z0 1 (ie (Z9 (r1 [] (.inr ⟨rfl,rfl,(by rw [hbe,<-Zv,Y3 Z2,Vu,Zk om];omega)⟩)))))
  refine ak (ar (Z3 2 [1] (iw (Vb x1.kids) (Z0 1 (ie (ab 2 (ZW (fun fz gz m F h=>∃(j:Nat) (j2:Int),(j<=x1.kids.length)/\(0<=j2/\j2<=600)/\(VF (x1.kids.drop j) (600-j2)=VF x1.kids (600-(q+1)))/\F=sF [1,10,11,12,26,27] fz [(28,.i j)]/\h=[.obj c [.i j2]]/\m=x1.kids.length-j) _ _ _ ⟨0,(q+1),ob,ob,rfl,rfl,rfl,rfl⟩ (wk [0] (Y0 fl)) ?_)))))))
  rintro m F h ⟨j,j2,Vl,XD,Xm,rfl,rfl,rfl⟩
  refine ar (Z0 1 (ie (aq (ZG ((j:Int)<(x1.kids.length:Int)) (fun Zz=>?_) (fun Zz=>?_)))))
  ·refine ak (aq (ab 3 (ar ?_)))
   obtain ⟨x2,Zo⟩:=Zt x1.kids j om
   have hks:=U6 Zo
   have hle:=D9.2 x2 (600-j2) om
   refine Zp (Zi none (j:Int) 2 (VP Zo)) (Z0 1 (iA [nl,.i 0] fun b3=>Zy 0 b3 (YR x2) (ie (ar (Z3 2 [0] (ic [1] (ih x2 c j2 ob ob) ?_))))))
   rintro _ _ (⟨rfl,rfl,Y2⟩|⟨rfl,rfl,Ym⟩)
   ·refine Z0 1 (ie (WF (ak (az (ZE j (Z0 1 (ie ?_)))))))
    have hdr:=Y3 Zo
    exact ZI ⟨j+1,(600-XY x2 (600-j2)),ob,ob,(by rw [Y3 Zo,VF,Za om] at Xm;rw [show 600-(600-XY x2 (600-j2))=XY x2 (600-j2) by omega];exact Xm),rfl,rfl,rfl⟩ (wk [0] (ZK j fl))
   exact Z0 1 (ie (WG (ar (Z0 1 (ie (Z9 (r1 [] (.inr ⟨rfl,rfl,(by rw [hbe,<-Zv,Y3 Z2,Vu,Za om,Zk (by rw [ES,show (600-q-1:Int)=600-(q+1) by omega,<-Xm,Y3 Zo,VF,Zk Ym];omega)];omega)⟩))))))))
  have hE:VF x1.kids (600-(q+1))=600-j2:=by rw [<-Xm,X5 om,VF]
  refine ax 2 (az (ZE k (Z0 1 (ie ?_))))
  have hdr:=Y3 Z2
  exact ZI ⟨k+1,j2,ob,ob,(by rw [Y3 Z2,Vu,Za om,ES,show (600-q-1:Int)=600-(q+1) by omega,hE,Za om] at Zv;exact Zv),rfl,rfl,rfl⟩ (wk [0] (ZK k fl))
 refine ax 0 (ar (Z0 1 (ie ?_)))
 have hF:XY b (600-v)=600-q:=by rw [hbe,<-Zv,X5 om,Vu]
 exact Z9 (r1 [0] (.inl ⟨rfl,rfl,om⟩) (eq:=(ro (ls:=[.i q]) (by rw [hF,show (600-(600-q):Int)=q by omega]) rz)))
theorem Z3y:∀(b:Z5) (c:Nat) (v:Int),(b.sz<=1000000000)->(0<=v/\v<=600)->Zl 63 [ZD b,.p c 0] [.obj c [.i v]] (fun r h=>(r=.b true/\h=[.obj c [.i (600-XY b (600-v))]]/\0<=XY b (600-v))∨(r=.b false/\h=[]/\XY b (600-v)<0)):=by
 have key:∀m:Nat,∀(b:Z5) (c:Nat) (v:Int),(b.sz<=m)->(b.sz<=1000000000)->(0<=v/\v<=600)->Zl 63 [ZD b,.p c 0] [.obj c [.i v]] (fun r h=>(r=.b true/\h=[.obj c [.i (600-XY b (600-v))]]/\0<=XY b (600-v))∨(r=.b false/\h=[]/\XY b (600-v)<0)):=by
  intro m
  induction m with
  | zero=>intro b c v h;have:=b.sz_pos;omega
  | succ m ih=>intro b c v h1 h2 h3;exact Z3z b c v h2 h3 fun b2 c2 v2 k1 k2=>ih b2 c2 v2 om om k2
 intro b c v h2 h3
 exact key b.sz b c v (YU _) h2 h3
theorem Z3o (b:Z5) (hb:b.sz<=1000000000:=by exact ob):Zl 22 [ZD b] [] (Y7 (.i (Um b))):=by
 refine ZC 8 Tryz.func22 (ar (iA (YR b) fun b1=>Z0 1 (ie (ar (iA [.i 0] fun b2=>Zy 0 b2 [.i 0] (ie (aq (ar (Z3 1 [1] (ic [0] (Z3y b b2 0 ob ob) ?_))))))))))
 rintro _ _ (⟨rfl,rfl,Y2⟩|⟨rfl,rfl,Ym⟩)
 ·have h0:=Y2
  rw [show (600-0:Int)=600 from rfl] at h0
  exact Z0 1 (ie (WF (ak (ar (Z3 2 [0] (ie (Z9 (ZU (.i (600-XY b (600-0))) (li (by rw [show (600-0:Int)=600 from rfl,Um,Za om]))))))))))
 have h0:=Ym
 rw [show (600-0:Int)=600 from rfl] at h0
 exact Z0 1 (ie (WG (ar (Z0 1 (ie (Z9 (ZU (.i (-1)) (li (by rw [Um,Zk h0])))))))))
theorem Z4c (ds:List Zd) (fs:List WE) (hz:Qp ds:=by exact ob) (hf:∀f∈fs,f.pms.length<=4194304/\f.lnt.length<=4194304) (hfl:fs.length<=4194304:=by exact ob):Zl 90 [Y8 ds,C3 fs] [] (Y7 (.b (K8 ds fs))):=by
 have hzl:=hz.len
 refine ZC 102 Tryz.func90 (ar (Z0 1 (ie (aq (ar (Z0 1 (Zx [] (Z3p ds) (Xo 8 [0,1] [(16,.b ((!Wr ds)||(decide ((fs.length:Int)<1))))] (fun gz=>gz) ?_ (fun hj1=>?_)))))))))
 ·refine Xo 13 [0,1] [(21,.b (((!Wr ds)||(decide ((fs.length:Int)<1)))||(decide ((fs.length:Int)>4))))] (fun gz=>gz) ?_ (fun hj2=>?_)
  ·refine Z0 1 (ib (b:=(((!Wr ds)||(decide ((fs.length:Int)<1)))||(decide ((fs.length:Int)>4)))) 22 (fun Zf=>?_) (fun Zf=>?_))
   ·have Y2:((¬(Wr ds=true))∨((fs.length:Int)<1))∨((fs.length:Int)>4):=((Yo (Yo (Yx Iff.rfl) dq) dq)).1 Zf
    exact Z0 14 (ie (WG (ar (Z0 1 (ie (Z9 (ZU (.b false) (lb (Zc8 (by assumption))))))))))
   have Ym:¬(((¬(Wr ds=true))∨((fs.length:Int)<1))∨((fs.length:Int)>4)):=Yi (Yo (Yo (Yx Iff.rfl) dq) dq) Zf
   refine Z0 1 ?_
   obtain ⟨x1,Z2⟩:=Zt fs 0 om
   refine Zp (Zi none 0 3 (BJ Z2)) (Z0 2 (iw (Y9 x1.pms) (Z0 3 (ib (b:=(decide ((x1.pms.length:Int)>0))) 30 (fun ZF=>?_) (fun ZF=>?_)))))
   ·have YN:(x1.pms.length:Int)>0:=(dq).1 ZF
    exact Z0 6 (ie (WG (ar (Z0 1 (ie (Z9 (ZU (.b false) (lb (PI Z2 (.inl (by assumption)))))))))))
   have YW:¬((x1.pms.length:Int)>0):=Yi dq ZF
   refine Z0 1 (Zp (Zi none 0 3 (BJ Z2)) (Z0 4 (ie (ac (x1.res != 0) Yf (fun Zb=>?_) (fun Zb=>?_)))))
   ·exact ar (Z0 1 (ie (Z9 (ZU (.b false) (lb (PI Z2 (.inr Zb)))))))
   refine ak (aq (ar (Z0 1 (iw (CA fs) (Z0 1 (ie (ab 0 (ZW (fun fz gz m F h=>∃(k:Nat),(k<=fs.length)/\(QC ds.length (fs.drop k)=QC ds.length fs)/\F=sF [0,37,38] fz [(39,.i k)]/\h=gz/\m=fs.length-k) _ _ _ ⟨0,ob,ob,rfl,rfl,rfl⟩ (wk [] (Y0 fl)) ?_))))))))
   rintro m F h ⟨k,Y6,Zm,rfl,rfl,rfl⟩
   refine ar (Z0 1 (ie (aq (ZG ((k:Int)<(fs.length:Int)) (fun Zg=>?_) (fun Zg=>?_)))))
   ·refine ak (aq (ab 1 (ar ?_)))
    obtain ⟨x2,Zo⟩:=Zt fs k om
    have hf2:=hf _ (ZZ Zo)
    refine Zp (Zi none (k:Int) 3 (BJ Zo)) (Z0 1 (iA [nl,nl,.i 0] fun b1=>Zy 0 b1 (N5 x2) (ie (aq (ar (Z3 2 [0] (iw (Y9 x2.pms) (Xo 11 [0,6,37,38,39] [(53,.b ((decide ((x2.pms.length:Int)>3))||(!XU ds.length x2.pms)))] (fun gz=>gz) ?_ (fun hj3=>?_)))))))))
    ·refine X8 [0,6,37,38,39] [(60,.b (((decide ((x2.pms.length:Int)>3))||(!XU ds.length x2.pms))||(!(decide (0<=x2.res/\x2.res<=ds.length)))))] (fun gz=>gz) ?_ ?_
     ·refine Z0 1 (ib (b:=((decide ((x2.pms.length:Int)>3))||(!XU ds.length x2.pms))) 54 (fun Yv=>?_) (fun Yv=>?_))
      ·have X9:((x2.pms.length:Int)>3)∨(¬(XU ds.length x2.pms=true)):=((Yo dq (Yx Iff.rfl))).1 Yv
       exact Z0 6 (ie (wk [0] (Zq true Yv fl)))
      have XX:¬(((x2.pms.length:Int)>3)∨(¬(XU ds.length x2.pms=true))):=Yi (Yo dq (Yx Iff.rfl)) Yv
      exact Z3 3 [0] (Zx [] (EG ds x2.res) (Z0 2 (ie (wk [0] (Zq (!(decide (0<=x2.res/\x2.res<=ds.length))) Yv fl)))))
     refine ac (((decide ((x2.pms.length:Int)>3))||(!XU ds.length x2.pms))||(!(decide (0<=x2.res/\x2.res<=ds.length)))) (p:=(((x2.pms.length:Int)>3)∨(¬(XU ds.length x2.pms=true)))∨(¬(0<=x2.res/\x2.res<=ds.length))) (Yo (Yo dq (Yx Iff.rfl)) (Yx dq)) (fun Zz=>?_) (fun Zz=>?_)
     ·exact ar (Z0 1 (ie (Z9 (ZU (.b false) (lb (FD (Fo Zo (Z8w Zz) Zm)))))))
     refine ak (ar (Z3 2 [0] (iw (Y9 x2.lnt) (Z0 1 (ie (ab 2 (ZW (fun fz gz m F h=>∃(j:Nat),(j<=x2.lnt.length)/\(Qz x2.pms (x2.lnt.drop j) (if j=0 then none else x2.lnt[j-1]?)=Kx x2.pms x2.lnt)/\F=sF [0,6,37,38,39,62,63] fz [(64,.i j)]/\h=gz/\m=x2.lnt.length-j) _ _ _ ⟨0,ob,(by rfl),rfl,rfl,rfl⟩ (wk [0] (Y0 fl)) ?_)))))))
     rintro m F h ⟨j,Vl,XD,rfl,rfl,rfl⟩
     refine ar (Z0 1 (ie (aq (ZG ((j:Int)<(x2.lnt.length:Int)) (fun Yd=>?_) (fun Yd=>?_)))))
     ·refine ak (aq (ab 3 (ar (Z0 1 ?_))))
      obtain ⟨x3,YH⟩:=Zt x2.lnt j om
      refine Zp (Zi none (j:Int) 1 (ZY YH)) (Z0 3 (ie (ar (Xo 9 [0,6,7,8,37,38,39,62,63,64] [(77,.b ((decide (x3<0))||(decide (x3>=(x2.pms.length:Int)))))] (fun gz=>gz) ?_ (fun hj4=>?_)))))
      ·refine Z0 1 (ib (b:=((decide (x3<0))||(decide (x3>=(x2.pms.length:Int))))) 78 (fun YX=>?_) (fun YX=>?_))
       ·have Wv:(x3<0)∨(x3>=(x2.pms.length:Int)):=((Yo dq dq)).1 YX
        exact Z0 21 (ie (WG (ar (Z0 1 (ie (Z9 (ZU (.b false) (lb (FD (Fo Zo (HX (Hw YH (by rintro ⟨q1,q2,q3⟩;first|omega|(rw [Vs] at q2;exact q2 (Ya some om))|(have:=q3 _ (by rw [Za om];exact UN);omega)) XD)) Zm))))))))))
       have V7:¬((x3<0)∨(x3>=(x2.pms.length:Int))):=Yi (Yo dq dq) YX
       refine Z3 3 [0] ?_
       obtain ⟨x4,Vs⟩:=Zt x2.pms x3.toNat om
       refine Zp (Zi none x3 1 (ZY Vs)) (Z0 4 (ib (b:=(x4==0)) 86 (fun W2=>?_) (fun W2=>?_)))
       ·have Vf:x4=0:=(Zs).1 W2
        exact Z0 13 (ie (WG (ar (Z0 1 (ie (Z9 (ZU (.b false) (lb (FD (Fo Zo (HX (Hw YH (by rintro ⟨q1,q2,q3⟩;first|omega|(rw [Vs] at q2;exact q2 (Ya some om))|(have:=q3 _ (by rw [Za om];exact UN);omega)) XD)) Zm))))))))))
       have UM:¬(x4=0):=Yi Zs W2
       refine Z0 3 (ib (b:=(decide ((j:Int)>0))) 89 (fun WB=>?_) (fun WB=>?_))
       ·have T0:(j:Int)>0:=(dq).1 WB
        refine Z3 4 [0] (ia (((j-1:Nat):Int)) (((j:Int))-(1)) ?_)
        obtain ⟨x5,UN⟩:=Zt x2.lnt (j-1) om
        refine Zp (Zi none ((j-1:Nat):Int) 1 (ZY UN)) (Z0 4 (ie (ZG (x3<=x5) (fun X2=>?_) (fun X2=>?_))))
        ·exact ar (Z0 1 (ie (Z9 (ZU (.b false) (lb (FD (Fo Zo (HX (Hw YH (by rintro ⟨q1,q2,q3⟩;first|omega|(rw [Vs] at q2;exact q2 (Ya some om))|(have:=q3 _ (by rw [Za om];exact UN);omega)) XD)) Zm)))))))
        refine ak (az (ZE j (Z0 1 (ie ?_))))
        have hdr:=Y3 YH
        exact ZI ⟨j+1,ob,(Nf YH ⟨by omega,(by rw [Vs];intro q;cases q;omega),fun p hp=>by first|(rw [Zk om] at hp;cases hp;done)|(rw [Za om,UN] at hp;cases hp;omega)⟩ XD),rfl,rfl,rfl⟩ (wk [0] (ZK j fl))
       have Uy:¬((j:Int)>0):=Yi dq WB
       refine Z0 10 (ie (WF (ak (az (ZE j (Z0 1 (ie ?_)))))))
       have hdr:=Y3 YH
       exact ZI ⟨j+1,ob,(Nf YH ⟨by omega,(by rw [Vs];intro q;cases q;omega),fun p hp=>by first|(rw [Zk om] at hp;cases hp;done)|(rw [Za om,UN] at hp;cases hp;omega)⟩ XD),rfl,rfl,rfl⟩ (wk [0] (ZK j fl))
      refine Z0 3 (ib (b:=(decide (x3<0))) 71 (fun WU=>?_) (fun WU=>?_))
      ·have TK:x3<0:=(dq).1 WU
       exact Z0 6 (Yh (wk [0] (Zq true WU fl)) hj4)
      have Tv:¬(x3<0):=Yi dq WU
      exact Z3 3 [0] (iw (Y9 x2.pms) (Z0 2 (Yh (wk [0] (Zq (decide (x3>=(x2.pms.length:Int))) WU fl)) hj4)))
     have hL:Kx x2.pms x2.lnt=true:=by rw [<-XD,X5 om];rfl
     have hS:=Z8x Zz hL
     refine ax 2 (az (ZE k (Z0 1 (ie ?_))))
     have hdr:=Y3 Zo
     exact ZI ⟨k+1,ob,(Z9g Zo hS Zm),rfl,rfl,rfl⟩ (wk [] (ZK k fl))
    refine Z0 2 (ib (b:=(decide ((x2.pms.length:Int)>3))) 47 (fun WH=>?_) (fun WH=>?_))
    ·have QT:(x2.pms.length:Int)>3:=(dq).1 WH
     exact Z0 6 (Yh (wk [0] (Zq true WH fl)) hj3)
    have QU:¬((x2.pms.length:Int)>3):=Yi dq WH
    exact Z3 3 [0] (Zx [] (ME ds x2.pms) (Z0 2 (Yh (wk [0] (Zq (!XU ds.length x2.pms) WH fl)) hj3)))
   exact ax 0 (ar (Z0 1 (ie (Z9 (ZU (.b true) (lb (Zc9 (by assumption) Z2 (by assumption) Zb (by rw [<-Zm,X5 om];rfl))))))))
  refine Z0 1 (ib (b:=((!Wr ds)||(decide ((fs.length:Int)<1)))) 17 (fun WI=>?_) (fun WI=>?_))
  ·have Aj:(¬(Wr ds=true))∨((fs.length:Int)<1):=((Yo (Yx Iff.rfl) dq)).1 WI
   exact Z0 4 (Yh (wk [] (Zq true WI fl)) hj2)
  have Ko:¬((¬(Wr ds=true))∨((fs.length:Int)<1)):=Yi (Yo (Yx Iff.rfl) dq) WI
  exact Z0 1 (iw (CA fs) (Z0 2 (Yh (wk [] (Zq (decide ((fs.length:Int)>4)) WI fl)) hj2)))
 refine Z0 2 (ib (b:=(!Wr ds)) 12 (fun TI=>?_) (fun TI=>?_))
 ·have Mx:¬(Wr ds=true):=((Yx Iff.rfl)).1 TI
  exact Z0 4 (Yh (wk [] (Zq true TI fl)) hj1)
 have My:¬(¬(Wr ds=true)):=Yi (Yx Iff.rfl) TI
 exact Z0 1 (iw (CA fs) (Z0 2 (Yh (wk [] (Zq (decide ((fs.length:Int)<1)) TI fl)) hj1)))
theorem Z44 (n:Zr) (hz:Ud n:=by exact ob):Zl 54 [Yc n] [] (fun r h=>(r=.tup [.agg [Y8 n.decls,Tk n],.b (VR n)]/\h=[]/\n.routines.length<=4)∨(r=.tup [.agg [Y8 [],C3 []],.b false]/\h=[]/\VR n=false)):=by
 have hzl:=hz.len
 refine ZC 41 Tryz.func54 (ar (iA (Yz n) fun b1=>iA [nl,nl] fun b2=>Z0 1 (ie (aq (ar (Z3 2 [1] (iw (Vo n.routines) (Z0 1 (ie (ZG ((n.routines.length:Int)>4) (fun Zb=>?_) (fun Zb=>?_)))))))))))
 ·exact ar (Z0 1 (Zy 0 b2 [nl,nl] (Z0 1 (ie (Z9 (r3 [] [.agg [nl,nl],.b false] [0] [(b2,b2)] (.inr ⟨rfl,rfl,(by rw [Nm,decide_eq_false om];rfl)⟩) (Zc.tup (.cons (Zc.agg (.cons (Zc.sl _ rfl) (.cons (Zc.sl _ rfl) .nil))) (.cons (lr _) .nil)))))))))
 refine ak (ar (Z3 3 [1] (iA [nl,nl] fun b3=>?_)))
 refine Zy 0 b3 [Y8 n.decls,nl] (ie (aq (ar (Z3 2 [2] (iw (Vo n.routines) (Z0 1 (ie (ab 0 (AP 3 (ZW (fun fz gz m F h=>∃(k:Nat) (v:Value),(k<=n.routines.length)/\F=sF [1,2,4,16,17] fz [(18,.i k)]/\h=[.obj b3 [Y8 n.decls,F3 ((n.routines.take k).map XH) v],Zh gz 2,Zh gz 3,.tail v 3]/\m=n.routines.length-k) _ _ _ ⟨0,(.slice none 0 0),ob,rfl,rfl,rfl⟩ (wk [1,1,1,0] (Y0 fl)) ?_))))))))))
 rintro m F h ⟨k,v,Y6,rfl,rfl,rfl⟩
 refine ar (Z0 1 (ie (aq (ZG ((k:Int)<(n.routines.length:Int)) (fun Zg=>?_) (fun Zg=>?_)))))
 ·refine ak (aq (ab 1 (ar ?_)))
  obtain ⟨x1,Z2⟩:=Zt n.routines k om
  refine Zp (Zi none (k:Int) 5 (Wk Z2)) (Z0 1 (iA [nl,nl,.i 0,nl,.i 0] fun b4=>Zy 0 b4 (Tc x1) (ie (az (Z3 9 [1,0,0,0] (iL (UJ [WE.mk x1.params x1.lent x1.result]) 1 3 fun v1=>ZM 0 [(31,C3 [WE.mk x1.params x1.lent x1.result])] (ip 5 (UJ ((n.routines.take (k+1)).map XH)) (UJ ((n.routines.take k).map XH)) (UJ [WE.mk x1.params x1.lent x1.result]) v none 3 (Lx _) (Lx _) (Z00 _) (by simp<;>omega) (by rw [Wq Z2];simp [UJ,XH]) fun v2=>Z0 1 (Zy 3 b3 [Y8 n.decls,F3 ((n.routines.take (k+1)).map XH) v2] (ie (az (ZE k (Z0 1 (ie ?_)))))))))))))
  have hdr:=Y3 Z2
  exact ZI ⟨k+1,v2,ob,rfl,rfl,rfl⟩ (wk [0,3,3,0] (ZK k fl))
 refine ax 0 (aD 8 (BD 3 8 [0,1,2,3,4] [(39,C3 ((n.routines.take k).map XH))] [0,2,0] (Z8 5 (Ye 5 [] [0] [b3] (Z4c n.decls ((n.routines.take k).map XH) (hz:=hz.decls) (hf:=(by intro f hf;obtain ⟨r,h1,rfl⟩:=XC.1 hf;have:=TY h1;exact ⟨hz.params r this,hz.lent r this⟩))) (Z8 6 (YA 6 1 [] [] b2 [Y8 n.decls,F3 ((n.routines.take k).map XH) v] (Zj 0 1 [7] (de ?_))))))))
 have htk:n.routines.take k=n.routines:=WK om
 exact Z9 (r3 [] [.agg [Y8 n.decls,F3 ((n.routines.take k).map XH) v],.b (K8 n.decls ((n.routines.take k).map XH))] [0] [(b2,b2)] (.inl ⟨rfl,rfl,om⟩) (Zc.tup (.cons (Zc.agg (.cons (lr _) (.cons (Zc.sl _ (Ya UJ (by rw [htk]))) .nil))) (.cons (lb (by rw [htk,Nm,decide_eq_true (p:=n.routines.length<=4) om,Bool.true_and])) .nil))))
theorem Z49 (n:Zr) (t:Int) (hn:X1 n:=by exact ob):Zl 131 [.agg [Y8 n.decls,Tk n],.i t] [] (Y7 (K0 ((ZQ n.decls t).map (ZP n.decls)))):=by
 have Xn:=hn.decls
 have hcl:=HC Xn t
 refine ZC 26 Tryz.func131 (ar (iA [Y8 n.decls,Tk n] fun b1=>?_))
 refine Z0 1 (ie (ar (Z0 1 (ie (aq (ar (Z3 3 [0] (Zx [] (Z3x n.decls t) (io (.i (((ZQ n.decls t).length:Nat):Int)) (.i (((Z7 (ZQ n.decls t)).length:Nat):Int)) (li (by rw [Y9])) (Z0 1 (ie (ab 0 (AP 1 (ZW (fun fz gz m F h=>∃(k:Nat) (v:Value),(k<=(ZQ n.decls t).length)/\F=sF [2,11,12] fz [(5,C5 (((ZQ n.decls t).take k).map (ZP n.decls)) v),(13,.i k)]/\h=[Zh gz 1,.tail v 1]/\m=(ZQ n.decls t).length-k) _ _ _ ⟨0,(.slice none 0 0),ob,rfl,rfl,rfl⟩ (wk [1,0] (fc (x:=nl) (Zc.slh _ rfl) (Y0 fl))) ?_))))))))))))))
 rintro m F h ⟨k,v,Y6,rfl,rfl,rfl⟩
 refine ar (Z0 1 (ie (aq (ZG ((k:Int)<(((ZQ n.decls t).length:Nat):Int)) (fun Zb=>?_) (fun Zb=>?_)))))
 ·refine ak (aq (ab 1 (ar ?_)))
  obtain ⟨x1,Z2⟩:=Zt (ZQ n.decls t) k om
  refine Zp (Zi none (k:Int) 1 (ZY Z2)) (Z0 2 (ie (az (Z3 4 [0] (Zx [] (Z40 n.decls x1 (hc:=(by have:=S6 Xn Z2;omega))) (iL (W4 [ZP n.decls x1]) 1 1 fun v1=>ZM 0 [(22,K0 [ZP n.decls x1])] (ip 2 (W4 (((ZQ n.decls t).take (k+1)).map (ZP n.decls))) (W4 (((ZQ n.decls t).take k).map (ZP n.decls))) (W4 [ZP n.decls x1]) v none 1 (Ac _) (Ac _) (Eb _) (by simp;omega) (by rw [Wq Z2];simp [W4]) fun v2=>Z0 1 (ie (az (ZE k (Z0 1 (ie ?_))))))))))))
  have hdr:=Y3 Z2
  exact ZI ⟨k+1,v2,ob,rfl,rfl,rfl⟩ (wk [2,0] (fr (ZK k fl)))
 exact ax 0 (ar (Z0 2 (ie (Z9 (ZU (C5 (((ZQ n.decls t).take k).map (ZP n.decls)) v) (Zc.sl _ (Ya W4 (by rw [WK om]))))))))
theorem Z4a (n:Zr) (op:Int) (num:Int) (ts:LI) (hn:X1 n:=by exact ob) (hl_ts:ts.length<=4294967296:=by exact ob) (hnum:-9223372036854775808<=num/\num<=9223372036854775807:=by exact ob):Zl 132 [.agg [Y8 n.decls,Tk n],.i op,.i num,Z6 ts] [] (fun r h=>∃(t:Int),r=.tup [.i t,.b ((Xq n op num ts).isSome)]/\h=[]/\∀x,Xq n op num ts=some x->t=x):=by
 have Xn:=hn.decls
 have hrl:=hn.len
 have hcfl:(ZP n.decls num).length<=4294967296:=by have:=VN Xn num;omega
 have hdl:n.decls.length<=4294967296:=by have:=Xn.len;omega
 refine ZC 149 Tryz.func132 (ar (iA [Y8 n.decls,Tk n] fun b1=>Z0 2 (ie (ar (Z0 2 (ie (aq (ar (Z0 1 (ie (ab 0 (ar (Z0 2 (ie (ac (op==0) Zs (fun Zb=>?_) (fun Zb=>?_))))))))))))))))
 ·refine ar (Xo 6 [3] [(26,.b ((decide (num>=(-999)))&&(decide (num<=999))))] (fun gz=>gz) ?_ (fun hj1=>?_))
  ·refine Xo 11 [] [(31,.b (((decide (num>=(-999)))&&(decide (num<=999)))&&((ts.length:Int)==0)))] (fun gz=>gz) ?_ (fun hj2=>?_)
   ·refine Z0 2 (ie ?_)
    have hF:=sf0 (n:=n) (num:=num) (ts:=ts) Zb
    exact Z9 (r2 [] [.i 0,.b (((decide (num>=(-999)))&&(decide (num<=999)))&&((ts.length:Int)==0))] ⟨0,rfl,rfl,(Av hF)⟩ (Zc.tup (.cons (lr _) (.cons (lb (Au hF (by simp [*];try omega))) .nil))))
   refine Z0 1 (ib (b:=((decide (num>=(-999)))&&(decide (num<=999)))) 27 (fun Zf=>?_) (fun Zf=>?_))
   ·have Y2:(num>=(-999))/\(num<=999):=((YB dq dq)).1 Zf
    exact Z0 1 (iw (Y9 ts) (Z0 2 (Yh (wk [0] (Zq ((ts.length:Int)==0) Zf fl)) hj2)))
   have Ym:¬((num>=(-999))/\(num<=999)):=Yi (YB dq dq) Zf
   exact Z0 4 (Yh (wk [0] (Zq false Zf fl)) hj2)
  refine Z0 3 (ib (b:=(decide (num>=(-999)))) 23 (fun ZF=>?_) (fun ZF=>?_))
  ·have YN:num>=(-999):=(dq).1 ZF
   exact Z0 3 (Yh (wk [0] (Zq (decide (num<=999)) ZF fl)) hj1)
  have YW:¬(num>=(-999)):=Yi dq ZF
  exact Z0 3 (Yh (wk [0] (Zq false ZF fl)) hj1)
 refine aq (ar (Z0 2 (ie (XE (fun fz gz F h=>F=sF [1,2,3,4,11,18] fz [(32,.b ((op==1)||((op==2)||((op==3)||(op==4)))))]/\h=gz) ?_ ?_))))
 ·refine ac (op==1) Zs (fun Zg=>?_) (fun Zg=>?_)
  ·exact ak (ZO ⟨rfl,rfl⟩ (wk [0] (fc (x:=.b (op==1)) (lb (by first|rfl|(rw [Zk Zg])|(rw [Za Zg])|(simp [Zg];done)|(rw [Xf];simp [Zg];done)|omega)) fl)))
  refine ar (Z0 2 (ie (ac (op==2) Zs (fun Zz=>?_) (fun Zz=>?_))))
  ·exact ak (ZO ⟨rfl,rfl⟩ (wk [0] (fc (x:=.b (op==2)) (lb (by first|rfl|(rw [Zk Zg])|(rw [Za Zg])|(simp [Zg,Zz];done)|(rw [Xf];simp [Zg,Zz];done)|omega)) fl)))
  refine ar (Z0 2 (ie (ac (op==3) Zs (fun Yd=>?_) (fun Yd=>?_))))
  ·exact ak (ZO ⟨rfl,rfl⟩ (wk [0] (fc (x:=.b (op==3)) (lb (by first|rfl|(rw [Zk Zg])|(rw [Za Zg])|(simp [Zg,Zz,Yd];done)|(rw [Xf];simp [Zg,Zz,Yd];done)|omega)) fl)))
  exact az (Z0 2 (ie (ZO ⟨rfl,rfl⟩ (wk [0] (fc (x:=.b (op==4)) (lb (by first|rfl|(rw [Zk Zg])|(rw [Za Zg])|(simp [Zg,Zz,Yd];done)|(rw [Xf];simp [Zg,Zz,Yd];done)|omega)) fl)))))
 rintro F h ⟨rfl,rfl⟩
 refine ac ((op==1)||((op==2)||((op==3)||(op==4)))) (p:=(op=1)∨((op=2)∨((op=3)∨(op=4)))) (Yo Zs (Yo Zs (Yo Zs Zs))) (fun X2=>?_) (fun X2=>?_)
 ·refine az (iL (Z7 [0,0]) 2 1 fun v1=>Z0 1 (ie (ar (Xo 8 [] [(141,.i 0),(148,.b ((num==0)&&(decide (ts=[0,0]))))] (fun gz=>gz) ?_ (fun hj3=>?_)))))
  ·refine Z0 2 (ie ?_)
   have hF:=sf1 (n:=n) (num:=num) (ts:=ts) X2
   exact Z9 (r2 [] [.i 0,.b ((num==0)&&(decide (ts=[0,0])))] ⟨0,rfl,rfl,(Av hF)⟩ (Zc.tup (.cons (lr _) (.cons (lb (Au hF (by simp [*];try omega))) .nil))))
  refine Z0 4 (ib (b:=(num==0)) 144 (fun Yv=>?_) (fun Yv=>?_))
  ·have X9:num=0:=(Zs).1 Yv
   exact ZM 2 [(146,Z6 [0,0])] (Zx [] (Dv ts [0,0]) (Z0 1 (Yh (wk [0,0] (fr (Zq (decide (ts=[0,0])) Yv fl))) hj3)))
  have XX:¬(num=0):=Yi Zs Yv
  exact Z0 4 (Yh (wk [0,0] (fr (Zq false Yv fl))) hj3)
 refine ar (Z0 2 (ie (ac (op==5) Zs (fun Xd=>?_) (fun Xd=>?_))))
 ·refine az (iL (Z7 [0]) 1 1 fun v2=>Z0 1 (ie (ar (Xo 8 [] [(141,.i 0),(148,.b ((num==0)&&(decide (ts=[0]))))] (fun gz=>gz) ?_ (fun hj4=>?_)))))
  ·refine Z0 2 (ie ?_)
   have hF:=sf5 (n:=n) (num:=num) (ts:=ts) Xd
   exact Z9 (r2 [] [.i 0,.b ((num==0)&&(decide (ts=[0])))] ⟨0,rfl,rfl,(Av hF)⟩ (Zc.tup (.cons (lr _) (.cons (lb (Au hF (by simp [*];try omega))) .nil))))
  refine Z0 4 (ib (b:=(num==0)) 144 (fun YX=>?_) (fun YX=>?_))
  ·have Wv:num=0:=(Zs).1 YX
   exact ZM 2 [(146,Z6 [0])] (Zx [] (Dv ts [0]) (Z0 1 (Yh (wk [0,0] (fr (Zq (decide (ts=[0])) YX fl))) hj4)))
  have V7:¬(num=0):=Yi Zs YX
  exact Z0 4 (Yh (wk [0,0] (fr (Zq false YX fl))) hj4)
 refine ar (Z0 2 (ie (ac (op==11) Zs (fun Vr=>?_) (fun Vr=>?_))))
 ·refine aq (ar (Z0 1 (iw (Y9 ts) (Z0 1 (ie (ac ((ts.length:Int) != 2) Yf (fun Ve=>?_) (fun Ve=>?_)))))))
  ·refine ar (Z0 2 (ie ?_))
   have hF:=Z9d (n:=n) (num:=num) Vr Ve
   exact Z9 (r2 [] [.i (-1),.b false] ⟨(-1),rfl,rfl,(Du hF)⟩ (Zc.tup (.cons (lr _) (.cons (lb (Dt hF)) .nil))))
  refine ak (aD 12 (ZL 9 12 [0,1,2] [0] ?_))
  obtain ⟨x1,Z2⟩:=Zt ts 0 om
  refine dx 3 (Zi none 0 1 (ZY Z2)) (Zj 7 8 [4] (Ki (fun fz gz F h=>∃(b2:Nat),F=sF [2,3] fz [(12,.p b2 0),(13,.b (XG n.decls x1))]/\h=[.obj b2 (UP (V8 n.decls x1)),Zh gz 0]) ?_ ?_))
  ·refine Va 5 9 ?_ ?_
   ·exact Ye 5 [] [] [] (EE n.decls x1) (Zj 3 6 [6,7,8] (Z8 9 (dA 9 [] [] [.i 0,.i 0,nl] fun b2=>Z8 10 (YA 10 0 [] [] b2 (UP (V8 n.decls x1)) (Zj 0 1 [11] (de (ZO ⟨b2,rfl,rfl⟩ (wk [0,0] fl))))))))
   exact dA 9 [0] [b1] [.i 0,.i 0,nl] fun b3=>Z8 5 (Ye 5 [] [] [] (EE n.decls x1) (Zj 2 5 [6,7,8] (Z8 10 (YA 10 0 [] [] b3 (UP (V8 n.decls x1)) (Zj 0 1 [11] (de (ZO ⟨b3,rfl,rfl⟩ (wk [0,0] fl))))))))
  rintro F h ⟨b2,rfl,rfl⟩
  refine aD 17 (ZL 13 17 [0,1,2,3] [0] (db (b:=XG n.decls x1) 58 (fun W2=>?_) (fun W2=>?_)))
  ·have Vf:XG n.decls x1=true:=(Iff.rfl).1 W2
   refine Zj 12 13 [4] ?_
   obtain ⟨x2,Zo⟩:=Zt ts 1 om
   refine dx 5 (Zi none 1 1 (ZY Zo)) (ZL 4 11 [6,7,8,9,10,11,15] [0] (db (b:=(x2==((V8 n.decls x1).frm))) 66 (fun WB=>?_) (fun WB=>?_)))
   ·have UM:x2=((V8 n.decls x1).frm):=(Zs).1 WB
    refine Zj 0 4 [12,13,14,16] (de ?_)
    have hF:=I2 (n:=n) (num:=num) Vr Ve Z2 Zo
    exact Z9 (r2 [] [.i ((V8 n.decls x1).to_),.b (num==0)] ⟨(V8 n.decls x1).to_,rfl,rfl,(Av hF)⟩ (Zc.tup (.cons (lr _) (.cons (lb (Au hF (by simp [*];try omega))) .nil))))
   have T0:¬(x2=((V8 n.decls x1).frm)):=Yi Zs WB
   refine Zj 0 4 [12,13,14,16] (de ?_)
   have hF:=I2 (n:=n) (num:=num) Vr Ve Z2 Zo
   exact Z9 (r2 [] [.i ((V8 n.decls x1).to_),.b false] ⟨(V8 n.decls x1).to_,rfl,rfl,(Av hF)⟩ (Zc.tup (.cons (lr _) (.cons (lb (Au hF (by simp [*]))) .nil))))
  have Uy:¬(XG n.decls x1=true):=Yi Iff.rfl W2
  refine Zj 0 13 [4,5,6,7,8,9,10,11,12,13,14,15,16] (de ?_)
  have hF:=Z9c (n:=n) (num:=num) Vr Ve Z2 (by assumption)
  exact Z9 (r2 [] [.i ((V8 n.decls x1).to_),.b false] ⟨(V8 n.decls x1).to_,rfl,rfl,(Du hF)⟩ (Zc.tup (.cons (lr _) (.cons (lb (Dt hF)) .nil))))
 refine ar (Z0 2 (ie (ac (op==6) Zs (fun VC=>?_) (fun VC=>?_))))
 ·refine ar (Z3 3 [0] (Zx [] (MF n.decls num) (Z0 3 (iA [nl] fun b4=>Z0 1 (Zy 0 b4 [Z6 (ZP n.decls num)] (ie (ar (Xo 9 [] [(79,.i (XP n.decls num)),(87,.b ((decide ((XP n.decls num)>=0))&&(decide (ts=(ZP n.decls num)))))] (fun gz=>gz) ?_ (fun hj5=>?_)))))))))
  ·refine Z0 2 (ie ?_)
   have hF:=sf6 (n:=n) (num:=num) (ts:=ts) VC
   exact Z9 (r2 [] [.i (XP n.decls num),.b ((decide ((XP n.decls num)>=0))&&(decide (ts=(ZP n.decls num))))] ⟨XP n.decls num,rfl,rfl,(Av hF)⟩ (Zc.tup (.cons (lr _) (.cons (lb (Au hF (by simp [*];try omega))) .nil))))
  refine Z0 4 (ib (b:=(decide ((XP n.decls num)>=0))) 82 (fun WU=>?_) (fun WU=>?_))
  ·have TK:(XP n.decls num)>=0:=(dq).1 WU
   exact Z3 3 [0] (Zx [] (Dv ts (ZP n.decls num)) (Z0 1 (Yh (wk [0,0] (fr (Zq (decide (ts=(ZP n.decls num))) WU fl))) hj5)))
  have Tv:¬((XP n.decls num)>=0):=Yi dq WU
  exact Z0 5 (Yh (wk [0,0] (fr (Zq false WU fl))) hj5)
 refine aq (ar (Z0 2 (ie (XE (fun fz gz F h=>F=sF [1,2,3,4] fz [(88,.b ((op==9)||(op==10)))]/\h=gz) ?_ ?_))))
 ·refine ac (op==9) Zs (fun UL=>?_) (fun UL=>?_)
  ·exact ak (ZO ⟨rfl,rfl⟩ (wk [0] (fc (x:=.b (op==9)) (lb (by first|rfl|(rw [Zk UL])|(rw [Za UL])|(simp [UL];done)|(rw [Xf];simp [UL];done)|omega)) fl)))
  exact az (Z0 2 (ie (ZO ⟨rfl,rfl⟩ (wk [0] (fc (x:=.b (op==10)) (lb (by first|rfl|(rw [Zk UL])|(rw [Za UL])|(simp [UL];done)|(rw [Xf];simp [UL];done)|omega)) fl)))))
 rintro F h ⟨rfl,rfl⟩
 refine ac ((op==9)||(op==10)) (p:=(op=9)∨(op=10)) (Yo Zs Zs) (fun Km=>?_) (fun Km=>?_)
 ·refine aq (ar (X8 [1,2,3,4] [(99,.b ((decide (num<0))||(decide (num>=(((n.routines.map XH).length:Nat):Int)))))] (fun gz=>gz) ?_ ?_))
  ·refine Z0 3 (ib (b:=(decide (num<0))) 93 (fun WH=>?_) (fun WH=>?_))
   ·have QT:num<0:=(dq).1 WH
    exact Z0 6 (ie (wk [0] (Zq true WH fl)))
   have QU:¬(num<0):=Yi dq WH
   exact Z3 3 [0] (io (.i (((n.routines.map XH).length:Nat):Int)) (.i (((UJ (n.routines.map XH)).length:Nat):Int)) (li (by rw [CA])) (Z0 2 (ie (wk [0] (Zq (decide (num>=(((n.routines.map XH).length:Nat):Int))) WH fl)))))
  refine ac ((decide (num<0))||(decide (num>=(((n.routines.map XH).length:Nat):Int)))) (p:=(num<0)∨(num>=(((n.routines.map XH).length:Nat):Int))) (Yo dq dq) (fun Ta=>?_) (fun Ta=>?_)
  ·refine ar (Z0 2 (ie ?_))
   have hF:=Z9e (n:=n) (ts:=ts) Km Ta
   exact Z9 (r2 [] [.i (-1),.b false] ⟨(-1),rfl,rfl,(Du hF)⟩ (Zc.tup (.cons (lr _) (.cons (lb (Dt hF)) .nil))))
  refine ak (aD 14 (ZL 11 14 [0,1,2] [0] ?_))
  obtain ⟨x3,YH⟩:=Zt (n.routines.map XH) num.toNat om
  obtain ⟨r,hr,hrx⟩:=Fm YH
  have hrp:=hn.params_at hr
  have hpx:x3.pms=r.params:=by rw [hrx];rfl
  have hpl:x3.pms.length<=3:=by rw [hpx];exact hrp
  refine dx 3 (Zi none num 3 (BJ YH)) (ZL 5 10 [4,5,6,7,8] [0] (dx 9 (Zi none num 3 (BJ YH)) (Zj 0 4 [10,11,12,13] (de (aq (ar (Z0 2 (ie (ac (op==9) Zs (fun QS=>?_) (fun QS=>?_))))))))))
  ·refine ar (Z0 3 (Zx [] (Dv ts x3.pms) (Z0 2 (ie ?_))))
   have hF:=sf9 (ts:=ts) QS Ta YH
   exact Z9 (r2 [] [.i x3.res,.b (decide (ts=x3.pms))] ⟨x3.res,rfl,rfl,(Av hF)⟩ (Zc.tup (.cons (lr _) (.cons (lb (Au hF (by simp [*];try omega))) .nil))))
  refine ak (ar (Z0 1 (iw (Y9 x3.pms) (ia (((x3.pms.length:Int)-1)) (((x3.pms.length:Int))-(1)) (Z0 1 (ie (aq (ar (Z0 2 (ie (ZG (((x3.pms.length:Int)-1)<0) (fun B9=>?_) (fun B9=>?_))))))))))))
  ·refine ar (Z0 2 (ie ?_))
   have hF:=Z9b (ts:=ts) (Km.resolve_left QS) Ta YH B9
   exact Z9 (r2 [] [.i (-1),.b false] ⟨(-1),rfl,rfl,(Du hF)⟩ (Zc.tup (.cons (lr _) (.cons (lb (Dt hF)) .nil))))
  refine ak (aD 9 (ZL 5 9 [0,1,2,3] [0] ?_))
  obtain ⟨x4,Vs⟩:=Zt x3.pms (((x3.pms.length:Int)-1).toNat) om
  refine dx 4 (Zi none ((x3.pms.length:Int)-1) 1 (ZY Vs)) (Zj 2 4 [5,6] (Z8 7 (Ye 7 [] [] [] (Z3q n.decls x4 x3.res) (Zj 0 1 [8] (de (ar (Xo 10 [] [(131,.i (VM n.decls x4 x3.res)),(140,.b ((decide ((VM n.decls x4 x3.res)>=0))&&(decide (ts=(x3.pms.take (((x3.pms.length:Int)-1).toNat))))))] (fun gz=>gz) ?_ (fun hj6=>?_))))))))
  ·refine Z0 2 (ie ?_)
   have hF:=Z9a (ts:=ts) (Km.resolve_left QS) Ta YH B9 Vs
   exact Z9 (r2 [] [.i (VM n.decls x4 x3.res),.b ((decide ((VM n.decls x4 x3.res)>=0))&&(decide (ts=(x3.pms.take (((x3.pms.length:Int)-1).toNat)))))] ⟨VM n.decls x4 x3.res,rfl,rfl,(Av hF)⟩ (Zc.tup (.cons (lr _) (.cons (lb (Au hF (by rw [Xf];simp))) .nil))))
  refine Z0 4 (ib (b:=(decide ((VM n.decls x4 x3.res)>=0))) 134 (fun WI=>?_) (fun WI=>?_))
  ·have Aj:(VM n.decls x4 x3.res)>=0:=(dq).1 WI
   exact Z0 3 (Zp (Kt (es:=Z7 x3.pms) (hv:=none) (l:=0) (m:=((x3.pms.length:Int)-1)) (sz:=1) (es':=Z7 (x3.pms.take (((x3.pms.length:Int)-1).toNat))) kr om (by simp<;>omega) (by simp<;>omega) (Yu _) (by first|(simp only [VU,Vd,KP,Jq];done)|(simp only [VU,Vd,KP,Jq];rfl)|(simp [KP,Jq];done))) (Zx [] (Dv ts (x3.pms.take (((x3.pms.length:Int)-1).toNat))) (Z0 1 (Yh (wk [0] (fr (Zq (decide (ts=(x3.pms.take (((x3.pms.length:Int)-1).toNat)))) WI fl))) hj6))))
  have Ko:¬((VM n.decls x4 x3.res)>=0):=Yi dq WI
  exact Z0 6 (Yh (wk [0] (fr (Zq false WI fl))) hj6)
 refine ar (Z0 2 (ie ?_))
 have hF:=sfd (n:=n) (num:=num) (ts:=ts) Zb X2 Xd Vr VC Km
 exact Z9 (r2 [] [.i (-1),.b false] ⟨(-1),rfl,rfl,(Du hF)⟩ (Zc.tup (.cons (lr _) (.cons (lb (Dt hF)) .nil))))
theorem MG (n:Zr) (us:LI) (ks:List Z5) (ms:List LI) (hn:X1 n:=by exact ob) (hnn:∀t∈us,0<=t) (hk:0<ks.length:=by exact ob) (hl:ks.length=ms.length:=by exact ob) (hb:us.length+3+4*YQ ks<=1000000000:=by exact ob) (hr:UW ks:=by exact ob) (hm3:∀m∈ms,m.length<=3) (hmn:∀m∈ms,∀f∈m,0<=f) (ih:∀(b:Z5) (us:LI),(b.sz<=YQ ks)->(us.length+4*b.sz<=1000000000)->(b.rng)->(∀t∈us,0<=t)->Zl 56 [.agg [Y8 n.decls,Tk n],Z6 us,ZD b] [] (Y7 (.i (YT n us b)))):Zl 130 [.agg [Y8 n.decls,Tk n],Z6 us,Xb ks,K0 ms] [] (Y7 (.tup [.i (XS n us ks ms true 0),.b (decide (0<=XS n us ks ms true 0))])):=by
 have hkl:=L8 ks
 refine ZC 45 Tryz.func130 (ar (iA [Y8 n.decls,Tk n] fun b1=>?_))
 refine Z0 2 (ie (ar (Z0 1 (ie (aq (ar (Z0 1 (iw (Vb ks) (Z0 1 (ie (ab 0 (ZW (fun fz gz m F h=>∃(k:Nat) (t:Int),(k<=ks.length)/\(0<k->0<=t)/\(XS n us (ks.drop k) (ms.drop k) (decide (k=0)) t=XS n us ks ms true 0)/\F=sF [1,3,4,14,15] fz [(10,.i t),(16,.i k)]/\h=gz/\m=ks.length-k) _ _ _ ⟨0,(-1),ob,ob,(Z55 hk (-1)),rfl,rfl,rfl⟩ (wk [0] (fr (Y0 fl))) ?_))))))))))))
 rintro m F h ⟨k,t,Y6,Zm,Zv,rfl,rfl,rfl⟩
 refine ar (Z0 1 (ie (aq (ZG ((k:Int)<(ks.length:Int)) (fun Zb=>?_) (fun Zb=>?_)))))
 ·refine ak (aq (ab 1 (ar (Z0 1 ?_))))
  obtain ⟨x1,Z2⟩:=Zt ks k om
  have ZB:=L9 Z2
  have hbr:=L6 hr Z2
  refine Zp (Zi none (k:Int) 2 (VP Z2)) (Z0 1 (iA [nl,.i 0] fun b2=>Z0 1 (Zy 0 b2 (YR x1) (ie (aD 11 (ZL 7 11 [0,1,2,3] [1] ?_))))))
  obtain ⟨x2,Zo⟩:=Zt ms k om
  have hxl:=hm3 x2 (ZZ Zo)
  have hxn:=hmn x2 (ZZ Zo)
  refine dx 4 (Zi none (k:Int) 1 (E9 Zo)) (ZL 4 6 [5,8] [0] (Z8 6 (dL 6 [0,1] [b2,b1] (W4 [us,x2]) 2 1 fun v1=>Yg 3 3 [] [(27,K0 [us,x2])] (Z8 7 (dc 7 [] [0,1] [b2,b1] (Z9i [us,x2] (hf:=(by simp only [DA,Yn];omega))) ?_)))))
  rintro _ _ ⟨v2,rfl,rfl⟩
  refine Yg 2 2 [] [(28,Z6 ([us,x2].flatten))] (Z8 9 (Ye 9 [] [] [] (ih x1 ([us,x2].flatten) ob (by simp only [DA,Yn];omega) ob (by rw [DA];exact Nl hnn hxn)) (Zj 0 1 [10] (de (aq (ar (X8 [1,3,4,13,14,15,16] [(41,.b ((decide ((YT n ([us,x2].flatten) x1)<0))||((decide ((k:Int)>0))&&((YT n ([us,x2].flatten) x1) != t))))] (fun gz=>gz) ?_ ?_)))))))
  ·refine Z0 3 (ib (b:=(decide ((YT n ([us,x2].flatten) x1)<0))) 33 (fun Zf=>?_) (fun Zf=>?_))
   ·exact Z0 8 (ie (ZH 4 (Zq true Zf fl)))
   refine Z0 3 (ib (b:=(decide ((k:Int)>0))) 36 (fun ZF=>?_) (fun ZF=>?_))
   ·exact Z0 5 (ie (ZH 4 (Zq ((YT n ([us,x2].flatten) x1) != t) (And.intro Zf ZF) fl)))
   exact Z0 5 (ie (ZH 4 (Zq false (And.intro Zf ZF) fl)))
  refine ac ((decide ((YT n ([us,x2].flatten) x1)<0))||((decide ((k:Int)>0))&&((YT n ([us,x2].flatten) x1) != t))) (p:=((YT n ([us,x2].flatten) x1)<0)∨(((k:Int)>0)/\((YT n ([us,x2].flatten) x1)≠t))) (Yo dq (YB dq Yf)) (fun Zg=>?_) (fun Zg=>?_)
  ·refine ar (Z0 2 (ie ?_))
   have hK:XS n us ks ms true 0=-1:=by rw [<-Zv];rw [DA] at Zg;exact MZ Z2 Zo Zg
   exact Z9 (r2 [] [.i (-1),.b false] ⟨rfl,rfl⟩ (Zc.tup (.cons (li (by rw [hK])) (.cons (lb (by rw [hK];rfl)) .nil))))
  exact ak (az (Z0 2 (ie (az (ZE k (Z0 1 (ie (ZI ⟨k+1,YT n ([us,x2].flatten) x1,ob,(by intro _;omega),(by rw [DA] at Zg ⊢;rw [<-Zv];exact (N1 Z2 Zo Zg).symm),rfl,rfl,rfl⟩ (wk [3] (fr (ZK k fl)))))))))))
 refine ax 0 (ar (Z0 3 (ie ?_)))
 have hK:XS n us ks ms true 0=t:=by rw [<-Zv];exact N0 om
 exact Z9 (r2 [] [.i t,.b true] ⟨rfl,rfl⟩ (Zc.tup (.cons (li (by rw [hK])) (.cons (lb (by rw [hK];exact (decide_eq_true (Zm om)).symm)) .nil))))
theorem Z4b (n:Zr) (us:LI) (s:Z4) (hn:X1 n) (hty:Bv n) (hnn:∀t∈us,0<=t) (hb:us.length+4*s.sz<=1000000000) (hr:s.rng) (ih:∀(b:Z5) (us:LI),(b.sz<s.sz)->(us.length+4*b.sz<=1000000000)->(b.rng)->(∀t∈us,0<=t)->Zl 56 [.agg [Y8 n.decls,Tk n],Z6 us,ZD b] [] (Y7 (.i (YT n us b)))):Zl 93 [.agg [Y8 n.decls,Tk n],Z6 us,Ys s] [] (fun r h=>∃(t:Int),r=.tup [.i t,.b (decide (0<=Y4 n us s))]/\h=[]/\(¬Yb s.op=true->0<=Y4 n us s->t=Y4 n us s)):=by
 have Xn:=hn.decls
 have hkz:=U7 s
 have haz:=T6 s
 have hse:=s.sz_eq
 rw [s.rng_eq] at hr
 obtain ⟨hnum,hkr⟩:=hr
 refine ZC 233 Tryz.func93 (ar (iA [Y8 n.decls,Tk n] fun b1=>iA (Xa s) fun b2=>Z0 2 (ie (ar (Z3 2 [0] (iw (Y9 s.args) (iM 0 s.args.length fun v1=>?_)))))))
 refine Z0 1 (ie (aq (ar (Z3 2 [1] (iw (Y9 s.args) (Z0 1 (ie (ab 0 (ZW (fun fz gz m F h=>∃(k:Nat) (ts:LI) (v:Value),(k<=s.args.length)/\(ts.length=k)/\(XV us (s.args.take k)=some ts)/\F=sF [1,3,5,20,21] fz [(8,ZT ts v),(22,.i k)]/\h=[Zh gz 1,Zh gz 2,.tail v 1]/\m=s.args.length-k) _ _ _ ⟨0,[],v1,ob,ob,ob,rfl,rfl,rfl⟩ (wk [1,1,0] (fr (Y0 fl))) ?_)))))))))
 rintro m F h ⟨k,ts,v,Y6,Zm,Zv,rfl,rfl,rfl⟩
 refine ar (Z0 1 (ie (aq (ZG ((k:Int)<(s.args.length:Int)) (fun Zb=>?_) (fun Zb=>?_)))))
 ·refine ak (aq (ab 1 (ar ?_)))
  obtain ⟨x1,Z2⟩:=Zt s.args k om
  refine Zp (Zi none (k:Int) 1 (ZY Z2)) (Z0 2 (ie (aq (ar (X8 [1,3,5,8,10,20,21,22] [(33,.b ((decide (x1<0))||(decide (x1>=(us.length:Int)))))] (fun gz=>gz) ?_ ?_)))))
  ·refine Z0 3 (ib (b:=(decide (x1<0))) 28 (fun Zf=>?_) (fun Zf=>?_))
   ·have Y2:x1<0:=(dq).1 Zf
    exact Z0 5 (ie (ZH 3 (Zq true Zf fl)))
   have Ym:¬(x1<0):=Yi dq Zf
   exact Z0 2 (iw (Y9 us) (Z0 2 (ie (ZH 3 (Zq (decide (x1>=(us.length:Int))) Zf fl)))))
  refine ac ((decide (x1<0))||(decide (x1>=(us.length:Int)))) (p:=(x1<0)∨(x1>=(us.length:Int))) (Yo dq dq) (fun Zg=>?_) (fun Zg=>?_)
  ·refine ar (Z0 2 (ie ?_))
   have hS:Y4 n us s=-1:=Zbh (IP Z2 (Qs om))
   exact Z9 (r2 [] [.i (-1),.b false] ⟨(-1),rfl,rfl,(by intro _ h;rw [hS] at h;omega)⟩ (Zc.tup (.cons (lr _) (.cons (lb (by rw [hS];rfl)) .nil))))
  refine ak (az (Z0 3 ?_))
  obtain ⟨x2,Zo⟩:=Zt us x1.toNat om
  exact Zp (Zi none x1 1 (ZY Zo)) (Z0 1 (iL (Z7 [x2]) 1 1 fun v2=>ZM 0 [(39,Z6 [x2])] (ip 3 (Z7 (ts++[x2])) (Z7 ts) (Z7 [x2]) v none 1 (Yu _) (Yu _) (XR _) (by simp<;>omega) (by simp [XQ,Z7]) fun v3=>Z0 1 (ie (az (ZE k (Z0 1 (ie (ZI ⟨k+1,(ts++[x2]),v3,ob,ob,(Rn Zv Z2 (by rw [TG om Zo])),rfl,rfl,rfl⟩ (wk [2,2,0] (fr (ZK k fl))))))))))))
 refine ax 0 (aq (ar (X8 [1,3,5,8] [(70,.b ((s.into != 0)&&((s.op != 6)||((decide (s.into<1))||((decide (s.into>(us.length:Int)))||((gI us (s.into-1))==0))))))] (fun gz=>gz) ?_ ?_)))
 ·refine Z3 4 [0] (ib (b:=(s.into != 0)) 45 (fun ZF=>?_) (fun ZF=>?_))
  ·have YN:s.into≠0:=(Yf).1 ZF
   refine Z3 4 [0] (ib (b:=(s.op != 6)) 49 (fun Yv=>?_) (fun Yv=>?_))
   ·have YW:s.op≠6:=(Yf).1 Yv
    exact Z0 21 (ie (ZH 3 (Zq true (And.intro ZF Yv) fl)))
   have X9:¬(s.op≠6):=Yi Yf Yv
   refine Z3 5 [0] (ib (b:=(decide (s.into<1))) 54 (fun YX=>?_) (fun YX=>?_))
   ·have XX:s.into<1:=(dq).1 YX
    exact Z0 16 (ie (ZH 3 (Zq true (And.intro ZF (And.intro Yv YX)) fl)))
   have Wv:¬(s.into<1):=Yi dq YX
   refine Z3 3 [0] (iw (Y9 us) (Z0 3 (ib (b:=(decide (s.into>(us.length:Int)))) 61 (fun W2=>?_) (fun W2=>?_))))
   ·have V7:s.into>(us.length:Int):=(dq).1 W2
    exact Z0 9 (ie (ZH 3 (Zq true (And.intro ZF (And.intro Yv (And.intro YX W2))) fl)))
   have Vf:¬(s.into>(us.length:Int)):=Yi dq W2
   exact Z3 3 [0] (ia ((s.into-1)) ((s.into)-(1)) (Zp (AA (es:=Z7 us) (hv:=none) (j:=(s.into-1)) (sz:=1) (y:=.i (gI us (s.into-1))) kr om (ZY (M5 om)) rfl) (Z0 4 (ie (ZH 3 (Zq ((gI us (s.into-1))==0) (And.intro ZF (And.intro Yv (And.intro YX W2))) fl))))))
  have UM:¬(s.into≠0):=Yi Yf ZF
  exact Z0 25 (ie (ZH 3 (Zq false ZF fl)))
 refine ac ((s.into != 0)&&((s.op != 6)||((decide (s.into<1))||((decide (s.into>(us.length:Int)))||((gI us (s.into-1))==0))))) (p:=(s.into≠0)/\((s.op≠6)∨((s.into<1)∨((s.into>(us.length:Int))∨((gI us (s.into-1))=0))))) (YB Yf (Yo Yf (Yo dq (Yo dq Zs)))) (fun Zz=>?_) (fun Zz=>?_)
 ·refine ar (Z0 2 (ie ?_))
  have hS:Y4 n us s=-1:=Zbi (JF.1 Zz)
  exact Z9 (r2 [] [.i (-1),.b false] ⟨(-1),rfl,rfl,(by intro _ h;rw [hS] at h;omega)⟩ (Zc.tup (.cons (lr _) (.cons (lb (by rw [hS];rfl)) .nil))))
 refine ak (aq (ab 2 (ar (Z3 2 [0] (Zx [] (EF s.op) (Z0 1 (ie (ac (Yb s.op) Iff.rfl (fun Yd=>?_) (fun Yd=>?_)))))))))
 ·refine ar (Z0 1 (iw (Y9 ts) (Xo 9 [3,5,8] [(83,.b (((ts.length:Int)==1)&&((gI ts 0) != 0)))] (fun gz=>gz) ?_ (fun hj1=>?_))))
  ·refine Xo 14 [3,5,8] [(88,.b ((((ts.length:Int)==1)&&((gI ts 0) != 0))&&(s.num==0)))] (fun gz=>gz) ?_ (fun hj2=>?_)
   ·refine Xo 20 [3,5,8] [(94,.b (((((ts.length:Int)==1)&&((gI ts 0) != 0))&&(s.num==0))&&((s.kids.length:Int)==0)))] (fun gz=>gz) ?_ (fun hj3=>?_)
    ·refine Z0 1 (ie (aq (ar (X8 [3,8,11] [(105,.b ((((((ts.length:Int)==1)&&((gI ts 0) != 0))&&(s.num==0))&&((s.kids.length:Int)==0))&&((s.op==16)||(s.op==17))))] (fun gz=>gz) ?_ ?_))))
     ·refine Z0 2 (ib (b:=(((((ts.length:Int)==1)&&((gI ts 0) != 0))&&(s.num==0))&&((s.kids.length:Int)==0))) 96 (fun WB=>?_) (fun WB=>?_))
      ·have T0:((((ts.length:Int)=1)/\((gI ts 0)≠0))/\(s.num=0))/\((s.kids.length:Int)=0):=((YB (YB (YB Zs Yf) Zs) Zs)).1 WB
       refine Z3 4 [0] (ib (b:=(s.op==16)) 100 (fun WU=>?_) (fun WU=>?_))
       ·have Uy:s.op=16:=(Zs).1 WU
        exact Z0 5 (ie (ZH 3 (Zq true (And.intro WB WU) fl)))
       have TK:¬(s.op=16):=Yi Zs WU
       exact Z3 5 [0] (ie (ZH 3 (Zq (s.op==17) (And.intro WB WU) fl)))
      have Tv:¬(((((ts.length:Int)=1)/\((gI ts 0)≠0))/\(s.num=0))/\((s.kids.length:Int)=0)):=Yi (YB (YB (YB Zs Yf) Zs) Zs) WB
      exact Z0 9 (ie (ZH 3 (Zq false WB fl)))
     refine ac ((((((ts.length:Int)==1)&&((gI ts 0) != 0))&&(s.num==0))&&((s.kids.length:Int)==0))&&((s.op==16)||(s.op==17))) (p:=(((((ts.length:Int)=1)/\((gI ts 0)≠0))/\(s.num=0))/\((s.kids.length:Int)=0))/\((s.op=16)∨(s.op=17))) (YB (YB (YB (YB Zs Yf) Zs) Zs) (Yo Zs Zs)) (fun X2=>?_) (fun X2=>?_)
     ·refine aD 12 (ZL 9 12 [0,1,2] [1] (dx 3 (AA (es:=Z7 ts) (hv:=some v) (j:=0) (sz:=1) (y:=.i (gI ts 0)) kr om (ZY (Em om)) rfl) (Zj 7 8 [4] (Ki (fun fz gz F h=>F=sF [] fz [(13,.b (XG n.decls (gI ts 0)))]/\h=gz) ?_ ?_))))
      ·refine Va 5 9 ?_ ?_
       ·exact Ye 5 [] [] [] (EE n.decls (gI ts 0)) (Zj 3 6 [6,7,8] (Z8 9 (dA 9 [] [] [.i 0,.i 0,nl] fun b3=>Z8 10 (YA 10 0 [] [] b3 (UP (V8 n.decls (gI ts 0))) (Zj 0 1 [11] (de (ZO ⟨rfl,rfl⟩ (wk [1,1,1] fl))))))))
       exact dA 9 [1] [b1] [.i 0,.i 0,nl] fun b4=>Z8 5 (Ye 5 [] [] [] (EE n.decls (gI ts 0)) (Zj 2 5 [6,7,8] (Z8 10 (YA 10 0 [] [] b4 (UP (V8 n.decls (gI ts 0))) (Zj 0 1 [11] (de (ZO ⟨rfl,rfl⟩ (wk [1,1,1] fl))))))))
      rintro F h ⟨rfl,rfl⟩
      refine az (Z0 3 (ie (ar (Z0 3 (ie ?_)))))
      have hS0:=AC (n:=n) hnn (A4 Zv om) (fun q=>Zz (JF.2 q))
      exact Z9 (r2 [] [.i (-1),.b (!XG n.decls (gI ts 0))] ⟨(-1),rfl,rfl,(fun q=>absurd Yd q)⟩ (Zc.tup (.cons (lr _) (.cons (lb (Zaz hS0 Yd X2)) .nil))))
     refine ak (ar (Z0 3 (ie ?_)))
     have hS0:=AC (n:=n) hnn (A4 Zv om) (fun q=>Zz (JF.2 q))
     exact Z9 (r2 [] [.i (-1),.b (((((ts.length:Int)==1)&&((gI ts 0) != 0))&&(s.num==0))&&((s.kids.length:Int)==0))] ⟨(-1),rfl,rfl,(fun q=>absurd Yd q)⟩ (Zc.tup (.cons (lr _) (.cons (lb (Zb0 hS0 Yd X2)) .nil))))
    refine Z0 1 (ib (b:=((((ts.length:Int)==1)&&((gI ts 0) != 0))&&(s.num==0))) 89 (fun WH=>?_) (fun WH=>?_))
    ·have QT:(((ts.length:Int)=1)/\((gI ts 0)≠0))/\(s.num=0):=((YB (YB Zs Yf) Zs)).1 WH
     exact Z3 2 [0] (iw (Vb s.kids) (Z0 2 (Yh (ZH 3 (Zq ((s.kids.length:Int)==0) WH fl)) hj3)))
    have QU:¬((((ts.length:Int)=1)/\((gI ts 0)≠0))/\(s.num=0)):=Yi (YB (YB Zs Yf) Zs) WH
    exact Z0 5 (Yh (ZH 3 (Zq false WH fl)) hj3)
   refine Z0 1 (ib (b:=(((ts.length:Int)==1)&&((gI ts 0) != 0))) 84 (fun WI=>?_) (fun WI=>?_))
   ·have Aj:((ts.length:Int)=1)/\((gI ts 0)≠0):=((YB Zs Yf)).1 WI
    exact Z3 4 [0] (Yh (ZH 3 (Zq (s.num==0) WI fl)) hj2)
   have Ko:¬(((ts.length:Int)=1)/\((gI ts 0)≠0)):=Yi (YB Zs Yf) WI
   exact Z0 4 (Yh (ZH 3 (Zq false WI fl)) hj2)
  refine Z0 2 (ib (b:=((ts.length:Int)==1)) 78 (fun TI=>?_) (fun TI=>?_))
  ·have Mx:(ts.length:Int)=1:=(Zs).1 TI
   exact Z0 1 (Zp (AA (es:=Z7 ts) (hv:=some v) (j:=0) (sz:=1) (y:=.i (gI ts 0)) kr om (ZY (Em om)) rfl) (Z0 3 (Yh (ZH 3 (Zq ((gI ts 0) != 0) TI fl)) hj1)))
  have My:¬((ts.length:Int)=1):=Yi Zs TI
  exact Z0 5 (Yh (ZH 3 (Zq false TI fl)) hj1)
 refine ar (Z3 4 [0] (ie (ac (s.op==7) Zs (fun Xd=>?_) (fun Xd=>?_))))
 ·refine aq (ar (Z0 1 (iw (Y9 ts) (Xo 9 [1,3,5] [(130,.b (((ts.length:Int) != 1)||((gI ts 0) != 0)))] (fun gz=>gz) ?_ (fun hj4=>?_)))))
  ·refine Xo 14 [1,3,5] [(135,.b ((((ts.length:Int) != 1)||((gI ts 0) != 0))||(s.num != 0)))] (fun gz=>gz) ?_ (fun hj5=>?_)
   ·refine X8 [1,3,5] [(141,.b (((((ts.length:Int) != 1)||((gI ts 0) != 0))||(s.num != 0))||((s.kids.length:Int) != 2)))] (fun gz=>gz) ?_ ?_
    ·refine Z0 1 (ib (b:=((((ts.length:Int) != 1)||((gI ts 0) != 0))||(s.num != 0))) 136 (fun JB=>?_) (fun JB=>?_))
     ·have H7:(((ts.length:Int)≠1)∨((gI ts 0)≠0))∨(s.num≠0):=((Yo (Yo Yf Yf) Yf)).1 JB
      exact Z0 5 (ie (ZH 3 (Zq true JB fl)))
     have Z30:¬((((ts.length:Int)≠1)∨((gI ts 0)≠0))∨(s.num≠0)):=Yi (Yo (Yo Yf Yf) Yf) JB
     exact Z3 2 [0] (iw (Vb s.kids) (Z0 2 (ie (ZH 3 (Zq ((s.kids.length:Int) != 2) JB fl)))))
    refine ac (((((ts.length:Int) != 1)||((gI ts 0) != 0))||(s.num != 0))||((s.kids.length:Int) != 2)) (p:=((((ts.length:Int)≠1)∨((gI ts 0)≠0))∨(s.num≠0))∨((s.kids.length:Int)≠2)) (Yo (Yo (Yo Yf Yf) Yf) Yf) (fun Vr=>?_) (fun Vr=>?_)
    ·refine ar (Z0 2 (ie ?_))
     have hS0:=AC (n:=n) hnn (A4 Zv om) (fun q=>Zz (JF.2 q))
     have hS:=Zav hS0 Yd Xd Vr
     exact Z9 (r2 [] [.i (-1),.b false] ⟨(-1),rfl,rfl,(by intro _ h;rw [hS] at h;omega)⟩ (Zc.tup (.cons (lr _) (.cons (lb (by rw [hS];rfl)) .nil))))
    refine ak (aD 10 (ZL 6 10 [0,1,2,3] [1,0] (Z8 4 (Sh 4 [0,1] [b2,b1] 2 2 fun v4=>Yg 5 5 [] [(146,K0 (List.replicate 2 []))] (Z8 5 (Ye 5 [] [] [] (MG n us s.kids (List.replicate 2 []) (hnn:=hnn) (hm3:=(by intro m hm;first|(rw [FK hm];simp;done)|(obtain ⟨c,_,rfl⟩:=XC.1 hm;exact VN Xn c))) (hmn:=(by intro m hm f hf;first|(rw [FK hm] at hf;simp at hf;done)|(obtain ⟨c,_,rfl⟩:=XC.1 hm;exact hty.fields c f hf))) (ih:=(fun b us2 h1 h2 h3 h4=>ih b us2 om h2 h3 h4))) (Zj 0 4 [6,7,8,9] (de ?_))))))))
    have hS0:=AC (n:=n) hnn (A4 Zv om) (fun q=>Zz (JF.2 q))
    have hS:=Zaw hS0 Yd Xd Vr
    exact Z9 (r2 [] [.i (XS n us s.kids (List.replicate 2 []) true 0),.b (decide (0<=XS n us s.kids (List.replicate 2 []) true 0))] ⟨XS n us s.kids (List.replicate 2 []) true 0,rfl,rfl,(fun _ _=>hS.symm)⟩ (Zc.tup (.cons (lr _) (.cons (lb (by rw [hS])) .nil))))
   refine Z0 1 (ib (b:=(((ts.length:Int) != 1)||((gI ts 0) != 0))) 131 (fun JC=>?_) (fun JC=>?_))
   ·have Z31:((ts.length:Int)≠1)∨((gI ts 0)≠0):=((Yo Yf Yf)).1 JC
    exact Z0 4 (Yh (ZH 3 (Zq true JC fl)) hj5)
   have Z32:¬(((ts.length:Int)≠1)∨((gI ts 0)≠0)):=Yi (Yo Yf Yf) JC
   exact Z3 4 [0] (Yh (ZH 3 (Zq (s.num != 0) JC fl)) hj5)
  refine Z0 2 (ib (b:=((ts.length:Int) != 1)) 125 (fun CP=>?_) (fun CP=>?_))
  ·have Z33:(ts.length:Int)≠1:=(Yf).1 CP
   exact Z0 5 (Yh (ZH 3 (Zq true CP fl)) hj4)
  have Z34:¬((ts.length:Int)≠1):=Yi Yf CP
  exact Z0 1 (Zp (AA (es:=Z7 ts) (hv:=some v) (j:=0) (sz:=1) (y:=.i (gI ts 0)) kr om (ZY (Em om)) rfl) (Z0 3 (Yh (ZH 3 (Zq ((gI ts 0) != 0) CP fl)) hj4)))
 refine ar (Z3 4 [0] (ie (ac (s.op==8) Zs (fun Ve=>?_) (fun Ve=>?_))))
 ·refine ar (Z3 3 [1,0] (Zx [] (Z49 _ s.num) (Z0 1 (ie (aq (aD 24 (Zj 23 24 [0] (dw 1 (Y9 ts) (Jm [1,3,5,14] [(181,.b (((ts.length:Int) != 1)||(((gI ts 0) != s.num)||((((((ZQ n.decls s.num).map (ZP n.decls)).length:Nat):Int)==0)||((s.kids.length:Int) != ((((ZQ n.decls s.num).map (ZP n.decls)).length:Nat):Int))))))] (fun gz=>gz) ?_ ?_)))))))))
  ·refine Zj 20 22 [2,3] (db (b:=((ts.length:Int) != 1)) 161 (fun B7=>?_) (fun B7=>?_))
   ·have Z35:(ts.length:Int)≠1:=(Yf).1 B7
    exact Zj 0 20 [4,5,6,7,8,9,10,11,12,13,14,15,16,17,18,19,20,21,22,23] (de (ZH 3 (Zq true B7 fl)))
   have Z36:¬((ts.length:Int)≠1):=Yi Yf B7
   refine Zj 19 20 [4] (dx 5 (AA (es:=Z7 ts) (hv:=some v) (j:=0) (sz:=1) (y:=.i (gI ts 0)) kr om (ZY (Em om)) rfl) (ZL 12 18 [6,7,8,9,10,11] [0] (db (b:=((gI ts 0) != s.num)) 169 (fun BR=>?_) (fun BR=>?_))))
   ·have Z37:(gI ts 0)≠s.num:=(Yf).1 BR
    exact Zj 0 12 [12,13,14,15,16,17,18,19,20,21,22,23] (de (ZH 3 (Zq true (And.intro B7 BR) fl)))
   have H8:¬((gI ts 0)≠s.num):=Yi Yf BR
   refine Zj 11 12 [12] (dn 13 (.i ((((ZQ n.decls s.num).map (ZP n.decls)).length:Nat):Int)) (.i (((W4 ((ZQ n.decls s.num).map (ZP n.decls))).length:Nat):Int)) (li (by rw [Ea])) (Zj 7 10 [14,15,16] (db (b:=(((((ZQ n.decls s.num).map (ZP n.decls)).length:Nat):Int)==0)) 174 (fun CQ=>?_) (fun CQ=>?_))))
   ·have H9:((((ZQ n.decls s.num).map (ZP n.decls)).length:Nat):Int)=0:=(Zs).1 CQ
    exact Zj 0 7 [17,18,19,20,21,22,23] (de (ZH 3 (Zq true (And.intro B7 (And.intro BR CQ)) fl)))
   have Mz:¬(((((ZQ n.decls s.num).map (ZP n.decls)).length:Nat):Int)=0):=Yi Zs CQ
   exact ZL 5 7 [17,18] [0] (dw 19 (Vb s.kids) (Zj 3 4 [20] (dn 21 (.i ((((ZQ n.decls s.num).map (ZP n.decls)).length:Nat):Int)) (.i (((W4 ((ZQ n.decls s.num).map (ZP n.decls))).length:Nat):Int)) (li (by rw [Ea])) (Zj 0 2 [22,23] (de (ZH 3 (Zq ((s.kids.length:Int) != ((((ZQ n.decls s.num).map (ZP n.decls)).length:Nat):Int)) (And.intro B7 (And.intro BR CQ)) fl)))))))
  refine ac (((ts.length:Int) != 1)||(((gI ts 0) != s.num)||((((((ZQ n.decls s.num).map (ZP n.decls)).length:Nat):Int)==0)||((s.kids.length:Int) != ((((ZQ n.decls s.num).map (ZP n.decls)).length:Nat):Int))))) (p:=((ts.length:Int)≠1)∨(((gI ts 0)≠s.num)∨((((((ZQ n.decls s.num).map (ZP n.decls)).length:Nat):Int)=0)∨((s.kids.length:Int)≠((((ZQ n.decls s.num).map (ZP n.decls)).length:Nat):Int))))) (Yo Yf (Yo Yf (Yo Zs Yf))) (fun VC=>?_) (fun VC=>?_)
  ·refine ar (Z0 2 (ie ?_))
   have hS0:=AC (n:=n) hnn (A4 Zv om) (fun q=>Zz (JF.2 q))
   have hS:=Zax hS0 Yd Xd Ve VC
   exact Z9 (r2 [] [.i (-1),.b false] ⟨(-1),rfl,rfl,(by intro _ h;rw [hS] at h;omega)⟩ (Zc.tup (.cons (lr _) (.cons (lb (by rw [hS];rfl)) .nil))))
  refine ak (ar (Z3 5 [1,0] (Zx [] (MG n us s.kids ((ZQ n.decls s.num).map (ZP n.decls)) (hnn:=hnn) (hm3:=(by intro m hm;first|(rw [FK hm];simp;done)|(obtain ⟨c,_,rfl⟩:=XC.1 hm;exact VN Xn c))) (hmn:=(by intro m hm f hf;first|(rw [FK hm] at hf;simp at hf;done)|(obtain ⟨c,_,rfl⟩:=XC.1 hm;exact hty.fields c f hf))) (ih:=(fun b us2 h1 h2 h3 h4=>ih b us2 om h2 h3 h4))) (Z0 4 (ie ?_)))))
  have hS0:=AC (n:=n) hnn (A4 Zv om) (fun q=>Zz (JF.2 q))
  have hS:=Zay hS0 Yd Xd Ve VC
  exact Z9 (r2 [] [.i (XS n us s.kids ((ZQ n.decls s.num).map (ZP n.decls)) true 0),.b (decide (0<=XS n us s.kids ((ZQ n.decls s.num).map (ZP n.decls)) true 0))] ⟨XS n us s.kids ((ZQ n.decls s.num).map (ZP n.decls)) true 0,rfl,rfl,(fun _ _=>hS.symm)⟩ (Zc.tup (.cons (lr _) (.cons (lb (by rw [hS])) .nil))))
 refine ar (Z3 2 [0] (iw (Vb s.kids) (Xo 33 [3,5,8] [(223,.b ((decide ((s.kids.length:Int)>0))||((s.op==10)&&((decide (s.num>=0))&&((decide (s.num<(((n.routines.map XH).length:Nat):Int)))&&(decide (((((Qk n s.num).lnt).length:Nat):Int)>0)))))))] (fun gz=>gz) ?_ (fun hj6=>?_))))
 ·refine Z0 1 (ie (ac ((decide ((s.kids.length:Int)>0))||((s.op==10)&&((decide (s.num>=0))&&((decide (s.num<(((n.routines.map XH).length:Nat):Int)))&&(decide (((((Qk n s.num).lnt).length:Nat):Int)>0)))))) (p:=((s.kids.length:Int)>0)∨((s.op=10)/\((s.num>=0)/\((s.num<(((n.routines.map XH).length:Nat):Int))/\(((((Qk n s.num).lnt).length:Nat):Int)>0))))) (Yo dq (YB Zs (YB dq (YB dq dq)))) (fun UL=>?_) (fun UL=>?_)))
  ·refine ar (Z0 2 (ie ?_))
   have hS0:=AC (n:=n) hnn (A4 Zv om) (fun q=>Zz (JF.2 q))
   have hS:=stB hS0 Yd Xd Ve UL
   exact Z9 (r2 [] [.i (-1),.b false] ⟨(-1),rfl,rfl,(by intro _ h;rw [hS] at h;omega)⟩ (Zc.tup (.cons (lr _) (.cons (lb (by rw [hS];rfl)) .nil))))
  refine ak (ar (Tz 6 [(229,Z6 ts)] [1,0,0] (ic [] (Z4a _ s.op s.num ts) ?_)))
  rintro _ _ ⟨t1,rfl,rfl,EA⟩
  refine Z0 4 (ie ?_)
  have hS0:=AC (n:=n) hnn (A4 Zv om) (fun q=>Zz (JF.2 q))
  have hS:=stS hS0 Yd Xd Ve UL
  exact Z9 (r2 [] [.i t1,.b ((Xq n s.op s.num ts).isSome)] ⟨t1,rfl,rfl,(Zb2 hS EA)⟩ (Zc.tup (.cons (lr _) (.cons (lb (Zb1 hty hS)) .nil))))
 refine Z0 2 (ib (b:=(decide ((s.kids.length:Int)>0))) 195 (fun Ah=>?_) (fun Ah=>?_))
 ·have Zcq:(s.kids.length:Int)>0:=(dq).1 Ah
  exact Z0 28 (Yh (ZH 3 (Zq true Ah fl)) hj6)
 have Zcr:¬((s.kids.length:Int)>0):=Yi dq Ah
 refine Z3 4 [0] (ib (b:=(s.op==10)) 199 (fun B8=>?_) (fun B8=>?_))
 ·have Zcs:s.op=10:=(Zs).1 B8
  refine Z3 5 [0] (ib (b:=(decide (s.num>=0))) 204 (fun BS=>?_) (fun BS=>?_))
  ·have Zct:s.num>=0:=(dq).1 BS
   refine Z3 4 [0,1] (io (.i (((n.routines.map XH).length:Nat):Int)) (.i (((UJ (n.routines.map XH)).length:Nat):Int)) (li (by rw [CA])) (Z0 3 (ib (b:=(decide (s.num<(((n.routines.map XH).length:Nat):Int)))) 212 (fun BT=>?_) (fun BT=>?_))))
   ·have Zcu:s.num<(((n.routines.map XH).length:Nat):Int):=(dq).1 BT
    exact Z3 4 [1,0] (Zp (AA (es:=UJ (n.routines.map XH)) (hv:=none) (j:=s.num) (sz:=3) (y:=FX (Qk n s.num)) kr om (BJ (Z9f om)) rfl) (Z0 2 (io (.i ((((Qk n s.num).lnt).length:Nat):Int)) (.i (((Z7 ((Qk n s.num).lnt)).length:Nat):Int)) (li (by rw [Y9])) (Z0 3 (Yh (ZH 3 (Zq (decide (((((Qk n s.num).lnt).length:Nat):Int)>0)) (And.intro Ah (And.intro B8 (And.intro BS BT))) fl)) hj6)))))
   have Zcv:¬(s.num<(((n.routines.map XH).length:Nat):Int)):=Yi dq BT
   exact Z0 11 (Yh (ZH 3 (Zq false (And.intro Ah (And.intro B8 (And.intro BS BT))) fl)) hj6)
  have Zcw:¬(s.num>=0):=Yi dq BS
  exact Z0 19 (Yh (ZH 3 (Zq false (And.intro Ah (And.intro B8 BS)) fl)) hj6)
 have Zcx:¬(s.op=10):=Yi Zs B8
 exact Z0 24 (Yh (ZH 3 (Zq false (And.intro Ah B8) fl)) hj6)
theorem Z3t (n:Zr) (us:LI) (b:Z5) (hn:X1 n) (hnn:∀t∈us,0<=t) (hb:us.length+4*b.sz<=1000000000) (hr:b.rng) (ih:∀(s:Z4) (us:LI),(s.sz<b.sz)->(us.length+4*s.sz<=1000000000)->(s.rng)->(∀t∈us,0<=t)->Zl 93 [.agg [Y8 n.decls,Tk n],Z6 us,Ys s] [] (fun r h=>∃(t:Int),r=.tup [.i t,.b (decide (0<=Y4 n us s))]/\h=[]/\(¬Yb s.op=true->0<=Y4 n us s->t=Y4 n us s))):Zl 56 [.agg [Y8 n.decls,Tk n],Z6 us,ZD b] [] (Y7 (.i (YT n us b))):=by
 have hbz:=WX b
 have hbe:=DR n us b
 rw [b.rng_eq] at hr
 refine ZC 54 Tryz.func56 (ar (iA [Y8 n.decls,Tk n] fun b1=>iA (YR b) fun b2=>Z0 1 (ie (ar (Z0 1 (ic [] (Cv us) ?_))))))
 rintro _ _ ⟨v1,rfl,rfl⟩
 refine Z0 1 (ie (aq (ar (Z3 2 [1] (iw (WS b.steps) (Z0 1 (ie (ab 0 (ZW (fun fz gz m F h=>∃(k:Nat) (vs:LI) (v:Value),(k<=b.steps.length)/\(vs.length<=us.length+k)/\(∀t∈vs,0<=t)/\(Wg n (b.steps.drop k) vs=Wg n b.steps us)/\F=sF [3,5,15,16] fz [(7,ZT vs v),(17,.i k)]/\h=[Zh gz 1,Zh gz 2,.tail v 1]/\m=b.steps.length-k) _ _ _ ⟨0,us,v1,ob,ob,ob,ob,rfl,rfl,rfl⟩ (wk [1,1,0] (fr (Y0 fl))) ?_)))))))))
 rintro m F h ⟨k,vs,v,Y6,Zm,Zv,YC,rfl,rfl,rfl⟩
 refine ar (Z0 1 (ie (aq (ZG ((k:Int)<(b.steps.length:Int)) (fun Zb=>?_) (fun Zb=>?_)))))
 ·refine ak (aq (ab 1 (ar ?_)))
  obtain ⟨x1,Z2⟩:=Zt b.steps k om
  have hss:=Bl Z2
  have hsr:=Ph hr Z2
  refine Zp (Zi none (k:Int) 5 (W6 Z2)) (Z0 1 (iA [.i 0,.i 0,.i 0,nl,nl] fun b3=>Zy 0 b3 (Xa x1) (ie (ar (Tz 3 [(23,Z6 vs)] [2,0] (ic [] (ih x1 vs ob ob ob ob) ?_))))))
  rintro _ _ ⟨t1,rfl,rfl,Y2⟩
  refine Z0 5 (ie (aq (ar (Z0 2 (ie (ac (!decide (0<=Y4 n vs x1)) (p:=¬(decide (0<=Y4 n vs x1)=true)) (Yx Iff.rfl) (fun Zg=>?_) (fun Zg=>?_)))))))
  ·exact ar (Z0 1 (ie (Z9 (ZU (.i (-1)) (li (by rw [hbe,<-YC,Zbk Z2 (fun q=>Zg (decide_eq_true q)) rfl]))))))
  refine ak (ar (Z3 2 [0] (Zx [] (EF x1.op) (Z0 1 (ie (A9 (fun fz gz F h=>∃(w:Value),F=sF [3,5,15,16,17] fz [(7,ZT (if Yb x1.op=true then vs else vs++[t1]) w)]/\h=[Zh gz 1,Zh gz 2,.tail w 1]) (fun _ _=>rfl) ?_ ?_))))))
  ·refine ac (!Yb x1.op) (p:=¬(Yb x1.op=true)) (Yx Iff.rfl) (fun Zz=>?_) (fun Zz=>?_)
   ·exact az (Z0 2 (iL (Z7 [t1]) 1 1 fun v2=>ZM 0 [(36,Z6 [t1])] (ip 4 (Z7 (vs++[t1])) (Z7 vs) (Z7 [t1]) v none 1 (Yu _) (Yu _) (XR _) (by simp<;>omega) (by simp [XQ,Z7]) fun v3=>Z0 1 (ie (ZO ⟨v3,rfl,rfl⟩ (wk [3,3,0] (fc (x:=ZT (vs++[t1]) v3) (Zc.slh _ (Ya Z7 (by first|rfl|(rw [Zk Zz])|(rw [Za Zz])|(simp [Zz];done)|(rw [Xf];simp [Zz];done)|omega))) fl)))))))
   exact ak (ZO ⟨v,rfl,rfl⟩ (wk [1,1,1] (fc (x:=ZT vs v) (Zc.slh _ (Ya Z7 (by first|rfl|(rw [Zk Zz])|(rw [Za Zz])|(simp [Zz];done)|(rw [Xf];simp [Zz];done)|omega))) fl)))
  rintro F h ⟨w,rfl,rfl⟩
  refine az (ZE k (Z0 1 (ie ?_)))
  have h0:0<=Y4 n vs x1:=of_decide_eq_true (W3.1 Zg)
  exact ZI ⟨k+1,(if Yb x1.op=true then vs else vs++[t1]),w,ob,(by split<;>(try simp)<;>omega),(Z66 Zv (fun q=>by rw [Y2 q h0];exact h0)),(Zbj Z2 h0 Y2 YC),rfl,rfl,rfl⟩ (ZH 3 (fr (ZK k fl)))
 refine ax 0 (aq (ar (X8 [5,7] [(48,.b ((decide (b.result<0))||(decide (b.result>=(vs.length:Int)))))] (fun gz=>gz) ?_ ?_)))
 ·refine Z3 4 [0] (ib (b:=(decide (b.result<0))) 42 (fun Zf=>?_) (fun Zf=>?_))
  ·exact Z0 6 (ie (ZH 3 (Zq true Zf fl)))
  exact Z3 3 [0] (iw (Y9 vs) (Z0 2 (ie (ZH 3 (Zq (decide (b.result>=(vs.length:Int))) Zf fl)))))
 refine ac ((decide (b.result<0))||(decide (b.result>=(vs.length:Int)))) (p:=(b.result<0)∨(b.result>=(vs.length:Int))) (Yo dq dq) (fun Yd=>?_) (fun Yd=>?_)
 ·exact ar (Z0 1 (ie (Z9 (ZU (.i (-1)) (li (by rw [hbe,<-YC,X5 om];show _=(Xc vs b.result).getD (-1);rw [Qs om];rfl))))))
 refine ak (ar (Z3 3 [0] ?_))
 obtain ⟨x2,Zo⟩:=Zt vs b.result.toNat om
 exact Zp (Zi (some v) b.result 1 (ZY Zo)) (Z0 2 (ie (Z9 (ZU (.i x2) (li (by rw [hbe,<-YC,X5 om];show _=(Xc vs b.result).getD (-1);rw [TG om Zo];rfl))))))
theorem Z3r (n:Zr) (hn:X1 n) (hty:Bv n) (m:Nat):∀(b:Z5) (us:LI),(b.sz<=m)->(us.length+4*b.sz<=1000000000)->(b.rng)->(∀t∈us,0<=t)->Zl 56 [.agg [Y8 n.decls,Tk n],Z6 us,ZD b] [] (Y7 (.i (YT n us b))):=by
 induction m with
 | zero=>intro b us h;have:=b.sz_pos;omega
 | succ m ih=>intro b us h1 h2 h3 h4;exact Z3t n us b hn h4 h2 h3 fun s us2 k1 k2 k3 k4=>Z4b n us2 s hn hty k4 k2 k3 fun b2 us3 q1 q2 q3 q4=>ih b2 us3 om q2 q3 q4
theorem Z3s (n:Zr) (us:LI) (b:Z5) (hn:X1 n) (hty:Bv n) (hnn:∀t∈us,0<=t) (hb:us.length+4*b.sz<=1000000000) (hr:b.rng):Zl 56 [.agg [Y8 n.decls,Tk n],Z6 us,ZD b] [] (Y7 (.i (YT n us b))):=
 Z3r n hn hty b.sz b us (YU _) hb hr hnn
theorem MD (n:Zr) (hz:Ud n:=by exact ob) (hr:∀r∈n.routines,r.body.rng):Zl 19 [Yc n] [] (Y7 (.b (YS n))):=by
 have hzl:=hz.len
 refine ZC 37 Tryz.func19 (ar (iA (Yz n) fun b1=>Z0 1 (ie (ar (Z3 1 [0] (ic [] (Z44 n) ?_))))))
 rintro _ _ (⟨rfl,rfl,Y2⟩|⟨rfl,rfl,Ym⟩)
 ·refine Z0 3 (iA [nl,nl] fun b2=>Zy 0 b2 [Y8 n.decls,Tk n] (Z0 1 (ie (aq (ar (Z0 2 (ie (ac (!VR n) (p:=¬(VR n=true)) (Yx Iff.rfl) (fun Zb=>?_) (fun Zb=>?_)))))))))
  ·exact ar (Z0 1 (ie (Z9 (ZU (.b false) (lb (by rw [YS,TB.2 Zb];rfl))))))
  have hsg:VR n=true:=by simpa using Zb
  have hok:=HB hz hsg
  have hty:=Z67 hsg
  refine ak (aq (ar (Z3 2 [1] (iw (Vo n.routines) (Z0 1 (ie (ab 0 (ZW (fun fz gz m F h=>∃(k:Nat),(k<=n.routines.length)/\(Tg n (n.routines.drop k)=Tg n n.routines)/\F=sF [3,15,16] fz [(17,.i k)]/\h=[Zh gz 0]/\m=n.routines.length-k) _ _ _ ⟨0,ob,ob,rfl,rfl,rfl⟩ (wk [0] (Y0 fl)) ?_))))))))
  rintro m F h ⟨k,Y6,Zm,rfl,rfl,rfl⟩
  refine ar (Z0 1 (ie (aq (ZG ((k:Int)<(n.routines.length:Int)) (fun Zg=>?_) (fun Zg=>?_)))))
  ·refine ak (aq (ab 1 (ar ?_)))
   obtain ⟨x1,Z2⟩:=Zt n.routines k om
   have hrm:=ZZ Z2
   have ZB:=hz.body _ hrm
   have hps:=hok.params_at Z2
   refine Zp (Zi none (k:Int) 5 (Wk Z2)) (Z0 1 (iA [nl,nl,.i 0,nl,.i 0] fun b3=>Zy 0 b3 (Tc x1) (ie (aD 15 (ZL 13 15 [0,1] [0] (Z8 2 (Ye 2 [] [] [] (Z3o x1.body) (Jm [3,15,16,17] [(35,.b ((decide ((Um x1.body)<0))||((YT n x1.params x1.body) != x1.result)))] (fun gz=>gz) ?_ ?_))))))))
   ·refine Zj 10 12 [3,4] (db (b:=(decide ((Um x1.body)<0))) 25 (fun Zf=>?_) (fun Zf=>?_))
    ·have YN:(Um x1.body)<0:=(dq).1 Zf
     exact Zj 0 10 [5,6,7,8,9,10,11,12,13,14] (de (wk [0,0] (Zq true Zf fl)))
    have YW:¬((Um x1.body)<0):=Yi dq Zf
    exact ZL 3 10 [5,6,7,8,9,11,12] [1,0,0,0] (Z8 10 (Ye 10 [] [0] [b3] (Z3s n x1.params x1.body ob hty (hty.params _ hrm) ob (hr _ hrm)) (Zj 0 2 [13,14] (de (wk [0,0] (Zq ((YT n x1.params x1.body) != x1.result) Zf fl))))))
   refine ac ((decide ((Um x1.body)<0))||((YT n x1.params x1.body) != x1.result)) (p:=((Um x1.body)<0)∨((YT n x1.params x1.body)≠x1.result)) (Yo dq Yf) (fun Zz=>?_) (fun Zz=>?_)
   ·refine ar (Z0 1 (ie ?_))
    rw [Y3 Z2] at Zm
    exact Z9 (ZU (.b false) (lb (by clear Z2;first|rfl|omega|grind [Tg,YS])))
   refine ak (az (ZE k (Z0 1 (ie ?_))))
   have hdr:=Y3 Z2
   exact ZI ⟨k+1,ob,(by rw [hdr] at Zm;clear hdr Z2;grind [Tg]),rfl,rfl,rfl⟩ (wk [1] (ZK k fl))
  refine ax 0 (ar (Z0 1 (ie ?_)))
  try rw [X5 (xs:=n.routines) (k:=k) om] at Zm
  exact Z9 (ZU (.b true) (lb (by first|rfl|omega|grind [Tg,YS])))
 exact Z0 3 (iA [nl,nl] fun b4=>Zy 0 b4 [Y8 [],C3 []] (Z0 1 (ie (aq (ar (Z0 2 (ie (WG (ar (Z0 1 (ie (Z9 (ZU (.b false) (lb (by rw [YS,‹VR n=false›];rfl)))))))))))))))
open Go.Proofs
open Go.Proofs
abbrev Mem:=Nat->Nat->Option Value
abbrev AL:=Nat × Nat
def upd (m:Mem) (a:AL) (z:Int):Mem:=fun g o=>if g=a.1/\o=a.2 then some (.int .i64 z) else m g o
def wr (m:Mem):List AL->Int->Mem
 | [],_=>m
 | a::r,k=>wr (upd m a k) r (k+1)
def Ez (m:Mem):List AL->Int->Prop
 | [],_=>True
 | a::r,k=>m a.1 a.2=some (.int .i64 k)/\Ez m r (k+1)
def MK (m:Mem) (a:AL):Prop:=∃z,m a.1 a.2=some (.int .i64 z)
structure Kp (m m':Mem):Prop where
 i:∀{a:AL},MK m a->MK m' a
 h:∀{g o:Nat} {v:Value},m g o=some v->(∀z,v≠.int .i64 z)->m' g o=some v
section
variable {P:Program} {n:Nat} {ops:Array Oper} {B:Fr->List Res->Prop} {k:Nat} {F:Fr} {h h2:List Res}
end
section
variable {m m':Mem} {B:List Nat}
end
section
variable {m:Mem} {B:List Nat} {g:Nat}
end
section
variable {m:Mem} {B:List Nat}
end
def Zn (g lo hi:Nat) (X:List Nat) (a:AL):Prop:=(a.1=g/\lo<=a.2/\a.2<hi)∨a.1∈X
structure Nd (g lo hi:Nat) (X:List Nat) (as1:List AL):Prop where
 nd:(X.Nodup/\g∉X)->as1.Nodup
 zn:∀a∈as1,Zn g lo hi X a
section
variable {m:Mem} {B:List Nat}
end
def GB (B:List Nat):Y5:=fun b _=>b∈B
section
variable {w:World} {G:Y5} {B:List Nat}
end
section
variable {w:World} {G:Y5} {B:List Nat}
def Mw:Value->Hd
 | .slice a l c=>⟨a,l,c⟩
 | _=>⟨none,0,0⟩
abbrev av (y:IE):AV:=.agg [.h (Mw y.dv),.h (Mw y.rv)]
end
def PU (B:List Nat) (m:Mem) (x:AV) (u:Value):Prop:=
 ∀w:World,(∀b∈B,∃cs e,w.heap[b]? = some (.cells cs e (0,0))/\∀o,cs[o]? = m b o)->RV w (GB B) x u
inductive Co (bs:List Res):List AV->List AV->Prop
 | nil:Co bs [] []
 | same {x as1 xs} (t:Co bs as1 xs):Co bs (x::as1) (x::xs)
 | gen {B m x a u as1 xs} (h:Res.own B m∈bs) (hr:PU B m x u) (ha:∀w G v,RV w G a v->v=u) (t:Co bs as1 xs):Co bs (a::as1) (x::xs)
section
variable {P:Program} {n:Nat} {ops:Array Oper} {B:Fr->List Res->Prop} {k:Nat} {F:Fr} {h:List Res}
def L4 (P:Program) (ops:Array Oper) (F:Fr) (k:Nat):Option (Bool × Bool):=
 match (ZA ops k).op with
 | .binOp .neq t x y _=>match P.underlying t with
  | some .bool=>match F.ev x,F.ev y with
   | .val (.bool a),.val (.bool b)=>some (a,b)
   | _,_=>none
  | _=>none
 | _=>none
theorem Z4w (a b:Bool) (hb:L4 P ops F k=some (a,b):=by kernel_rfl):Xs P (ZA ops k) F h [] (.b (a != b)):=by
 unfold L4 at hb
 generalize hoo:ZA ops k=o at hb
 obtain ⟨dst,op,type,pos,after,guard⟩:=o
 cases op<;>simp only at hb<;>try (cases hb)
 rename_i bop t x y yt
 cases bop<;>simp only at hb<;>try (cases hb)
 split at hb
 ·rename_i ht
  split at hb
  ·rename_i a' b' h1 h2
   cases hb
   intro n w G ac hF hh
   have v1:=hF.ev x
   have v2:=hF.ev y
   rw [h1] at v1
   rw [h2] at v2
   have v1:=v1.val_inv
   have v2:=v2.val_inv
   refine ⟨_,.val,fun w' _ _=>?_⟩
   simp only [execOp,v1,v2]
   have he:(Op.equalIn (9999+1) t (.bool a) (.bool b)).run P w'=.ok (a==b) w':=by
    rw [Op.equalIn]
    simp [Sem.run_bind,Vh ht]
   refine WW ?_
   simp only [eqGuard,binOp,Op.equal,Op.maxDepth]
   have he2:(Op.equalIn 10000 t (.bool a) (.bool b)).run P w'=.ok (a==b) w':=he
   simp [Sem.run_bind,he2,bne]
  ·cases hb
 ·cases hb
end
end Go.Abs
section
namespace Go.Abs
section
variable {P:Program} {n:Nat} {ops:Array Oper} {B:Fr->List Res->Prop} {k:Nat} {F:Fr} {h:List Res}
def L5 (P:Program) (ops:Array Oper) (F:Fr) (k:Nat):Option (Bool × Bool):=
 match (ZA ops k).op with
 | .binOp .eql t x y _=>match P.underlying t with
  | some .bool=>match F.ev x,F.ev y with
   | .val (.bool a),.val (.bool b)=>some (a,b)
   | _,_=>none
  | _=>none
 | _=>none
theorem Z4v (a b:Bool) (hb:L5 P ops F k=some (a,b):=by kernel_rfl):Xs P (ZA ops k) F h [] (.b (a==b)):=by
 unfold L5 at hb
 generalize hoo:ZA ops k=o at hb
 obtain ⟨dst,op,type,pos,after,guard⟩:=o
 cases op<;>simp only at hb<;>try (cases hb)
 rename_i bop t x y yt
 cases bop<;>simp only at hb<;>try (cases hb)
 split at hb
 ·rename_i ht
  split at hb
  ·rename_i a' b' h1 h2
   cases hb
   intro n w G ac hF hh
   have v1:=hF.ev x
   have v2:=hF.ev y
   rw [h1] at v1
   rw [h2] at v2
   have v1:=v1.val_inv
   have v2:=v2.val_inv
   refine ⟨_,.val,fun w' _ _=>?_⟩
   simp only [execOp,v1,v2]
   have he:(Op.equalIn (9999+1) t (.bool a) (.bool b)).run P w'=.ok (a==b) w':=by
    rw [Op.equalIn]
    simp [Sem.run_bind,Vh ht]
   refine WW ?_
   simp only [eqGuard,binOp,Op.equal,Op.maxDepth]
   have he2:(Op.equalIn 10000 t (.bool a) (.bool b)).run P w'=.ok (a==b) w':=he
   simp [Sem.run_bind,he2]
  ·cases hb
 ·cases hb
end
end Go.Abs
namespace Go.Abs
end Go.Abs
namespace Go.Abs
theorem Wh.alone {P:Program} {f:FuncId} {as1:List AV} {h0:List Res} {R:AV->List Res->Prop} {r0:AV} (H:Wh P f as1 h0 R) (hR:∀r h,R r h->Zc r r0):Wh P f as1 h0 (fun r h=>r=r0/\h=[]):=by
 intro w G vs hv hh
 refine (H w G vs hv hh).mono ?_
 rintro e w' ⟨u,r,h',G',he,hq,hr,hh',hx⟩
 exact ⟨_,_,[],G',he,⟨rfl,rfl⟩,hR _ _ hq _ _ _ hr,hh'.sub (List.nil_sublist _),hx.sub' (List.nil_sublist _)⟩
end Go.Abs
end
namespace Go.Abs
open Go.Proofs
theorem Z48 (s:Z4) (cc:Nat) (v:Bool) :Zl 103 [Ys s,.p cc 0] [.obj cc [.b v]] (fun r h=>h=[.obj cc [.b ((v&&(!Yb s.op))&&(s.into==0))]]):=by
 refine ZC 15 Tryz.func103 (ar (iA (Xa s) fun b1=>ie (az (Xo 7 [1,2] [(9,.b (v&&(!Yb s.op)))] (fun gz=>gz) ?_ (fun hj1=>?_)))))
 ·refine Xo 12 [1] [(14,.b ((v&&(!Yb s.op))&&(s.into==0)))] (fun gz=>gz) ?_ (fun hj2=>?_)
  ·exact Zy 1 cc [.b ((v&&(!Yb s.op))&&(s.into==0))] (ie (r2 [0] [] rfl (lr _)))
  refine Z0 1 (ib (b:=(v&&(!Yb s.op))) 10 (fun Zf=>?_) (fun Zf=>?_))
  ·exact Z3 4 [0] (Yh (wk [0,0] (Zq (s.into==0) Zf fl)) hj2)
  exact Z0 4 (Yh (wk [0,0] (Zq false Zf fl)) hj2)
 refine Z3 2 [1] (ib (b:=v) 4 (fun ZF=>?_) (fun ZF=>?_))
 ·exact Z3 2 [0] (Zx [] (EF s.op) (Z0 2 (Yh (wk [0,0] (Zq (!Yb s.op) ZF fl)) hj1)))
 exact Z0 5 (Yh (wk [0,0] (Zq false ZF fl)) hj1)
theorem Z4f (b:Z5) (cc:Nat) (v:Bool) (hz:b.sz<=1000000000) (ih:∀(b2:Z5) (cc:Nat) (v2:Bool),(b2.sz<=1000000000)->(b2.sz<b.sz)->Zl 64 [ZD b2,.val (.func (.func 103) #[] #[.pointer (some ⟨cc,0,none⟩)])] [.obj cc [.b v2]] (fun r h=>h=[.obj cc [.b (v2&&U9 b2)]])):Zl 64 [ZD b,.val (.func (.func 103) #[] #[.pointer (some ⟨cc,0,none⟩)])] [.obj cc [.b v]] (fun r h=>h=[.obj cc [.b (v&&U9 b)]]):=by
 have hbz:=WX b
 have hbe:=b.sz_eq
 refine ZC 30 Tryz.func64 (ar (iA (YR b) fun b1=>?_))
 refine ie (ar (Z3 2 [0] (iw (WS b.steps) (Z0 1 (ie (ab 0 (ZW (fun fz gz m F h=>∃(k:Nat) (u:Bool),(k<=b.steps.length)/\((u&&TP (b.steps.drop k))=(v&&TP b.steps))/\F=sF [1,9,10] fz [(11,.i k)]/\h=[.obj cc [.b u]]/\m=b.steps.length-k) _ _ _ ⟨0,v,ob,rfl,rfl,rfl,rfl⟩ (wk [1] (Y0 fl)) ?_)))))))
 rintro m F h ⟨k,u,Y6,Zm,rfl,rfl,rfl⟩
 refine ar (Z0 1 (ie (aq (ZG ((k:Int)<(b.steps.length:Int)) (fun Zb=>?_) (fun Zb=>?_)))))
 ·refine ak (aq (ab 1 (ar ?_)))
  obtain ⟨x1,Z2⟩:=Zt b.steps k om
  have Xk:=TU Z2
  have hkz:=U7 x1
  refine Zp (Zi none (k:Int) 5 (W6 Z2)) (Z0 1 (iA [.i 0,.i 0,.i 0,nl,nl] fun b2=>Zy 0 b2 (Xa x1) (ie (ar (Z3 2 [0] (ic [1] (Z48 x1 cc u) ?_))))))
  rintro _ _ rfl
  refine ie (ar (Z3 2 [1] (iw (Vb x1.kids) (Z0 1 (ie (ab 2 (ZW (fun fz gz m F h=>∃(j:Nat) (w:Bool),(j<=x1.kids.length)/\((w&&TO (x1.kids.drop j))=(((u&&(!Yb x1.op))&&(x1.into==0))&&TO x1.kids))/\F=sF [1,9,10,11,19,20] fz [(21,.i j)]/\h=[.obj cc [.b w]]/\m=x1.kids.length-j) _ _ _ ⟨0,((u&&(!Yb x1.op))&&(x1.into==0)),ob,rfl,rfl,rfl,rfl⟩ (wk [0] (Y0 fl)) ?_)))))))
  rintro m F h ⟨j,w,Vl,XD,rfl,rfl,rfl⟩
  refine ar (Z0 1 (ie (aq (ZG ((j:Int)<(x1.kids.length:Int)) (fun Zg=>?_) (fun Zg=>?_)))))
  ·refine ak (aq (ab 3 (ar ?_)))
   obtain ⟨x2,Zo⟩:=Zt x1.kids j om
   have hks:=U6 Zo
   refine Zp (Zi none (j:Int) 2 (VP Zo)) (Z0 1 (iA [nl,.i 0] fun b3=>Zy 0 b3 (YR x2) (ie (az (Z3 2 [0] (ic [1] (ih x2 cc w ob ob) ?_))))))
   rintro _ _ rfl
   exact ie (az (ZE j (Z0 1 (ie (ZI ⟨j+1,(w&&U9 x2),ob,(Z7e Zo XD),rfl,rfl,rfl⟩ (wk [0] (ZK j fl)))))))
  have hKe:=Z7d om XD
  exact ax 2 (az (ZE k (Z0 1 (ie (ZI ⟨k+1,w,ob,(by have h:=Z7a Z2 Zm;rw [NT,<-Bool.and_assoc,<-Bool.and_assoc,<-hKe] at h;exact h),rfl,rfl,rfl⟩ (wk [0] (ZK k fl)))))))
 exact ax 0 (r2 [0] [] rfl (lr _) (eq:=(ro (ls:=[.b u]) (by rw [Z74,<-Z79 om Zm]) rz)))
theorem Z4d (k:Nat):∀(b2:Z5) (cc:Nat) (v2:Bool),(b2.sz<=1000000000)->(b2.sz<k)->Zl 64 [ZD b2,.val (.func (.func 103) #[] #[.pointer (some ⟨cc,0,none⟩)])] [.obj cc [.b v2]] (fun r h=>h=[.obj cc [.b (v2&&U9 b2)]]):=by
 induction k with
 | zero=>intro b cc v _ h;omega
 | succ k ih=>intro b cc v h1 h2;exact Z4f b cc v h1 fun b2 cc2 v2 k1 k2=>ih b2 cc2 v2 k1 om
theorem Z4e (b:Z5) (cc:Nat) (v:Bool) (hz:b.sz<=1000000000:=by exact ob):Zl 64 [ZD b,.val (.func (.func 103) #[] #[.pointer (some ⟨cc,0,none⟩)])] [.obj cc [.b v]] (fun r h=>h=[.obj cc [.b (v&&U9 b)]]):=Z4d (b.sz+1) b cc v hz om
theorem Z41 (b:Z5) (hz:b.sz<=1000000000:=by exact ob):Zl 69 [ZD b] [] (Y7 (.b (U9 b))):=by
 refine ZC 8 Tryz.func69 (ar (iA (YR b) fun b1=>Z0 1 (ie (ar (iA [.b false] fun b2=>Zy 0 b2 [.b true] (ie (ar (Z3 2 [1] (ic [0] (Z4e b b2 true) ?_)))))))))
 rintro _ _ rfl
 exact ie (ar (Z3 2 [0] (ie (Z9 (ZU (.b (true&&U9 b)) (lb (by rw [Bool.true_and])))))))
theorem Z3m (n:Zr) (hz:Ud n:=by exact ob) (hr:∀r∈n.routines,r.body.rng):Zl 32 [Yc n] [] (Y7 (.b (QV n))):=by
 have hzl:=hz.len
 refine ZC 20 Tryz.func32 (ar (iA (Yz n) fun b1=>Z0 1 (ie (aq (ar (Z3 1 [0] (Zx [] (MD n (hr:=hr)) (Z0 1 (ie (ac (!YS n) (p:=¬(YS n=true)) (Yx Iff.rfl) (fun Zb=>?_) (fun Zb=>?_)))))))))))
 ·exact ar (Z0 1 (ie (Z9 (ZU (.b false) (lb (by rw [QV,TB.2 Zb];rfl))))))
 refine ak (aq (ar (Z3 2 [0] (iw (Vo n.routines) (Z0 1 (ie (ab 0 (ZW (fun fz gz m F h=>∃(k:Nat),(k<=n.routines.length)/\(T2 (n.routines.drop k)=T2 n.routines)/\F=sF [9,10] fz [(11,.i k)]/\h=[]/\m=n.routines.length-k) _ _ _ ⟨0,ob,rfl,rfl,rfl,rfl⟩ (wk [] (Y0 fl)) ?_))))))))
 rintro m F h ⟨k,Y6,Zm,rfl,rfl,rfl⟩
 refine ar (Z0 1 (ie (aq (ZG ((k:Int)<(n.routines.length:Int)) (fun Zg=>?_) (fun Zg=>?_)))))
 ·refine ak (aq (ab 1 (ar ?_)))
  obtain ⟨x1,Z2⟩:=Zt n.routines k om
  have hrm:=ZZ Z2
  have hbz:=hz.body _ hrm
  refine Zp (Zi none (k:Int) 5 (Wk Z2)) (Z0 1 (iA [nl,nl,.i 0,nl,.i 0] fun b2=>Zy 0 b2 (Tc x1) (ie (ar (Z3 2 [0] (Zx [] (Z41 x1.body) (Z0 1 (ie (ac (!U9 x1.body) (p:=¬(U9 x1.body=true)) (Yx Iff.rfl) (fun Zz=>?_) (fun Zz=>?_))))))))))
  ·exact ar (Z0 1 (ie (Z9 (ZU (.b false) (lb (by rw [QV,W3.1 Zb,Bool.true_and];exact Z7f Z2 Zz Zm))))))
  exact ak (az (ZE k (Z0 1 (ie (ZI ⟨k+1,ob,(Z7h Z2 (W3.1 Zz) Zm),rfl,rfl,rfl⟩ (wk [] (ZK k fl)))))))
 exact ax 0 (ar (Z0 1 (ie (Z9 (ZU (.b true) (lb (by rw [QV,W3.1 Zb,Bool.true_and];exact Z7g om Zm)))))))
theorem EP (xs:LI) (ys:LI) (hxl:xs.length<=1000000000:=by exact ob) (hyl:ys.length<=1000000000:=by exact ob):Zl 27 [Z6 xs,Z6 ys] [] (Y7 (.b (decide (xs=ys)))):=by
 refine ZC 26 Tryz.func27 (ar (Z0 1 (ie (aq (ar (Z0 1 (iw (Y9 xs) (Z0 1 (iw (Y9 ys) (Z0 1 (ie (ac ((xs.length:Int) != (ys.length:Int)) Yf (fun Zb=>?_) (fun Zb=>?_)))))))))))))
 ·exact ar (Z0 1 (ie (Z9 (ZU (.b false) (lb (decide_eq_false (fun z=>Zb (by rw [z]))).symm)))))
 refine ak (aq (ar (Z0 1 (ie (ab 0 (ZW (fun fz gz m F h=>∃(k:Nat),(k<=xs.length)/\(∀i,i<k->xs[i]? = ys[i]?)/\F=sF [0,1] fz [(5,.i k)]/\h=gz/\m=xs.length-k) _ _ _ ⟨0,ob,(fun i h=>absurd h om),rfl,rfl,rfl⟩ (wk [] (Y0 fl)) ?_))))))
 rintro m F h ⟨k,Y6,Zm,rfl,rfl,rfl⟩
 refine aq (ar (Z0 2 (iw (Y9 xs) (Z0 1 (ie (ZG ((k:Int)<(xs.length:Int)) (fun Zg=>?_) (fun Zg=>?_)))))))
 ·refine ak (aq (ab 1 (aD 9 (Zj 7 9 [0,1] ?_))))
  obtain ⟨x1,Z2⟩:=Zt xs k om
  refine dx 2 (Zi none (k:Int) 1 (ZY Z2)) (Zj 3 6 [3,4,5] ?_)
  obtain ⟨x2,Zo⟩:=Zt ys k om
  refine dx 6 (Zi none (k:Int) 1 (ZY Zo)) (Zj 0 2 [7,8] (de (ac (x1 != x2) Yf (fun Zz=>?_) (fun Zz=>?_))))
  ·exact ar (Z0 1 (ie (Z9 (ZU (.b false) (lb (decide_eq_false (fun z=>Zz (by rw [z,Zo] at Z2;cases Z2;rfl))).symm)))))
  exact ak (az (Z0 1 (ZE k (Z0 1 (ie (ZI ⟨k+1,ob,(fun i h=>(Nat.lt_succ_iff_lt_or_eq.1 h).elim (Zm i) (fun z=>by rw [z,Z2,Zo,W3.1 Zz])),rfl,rfl,rfl⟩ (wk [] (ZK k fl))))))))
 exact ax 0 (ar (Z0 1 (ie (Z9 (ZU (.b true) (lb (decide_eq_true (Z08 om (fun i hi=>Zm i om))).symm))))))
theorem RM (ds:List Zd) (hl_ds:ds.length<=4294967296:=by exact ob):Zl 149 [Y8 ds] [] (fun r h=>∃(v:Hd),r=.h v/\h=[rK v 3 (Ze (Yp ds))]):=by
 refine ZC 8 Tryz.func149 (ar (Z0 1 (ie (aq (ar (Z0 1 (iN (Yp ds) (fun hz1=>?_) ?_)))))))
 ·have hz1:=SP hz1
  refine ie (WG (ar (Z0 1 (ie (Kf (Io (k:=3)) ?_)))))
  subst hz1
  exact Z9 (r2 [0] [nl] ⟨hN,rfl,rfl⟩ (Zc.hd (v:=hN)) (eq:=(rr (ls:=[]) rfl rz)))
 exact ie (WF (ak (ar (BV 3 fun g1=>Z0 1 (Ha 0 g1 3 (Yp ds) none (Qw _) (by simp<;>omega) fun v1=>Z0 1 (ie (Z9 (r1 [0] ⟨v1,rfl,rfl⟩))))))))
theorem RL (cs:List Y1) (hl_cs:cs.length<=4294967296:=by exact ob):Zl 150 [QA cs] [] (fun r h=>∃(v:Hd),r=.h v/\h=[rK v 1 (Ze (Xt cs))]):=by
 refine ZC 8 Tryz.func150 (ar (Z0 1 (ie (aq (ar (Z0 1 (iN (Xt cs) (fun hz1=>?_) ?_)))))))
 ·have hz1:=SM hz1
  refine ie (WG (ar (Z0 1 (ie (Kf (Io (k:=1)) ?_)))))
  subst hz1
  exact Z9 (r2 [0] [nl] ⟨hN,rfl,rfl⟩ (Zc.hd (v:=hN)) (eq:=(rr (ls:=[]) rfl rz)))
 exact ie (WF (ak (ar (BV 1 fun g1=>Z0 1 (Ha 0 g1 1 (Xt cs) none (Cz _) (by simp<;>omega) fun v1=>Z0 1 (ie (Z9 (r1 [0] ⟨v1,rfl,rfl⟩))))))))
theorem Z3u (ds:List Zd) (hd:W1 ds):Zl 111 [Y8 ds] [] (fun r h=>∃(ys:List WR) (w:Value),r=Z6e ys w/\h=[.many (TJ ys),.tail w 3]/\ys.map WR.er=ds):=by
 have hdl:=hd.len
 refine ZC 46 Tryz.func111 (ar (Z0 1 (ie (ar (Z0 1 (ic [] (RM ds) ?_))))))
 rintro _ _ ⟨v1,rfl,rfl⟩
 refine Z0 1 (ie (aq (ar (Z0 1 (Zp (MP 0 ds.length v1 3 (Ze (Yp ds)) (by rw [LS])) (Z0 1 (ie (ab 0 (Kf (tB [] [] [] (TJ []) (by simp [CX,CS,Et,Eu,Ew,Ex,Es,Q9,Q8,CW,BU,Tu,TJ,JE,CT,CU,CV,Ev])) (ZW (fun fz gz m F h=>∃(k:Nat) (v:Hd) (ys:List WR),(k<=ds.length)/\(ys.map WR.er=ds.take k)/\(ys.length=k)/\F=sF [11] fz [(3,.h v),(10,.h v),(12,.i k)]/\h=[rK v 3 (Ze (WL ys++Yp (ds.drop k))),.many (TJ ys)]/\m=ds.length-k) _ _ _ ⟨0,v1,[],ob,rfl,rfl,rfl,rfl,rfl⟩ (wk [1,0] (fw (Y0 fl)) (e:=(rr (ls:=Ze (Yp ds)) (by rfl) (rc rz)))) ?_))))))))))
 rintro m F h ⟨k,v,ys,Y6,Zm,Zv,rfl,rfl,rfl⟩
 refine ar (Z0 1 (ie (aq (ZG ((k:Int)<(ds.length:Int)) (fun Zb=>?_) (fun Zb=>?_)))))
 ·obtain ⟨x1,Z2⟩:=Zt ds k om
  have hcl:=hd.cons_at Z2
  refine MM 0 ds.length (v:=v) (Oz Zv Y6) om (fun g1 c1 he1=>?_)
  subst he1
  refine ak (aq (ab 1 (ar (Z0 1 (Zp (XJ g1 ds.length c1 k 3 (k:Int)) (VE (WJ 0 g1 ds.length c1 3 (k*3) (Ze (WL ys++Yp (ds.drop k))) (UP x1) 122 (Ji x1) (by rw [OA Z2];exact HT (by rw [B4,Zv]))) (iA [.i 0,.i 0,nl] fun b1=>Z0 1 (Zy 0 b1 (UP x1) (ie (ar (Z3 4 [0] (ic [] (RL x1.cons) ?_))))))))))))
  rintro _ _ ⟨v2,rfl,rfl⟩
  refine Zp (XJ g1 ds.length c1 k 3 (k:Int)) (Z0 1 (BW 2 g1 ds.length c1 3 (k*3+2) [.h v2] (Ze (WL ys++Yp (ds.drop k))) (Ze (WL ys)++([.i x1.frm,.i x1.to_,.h v2]++Ze (Yp (ds.drop (k+1))))) (by rw [Oz Zv Y6];simp;omega) (by rw [OA Z2];exact Z8c (by rw [B4,Zv])) (ie (ar (Z3 2 [2] (iw (Vz x1.cons) (Z0 1 (ie (ab 2 (Kf (tB [] [] [] (Tu []) (by simp [CX,CS,Et,Eu,Ew,Ex,Es,Q9,Q8,CW,BU,Tu,TJ,JE,CT,CU,CV,Ev])) (ZW (fun fz gz m F h=>∃(j:Nat) (u:Hd) (zs:List WQ),(j<=x1.cons.length)/\(zs.map WQ.er=x1.cons.take j)/\(zs.length=j)/\F=sF [3,4,10,11,12,25,26] fz [(27,.i j)]/\h=[Zh gz 4,rK u 1 (Ze (VA zs++Xt (x1.cons.drop j))),.row (.slice (some ⟨g1,0,none⟩) ds.length c1) 3 (Ze (WL ys)++([.i x1.frm,.i x1.to_,.h u]++Ze (Yp (ds.drop (k+1))))),.many (Tu zs)]/\m=x1.cons.length-j) _ _ _ ⟨0,v2,[],ob,rfl,rfl,rfl,rfl,rfl⟩ (wk [4,2,1,0] (Y0 fl) (e:=(rc (rr (ls:=Ze (Xt x1.cons)) (by rfl) (rc (rc rz)))))) ?_)))))))))))
  rintro m F h ⟨j,u,zs,Vl,XD,Xm,rfl,rfl,rfl⟩
  refine ar (Z0 1 (ie (aq (ZG ((j:Int)<(x1.cons.length:Int)) (fun Zg=>?_) (fun Zg=>?_)))))
  ·obtain ⟨x2,Zo⟩:=Zt x1.cons j om
   have hfl:=hd.fields_at Z2 Zo
   refine MM 1 x1.cons.length (v:=u) (Oy Xm Vl) om (fun g2 c2 he2=>?_)
   subst he2
   refine ak (aq (ab 3 (ar (Z0 1 (Zp (Zi none (j:Int) 1 (Jp Zo)) (Z0 1 (iA [nl] fun b2=>Z0 1 (Zy 0 b2 (C0 x2) (ie (aE 12 (Zj 10 12 [0,1] (dx 2 (XJ g1 ds.length c1 k 3 (k:Int)) (Zj 8 9 [3] (VO 4 (WJ 3 g1 ds.length c1 3 (k*3+2) (Ze (WL ys)++([.i x1.frm,.i x1.to_,.h ⟨some ⟨g2,0,none⟩,x1.cons.length,c2⟩]++Ze (Yp (ds.drop (k+1))))) [.h ⟨some ⟨g2,0,none⟩,x1.cons.length,c2⟩] 120 (.ms g2 0 x1.cons.length c2) (Z8d (by rw [B4,Zv]))) (ZL 4 7 [5,6,7] [0] (Z8 8 (dc 8 [] [2] [g1] (Cv x2.fields) ?_)))))))))))))))))
   rintro _ _ ⟨v3,rfl,rfl⟩
   exact dx 9 (XJ g2 x1.cons.length c2 j 1 (j:Int)) (Zj 1 2 [10] (Z8 11 (Aa 11 3 [] [] g2 x1.cons.length c2 1 (j*1) [ZT x2.fields v3] (Ze (VA zs++Xt (x1.cons.drop j))) (Ze (VA zs)++([ZT x2.fields v3]++Ze (Xt (x1.cons.drop (j+1))))) (by rw [Oy Xm Vl];simp;omega) (by rw [Z89 Zo];exact Dq (by rw [LT,Xm,Kd]) rfl) (E3 (tB [5,1] [.many (Tu zs),.tail v3 1] (Tu zs++((v3,1)::[])) (Tu (zs++[WQ.mk x2.fields v3])) (by simp [CX,CS,Et,Eu,Ew,Ex,Es,Q9,Q8,CW,BU,Tu,TJ,JE,CT,CU,CV,Ev])) (de (az (ZE j (Z0 1 (ie (ZI ⟨j+1,⟨some ⟨g2,0,none⟩,x1.cons.length,c2⟩,(zs++[WQ.mk x2.fields v3]),ob,(by rw [List.map_append,XD,Wq Zo];rfl),(by simp [Xm]),rfl,rfl,rfl⟩ (wk [3,1,2,0] (ZK j fl) (e:=(rc (rr (ls:=(Ze (VA zs)++([ZT x2.fields v3]++Ze (Xt (x1.cons.drop (j+1)))))) Z88 (rr (ls:=(Ze (WL ys)++([.i x1.frm,.i x1.to_,.h ⟨some ⟨g2,0,none⟩,x1.cons.length,c2⟩]++Ze (Yp (ds.drop (k+1)))))) ob (rc rz))))))))))))))))
  refine Kf (Cg 1 u.v 1 (Ze (VA zs++Xt (x1.cons.drop j))) (Ze (VA zs)) (Z87 om)) (Kf (Zbm 0 1 (k*3+2) u.v (.slice (some ⟨g1,0,none⟩) ds.length c1) 1 3 (VA zs) (Ze (WL ys)++([.i x1.frm,.i x1.to_,.h u]++Ze (Yp (ds.drop (k+1))))) (Lv _) (by rw [DG (by rw [B4];omega),B4,Zv];simp)) ?_)
  exact Kf (Cg 0 (.slice (some ⟨g1,0,none⟩) ds.length c1) 3 (List.set ((Ze (WL ys)++([.i x1.frm,.i x1.to_,.h u]++Ze (Yp (ds.drop (k+1))))):List AV) (k*3+2) (De zs u.v)) (Ze (WL ys)++([.i x1.frm,.i x1.to_,De zs u.v]++Ze (Yp (ds.drop (k+1))))) (Z8e (by rw [B4,Zv]))) (Kf (tB [2,2,1] [.many (TJ ys),.many (Tu zs),.tail u.v 1] (TJ ys++(Tu zs++((u.v,1)::[]))) (TJ (ys++[WR.mk x1.frm x1.to_ zs u.v])) (by simp [CX,CS,Et,Eu,Ew,Ex,Es,Q9,Q8,CW,BU,Tu,TJ,JE,CT,CU,CV,Ev])) (ax 2 (az (ZE k (Z0 1 (ie (ZI ⟨k+1,(⟨some ⟨g1,0,none⟩,ds.length,c1⟩:Hd),(ys++[WR.mk x1.frm x1.to_ zs u.v]),ob,(by rw [List.map_append,Zm,Wq Z2,PS (XD.trans (WK om))]),(by simp [Zv]),rfl,rfl,rfl⟩ (wk [1,0] (fw (ZK k fl)) (e:=(rr (ls:=(Ze (WL ys)++([.i x1.frm,.i x1.to_,De zs u.v]++Ze (Yp (ds.drop (k+1)))))) Z8b (rc rz)))))))))))
 exact ax 0 (ar (Z0 2 (ie (Kf (Cg 0 v.v 3 (Ze (WL ys++Yp (ds.drop k))) (Ze (WL ys)) (Z8a om)) (MO 2 0 (v:=v) (WL ys) (Lw _) (Z9 (r1 [1,0] ⟨ys,v.v,rfl,rfl,(by rw [Zm,WK om])⟩)))))))
theorem Z3v (ds:List Zd) (hd:W1 ds:=by exact ob):Zl 111 [Y8 ds] [] (Y7 (Y8 ds)):=((Z3u ds hd).alone fun r h ⟨ys,w,e1,_,e3⟩=>by rw [e1,<-e3];exact Zc.els _ (Z0c ys))
theorem Z4g (s:Z4) (ks:List Z5) (hl:s.sz<=1000000000:=by exact ob):Zl 151 [Ys s,Xb ks] [] (Y7 (.agg [.i s.op,.i s.num,.i s.into,Z6 s.args,Xb ks])):=by
 have hal:=T6 s
 refine ZC 12 Tryz.func151 (ar (iA (Xa s) fun b1=>iA [.i 0,.i 0,.i 0,nl,nl] fun b2=>ie (ar (Z3 2 [1] (ic [] (Cv s.args) ?_)))))
 rintro _ _ ⟨v1,rfl,rfl⟩
 exact Z0 2 (Zy 2 b1 [.i s.op,.i s.num,.i s.into,ZT s.args v1,Xb s.kids] (Z0 1 (Zy 0 b1 [.i s.op,.i s.num,.i s.into,ZT s.args v1,Xb ks] (ie (ar (Z3 1 [0] (Zy 2 b2 [.i s.op,.i s.num,.i s.into,ZT s.args v1,Xb ks] (ie (Z9 (r3 [] [.agg [.i s.op,.i s.num,.i s.into,ZT s.args v1,Xb ks]] [0] [(b2,b2)] ⟨rfl,rfl⟩ (Zc.agg (.cons (lr _) (.cons (lr _) (.cons (lr _) (.cons (Zc.forget _ _) (.cons (lr _) .nil))))))))))))))))
theorem Z43 (z:Nat) (s:Z4) (hz:s.sz<=z+1:=by exact ob) (hl:s.sz<=1000000000:=by exact ob) (ih:∀(b2:Z5),(b2.sz<=z)->(b2.sz<=1000000000)->Zl 78 [ZD b2] [] (Y7 (ZD (YZ b2)))):Zl 112 [Ys s,.val (.func (.func 78) #[] #[])] [] (Y7 (.agg [.i s.op,.i s.num,.i s.into,Z6 s.args,Xb (XZ s.kids)])):=by
 have hkz:=U7 s
 refine ZC 25 Tryz.func112 (ar (iA (Xa s) fun b1=>iA [.i 0,.i 0,.i 0,nl,nl] fun b2=>?_))
 refine ie (ar (Z0 1 (ie (aq (ar (Z3 2 [1] (iw (Vb s.kids) (Z0 1 (ie (ab 0 (AP 2 (ZW (fun fz gz m F h=>∃(k:Nat) (ks:List Z5) (u:Value),(k<=s.kids.length)/\(ks.length=k)/\(ks++XZ (s.kids.drop k)=XZ s.kids)/\F=sF [1,2,4,9,10] fz [(5,U8 ks u),(11,.i k)]/\h=[Zh gz 1,Zh gz 2,.tail u 2]/\m=s.kids.length-k) _ _ _ ⟨0,[],(.slice none 0 0),ob,ob,ob,rfl,rfl,rfl⟩ (wk [1,1,0] (fc (x:=nl) (Zc.slh _ (by first|rfl|(subst_vars;rfl))) (Y0 fl))) ?_))))))))))))
 rintro m F h ⟨k,ks,u,Y6,Zm,Zv,rfl,rfl,rfl⟩
 refine ar (Z0 1 (ie (aq (ZG ((k:Int)<(s.kids.length:Int)) (fun Zb=>?_) (fun Zb=>?_)))))
 ·refine ak (aq (ab 1 (ar ?_)))
  obtain ⟨x1,Z2⟩:=Zt s.kids k om
  have hks:=U6 Z2
  exact Zp (Zi none (k:Int) 2 (VP Z2)) (Z0 1 (iA [nl,.i 0] fun b3=>Zy 0 b3 (YR x1) (ie (az (Z3 3 [0] (Zx [] (ih x1 ob ob) (iL [ZD (YZ x1)] 1 2 fun v1=>ZM 0 [(19,.sl [ZD (YZ x1)] none)] (ip 4 (Yt (ks++[YZ x1])) (Yt ks) [ZD (YZ x1)] u none 2 (UI _) (UQ rfl) rfl (by simp<;>omega) (by simp [Kk,U2]) fun v2=>Z0 1 (ie (az (ZE k (Z0 1 (ie (ZI ⟨k+1,(ks++[YZ x1]),v2,ob,(by rw [Yn,Zm];rfl),(Oh Z2 Zv),rfl,rfl,rfl⟩ (wk [3,3,0] (fr (ZK k fl)))))))))))))))))
 exact ax 0 (ar (Tz 2 [(23,Xb ks)] [1] (Zx [] (Z4g s ks) (Zy 0 b2 [.i s.op,.i s.num,.i s.into,Z6 s.args,Xb ks] (ie (Z9 (r3 [] [.agg [.i s.op,.i s.num,.i s.into,Z6 s.args,Xb ks]] [0] [(b2,b2)] ⟨rfl,rfl⟩ (Zc.agg (.cons (lr _) (.cons (lr _) (.cons (lr _) (.cons (lr _) (.cons (Zc.sl _ (Ya Yt (Og om Zv))) .nil)))))))))))))
theorem Z45 (z:Nat) (b:Z5) (hz:b.sz<=z+1:=by exact ob) (hl:b.sz<=1000000000:=by exact ob) (ih:∀(b2:Z5),(b2.sz<=z)->(b2.sz<=1000000000)->Zl 78 [ZD b2] [] (Y7 (ZD (YZ b2)))):Zl 78 [ZD b] [] (Y7 (ZD (YZ b))):=by
 have hbz:=WX b
 refine ZC 31 Tryz.func78 (ar (iA (YR b) fun b1=>iA [nl,.i 0] fun b2=>ie (ar (Z3 3 [1] (iA [nl,.i 0] fun b3=>?_)))))
 refine Zy 0 b3 [nl,.i b.result] (ie (aq (ar (Z3 2 [2] (iw (WS b.steps) (Z0 1 (ie (ab 0 (AP 5 (ZW (fun fz gz m F h=>∃(k:Nat) (xs:List Z4) (v:Value),(k<=b.steps.length)/\(xs.length<=k)/\(xs++Wy (b.steps.drop k)=Wy b.steps)/\F=sF [2,3,10,11] fz [(12,.i k)]/\h=[.obj b3 [YD xs v,.i b.result],Zh gz 2,.tail v 5]/\m=b.steps.length-k) _ _ _ ⟨0,[],(.slice none 0 0),ob,ob,ob,rfl,rfl,rfl⟩ (wk [1,1,0] (Y0 fl)) ?_))))))))))
 rintro m F h ⟨k,xs,v,Y6,Zm,Zv,rfl,rfl,rfl⟩
 refine ar (Z0 1 (ie (aq (ZG ((k:Int)<(b.steps.length:Int)) (fun Zb=>?_) (fun Zb=>?_)))))
 ·refine ak (aq (ab 1 (ar ?_)))
  obtain ⟨x1,Z2⟩:=Zt b.steps k om
  have Xk:=TU Z2
  refine Zp (Zi none (k:Int) 5 (W6 Z2)) (Z0 1 (iA [.i 0,.i 0,.i 0,nl,nl] fun b4=>Zy 0 b4 (Xa x1) (ie (ar (Z3 2 [0] (Zx [] (EF x1.op) (Z0 1 (ie (ac (!Yb x1.op) (p:=¬(Yb x1.op=true)) (Yx Iff.rfl) (fun Zg=>?_) (fun Zg=>?_))))))))))
  ·exact ar (Z3 1 [0] (Zx [] (Z43 z x1 (ih:=ih)) (Zy 0 b4 [.i x1.op,.i x1.num,.i x1.into,Z6 x1.args,Xb (XZ x1.kids)] (ie (ar (Z0 1 (Zy 0 b4 [.i x1.op,.i x1.num,.i 0,Z6 x1.args,Xb (XZ x1.kids)] (ie (az (Z3 3 [1,0] (iL [Ys (Z4.mk x1.op x1.num 0 x1.args (XZ x1.kids))] 1 5 fun v1=>ZM 0 [(26,.sl [Ys (Z4.mk x1.op x1.num 0 x1.args (XZ x1.kids))] none)] (ip 4 (Zu (xs++[Z4.mk x1.op x1.num 0 x1.args (XZ x1.kids)])) (Zu xs) [Ys (Z4.mk x1.op x1.num 0 x1.args (XZ x1.kids))] v none 5 (X0 _) (UQ rfl) rfl (by simp<;>omega) (by simp [Wm,WT]) fun v2=>Z0 1 (Zy 3 b3 [YD (xs++[Z4.mk x1.op x1.num 0 x1.args (XZ x1.kids)]) v2,.i b.result] (ie (az (ZE k (Z0 1 (ie (ZI ⟨k+1,(xs++[Z4.mk x1.op x1.num 0 x1.args (XZ x1.kids)]),v2,ob,(by simp;omega),(Oa Z2 Zg Zv),rfl,rfl,rfl⟩ (wk [0,3,0] (ZK k fl)))))))))))))))))))))
  exact ak (az (ZE k (Z0 1 (ie (ZI ⟨k+1,xs,v,ob,ob,(Of Z2 (W3.1 Zg) Zv),rfl,rfl,rfl⟩ (wk [1,1,1] (ZK k fl)))))))
 exact ax 0 (ar (Z3 1 [0] (Zy 1 b2 [YD xs v,.i b.result] (ie (Z9 (r3 [] [.agg [YD xs v,.i b.result]] [0] [(b2,b2)] ⟨rfl,rfl⟩ (Zc.agg (.cons (Zc.sl _ (Ya Zu (by rw [O0];exact O9 om Zv))) (.cons (li (by rw [NY])) .nil)))))))))
theorem Z46 (m:Nat):∀(b2:Z5),(b2.sz<=m)->(b2.sz<=1000000000)->Zl 78 [ZD b2] [] (Y7 (ZD (YZ b2))):=by
 induction m with
 | zero=>intro b h;have:=b.sz_pos;omega
 | succ m ih=>intro b h1 h2;exact Z45 m b h1 h2 ih
theorem Z47 (b:Z5) (hl:b.sz<=1000000000:=by exact ob):Zl 78 [ZD b] [] (Y7 (ZD (YZ b))):=Z46 b.sz b (YU _) hl
theorem Z3n (rt:ZX) (b:Z5) (hl:b.sz<=1000000000:=by exact ob):Zl 77 [Q0 rt,ZD b] [] (Y7 (ZD (YZ b))):=by
 exact ZC 7 Tryz.func77 (ar (iA (Tc rt) fun b1=>iA (YR b) fun b2=>iA [nl,.i 0] fun b3=>ie (ar (Z3 1 [1] (Zx [] (Z47 b) (Zy 0 b3 (YR (YZ b)) (ie (Z9 (r3 [] [ZD (YZ b)] [0] [(b3,b3)] ⟨rfl,rfl⟩ (lr _))))))))))
theorem Z42 (n:Zr) (hn:X1 n:=by exact ob) (hz:Ud n:=by exact ob):Zl 76 [Yc n,.val (.func (.func 77) #[] #[])] [] (Y7 (Yc (VH n))):=by
 have hzl:=hz.len
 refine ZC 40 Tryz.func76 (ar (iA (Yz n) fun b1=>iA [nl,nl] fun b2=>ie (ar (Z3 2 [1] (Zx [] (Z3v n.decls (hd:=hn.decls)) (Z0 1 (iA [nl,nl] fun b3=>?_)))))))
 refine Zy 0 b3 [Y8 n.decls,nl] (ie (aq (ar (Z3 2 [2] (iw (Vo n.routines) (Z0 1 (ie (ab 0 (AP 5 (ZW (fun fz gz m F h=>∃(k:Nat) (xs:List ZX) (v:Value),(k<=n.routines.length)/\(xs=(n.routines.take k).map Tf)/\(xs.length=k)/\F=sF [1,4,5,13,14] fz [(15,.i k)]/\h=[.obj b3 [Y8 n.decls,XK xs v],Zh gz 2,.tail v 5]/\m=n.routines.length-k) _ _ _ ⟨0,[],(.slice none 0 0),ob,rfl,ob,rfl,rfl,rfl⟩ (wk [1,1,0] (Y0 fl)) ?_))))))))))
 rintro m F h ⟨k,xs,v,Y6,Zm,Zv,rfl,rfl,rfl⟩
 refine ar (Z0 1 (ie (aq (ZG ((k:Int)<(n.routines.length:Int)) (fun Zb=>?_) (fun Zb=>?_)))))
 ·refine ak (aq (ab 1 (ar ?_)))
  obtain ⟨x1,Z2⟩:=Zt n.routines k om
  have hrm:=ZZ Z2
  have hbz:=hz.body _ hrm
  have hpl:=hz.params _ hrm
  have hll:=hz.lent _ hrm
  refine Zp (Zi none (k:Int) 5 (Wk Z2)) (Z0 1 (iA [nl,nl,.i 0,nl,.i 0] fun b4=>Zy 0 b4 (Tc x1) (ie (aE 20 (ZL 8 20 [0,1,2,3,5,6,8,9,10,11,12,13] [1,0,0,0,0,0] (Z8 4 (dc 4 [] [0,0,0,0,1] [b4,b4,b4,b4,b3] (Cv x1.params) ?_)))))))
  rintro _ _ ⟨v1,rfl,rfl⟩
  refine Z8 7 (dc 7 [] [0,0,0,1] [b4,b4,b4,b3] (Cv x1.lent) ?_)
  rintro _ _ ⟨v2,rfl,rfl⟩
  exact Z8 14 (Ye 14 [] [0,1] [b4,b3] (Z3n x1 x1.body) (Yg 4 5 [15] [(34,.agg [Z6 x1.params,Z6 x1.lent,.i x1.result,Wx ((YZ x1.body).steps),.i ((YZ x1.body).result)])] (Z8 16 (dL 16 [1] [b3] (Yr [ZX.mk x1.params x1.lent x1.result (Z5.mk ((YZ x1.body).steps) ((YZ x1.body).result))]) 1 5 fun v3=>Yg 3 3 [] [(35,TM [ZX.mk x1.params x1.lent x1.result (Z5.mk ((YZ x1.body).steps) ((YZ x1.body).result))])] (Z8 17 (dp 17 6 [] [] (Yr (xs++[ZX.mk x1.params x1.lent x1.result (Z5.mk ((YZ x1.body).steps) ((YZ x1.body).result))])) (Yr xs) (Yr [ZX.mk x1.params x1.lent x1.result (Z5.mk ((YZ x1.body).steps) ((YZ x1.body).result))]) v none 5 (VB _) (VB _) (KQ _) (by simp<;>omega) (by simp [Jr,Yr]) fun v4=>Zj 1 2 [18] (Z8 19 (YA 19 5 [] [] b3 [Y8 n.decls,XK (xs++[ZX.mk x1.params x1.lent x1.result (Z5.mk ((YZ x1.body).steps) ((YZ x1.body).result))]) v4] (de (az (ZE k (Z0 1 (ie (ZI ⟨k+1,(xs++[ZX.mk x1.params x1.lent x1.result (Z5.mk ((YZ x1.body).steps) ((YZ x1.body).result))]),v4,ob,(by rw [show Z5.mk (YZ x1.body).steps (YZ x1.body).result=YZ x1.body by cases YZ x1.body;rfl,Zm,Wq Z2,List.map_append];rfl),(by rw [Yn,Zv];rfl),rfl,rfl,rfl⟩ (wk [0,5,0] (ZK k fl))))))))))))))))
 exact ax 0 (ar (Z3 1 [0] (Zy 1 b2 [Y8 n.decls,XK xs v] (ie (Z9 (r3 [] [.agg [Y8 n.decls,XK xs v]] [0] [(b2,b2)] ⟨rfl,rfl⟩ (Zc.agg (.cons (Zc.sl _ (Ya Yp (by rfl))) (.cons (Zc.sl _ (Ya Yr (by rw [Zm,WK om];rfl))) .nil)))))))))
theorem MC (n:Zr) (hz:Ud n:=by exact ob) (hr:∀r∈n.routines,r.body.rng):Zl 39 [Yc n] [] (Y7 (.tup [Yc (Xe n),.b (YS n)])):=by
 refine ZC 10 Tryz.func39 (ar (iA (Yz n) fun b1=>iA [nl,nl] fun b2=>Z0 1 (ie (aq (ar (Z3 1 [1] (Zx [] (MD n (hr:=hr)) (Z0 1 (ie (ac (!YS n) (p:=¬(YS n=true)) (Yx Iff.rfl) (fun Zb=>?_) (fun Zb=>?_)))))))))))
 ·exact ar (Z0 1 (Zy 0 b2 [nl,nl] (Z0 1 (ie (Z9 (r3 [] [.agg [nl,nl],.b false] [0] [(b2,b2)] ⟨rfl,rfl⟩ (Zc.tup (.cons (Zc.agg (.cons (Zc.sl _ (by rw [C8 Zb];rfl)) (.cons (Zc.sl _ (by rw [C8 Zb];rfl)) .nil))) (.cons (lb (TB.2 Zb).symm) .nil)))))))))
 have hV:YS n=true:=W3.1 Zb
 obtain ⟨hn,hvt⟩:=It hz hV
 exact ak (ar (Z3 1 [1] (Zx [] (Z42 n) (Zy 0 b2 (Yz (VH n)) (Z0 1 (ie (Z9 (r3 [] [Yc (VH n),.b true] [0] [(b2,b2)] ⟨rfl,rfl⟩ (Zc.tup (.cons (Zc.agg (.cons (Zc.sl _ (Ya Yp (by rw [J4 (W3.1 Zb)]))) (.cons (Zc.sl _ (Ya Yr (by rw [J4 (W3.1 Zb)]))) .nil))) (.cons (lb (W3.1 Zb).symm) .nil)))))))))))
theorem Za5 (ds:List Zd) (b:Z5) (hw:wB ds b) (hl:b.sz<=1000000000) (ih:∀(b2:Z5),(wB ds b2)->(b2.sz<=1000000000)->(b2.sz<b.sz)->Zl 115 [ZD b2] [] (Y7 (ZD (YZ b2)))):Zl 115 [ZD b] [] (Y7 (ZD (YZ b))):=by
 have hbz:=WX b
 refine ZC 63 Tryz.func115 (ar (iA (YR b) fun b1=>iA [nl,.i 0] fun b2=>ie (ar (iL (Zu []) 0 5 fun v1=>Z3 3 [2] (iA [nl,.i 0] fun b3=>?_)))))
 refine Zy 0 b3 [YD [] v1,.i b.result] (ie (aq (ar (Z0 1 (ie (ab 0 (ZW (fun fz gz m F h=>∃(k:Nat) (xs:List Z4) (v:Value),(k<=b.steps.length)/\(xs.length<=k)/\(xs++Wy (b.steps.drop k)=Wy b.steps)/\F=sF [1,2,3] fz [(4,.i k)]/\h=[.obj b3 [YD xs v,.i b.result],Zh gz 2,Zh gz 3,.tail v 5]/\m=b.steps.length-k) _ _ _ ⟨0,[],v1,ob,ob,rfl,rfl,rfl,rfl⟩ (wk [0,1,1,0] (Y0 fl)) ?_)))))))
 rintro m F h ⟨k,xs,v,Y6,Zm,Zv,rfl,rfl,rfl⟩
 refine aq (ar (Z3 3 [2] (iw (WS b.steps) (Z0 1 (ie (ZG ((k:Int)<(b.steps.length:Int)) (fun Zb=>?_) (fun Zb=>?_)))))))
 ·refine ak (aq (ab 1 (ar (Z3 3 [2] ?_))))
  obtain ⟨x1,Z2⟩:=Zt b.steps k om
  have Xk:=TU Z2
  have hws:=Iw hw Z2
  have hkz:=U7 x1
  have haz:=T6 x1
  refine Zp (Zi none (k:Int) 5 (W6 Z2)) (Z0 2 (Zx [] (QF x1.op) (ie (ac (Xv x1.op) Iff.rfl (fun Zg=>?_) (fun Zg=>?_)))))
  ·have hnc:¬Yb x1.op=true:=by rw [Ix hws] at Zg;simpa using Zg
   refine ar (Z3 3 [2] (Zp (Zi none (k:Int) 5 (W6 Z2)) (Z0 1 (iA [.i 0,.i 0,.i 0,nl,nl] fun b4=>Zy 0 b4 (Xa x1) (ie (ar (iL (Yt []) 0 2 fun v2=>?_)))))))
   refine Z0 1 (ie (aq (ar (Z0 1 (ie (ab 2 (ZW (fun fz gz m F h=>∃(j:Nat) (u:Value) (ks:List Z5),(j<=x1.kids.length)/\(ks.length=j)/\(ks++XZ (x1.kids.drop j)=XZ x1.kids)/\F=sF [1,2,3,4,5] fz [(6,U8 ks u),(7,.i j)]/\h=[Zh gz 1,Zh gz 2,Zh gz 3,Zh gz 4,.tail u 2,Zh gz 5]/\m=x1.kids.length-j) _ _ _ ⟨0,v2,[],ob,ob,rfl,rfl,rfl,rfl⟩ (wk [1,1,1,1,0,0] (fr (Y0 fl))) ?_)))))))
   rintro m F h ⟨j,u,ks,Vl,XD,Xm,rfl,rfl,rfl⟩
   refine aq (ar (Z3 3 [0] (iw (Vb x1.kids) (Z0 1 (ie (ZG ((j:Int)<(x1.kids.length:Int)) (fun Zz=>?_) (fun Zz=>?_)))))))
   ·refine ak (aq (ab 3 (az (Z3 4 [0] ?_))))
    obtain ⟨x2,Zo⟩:=Zt x1.kids j om
    have hks:=U6 Zo
    have hwk:=FG hws Zo
    exact Zp (Zi none (j:Int) 2 (VP Zo)) (Z0 1 (Zx [] (ih x2 hwk ob ob) (iL [ZD (YZ x2)] 1 2 fun v3=>ZM 0 [(46,.sl [ZD (YZ x2)] none)] (ip 5 (Yt (ks++[YZ x2])) (Yt ks) [ZD (YZ x2)] u none 2 (UI _) (UQ rfl) rfl (by simp<;>omega) (by simp [Kk,U2]) fun v4=>Z0 1 (ie (az (Z0 1 (ZE j (Z0 1 (ie (ZI ⟨j+1,v4,(ks++[YZ x2]),ob,(by simp;omega),(Oh Zo Xm),rfl,rfl,rfl⟩ (wk [2,2,2,2,0,1] (fr (ZK j fl))))))))))))))
   have hKe:=Og om Xm
   refine ax 2 (aE 15 (ZL 6 15 [0,1,2,3,4,5,6,7,9] [1,0,0,0] (Z8 8 (dc 8 [] [0,0,1] [b4,b4,b3] (VI x1.args) ?_))))
   rintro _ _ ⟨v5,rfl,rfl⟩
   exact Yg 4 5 [10] [(58,.agg [.i x1.op,.i x1.num,.i 0,Z6 x1.args,Xb ks])] (Z8 11 (dL 11 [1] [b3] [Ys (Z4.mk x1.op x1.num 0 x1.args ks)] 1 5 fun v6=>Yg 3 3 [] [(59,.sl [Ys (Z4.mk x1.op x1.num 0 x1.args ks)] none)] (Z8 12 (dp 12 7 [] [] (Zu (xs++[Z4.mk x1.op x1.num 0 x1.args ks])) (Zu xs) [Ys (Z4.mk x1.op x1.num 0 x1.args ks)] v none 5 (X0 _) (UQ rfl) rfl (by simp<;>omega) (by simp [Wm,WT]) fun v7=>Zj 1 2 [13] (Z8 14 (YA 14 4 [] [] b3 [YD (xs++[Z4.mk x1.op x1.num 0 x1.args ks]) v7,.i b.result] (de (az (Z0 1 (ZE k (Z0 1 (ie (ZI ⟨k+1,(xs++[Z4.mk x1.op x1.num 0 x1.args ks]),v7,ob,(by simp;omega),(by rw [hKe];exact Oa Z2 hnc Zv),rfl,rfl,rfl⟩ (wk [0,4,4,0] (ZK k fl)))))))))))))))
  have hcy:Yb x1.op=true:=by rw [Ix hws] at Zg;simpa using Zg
  exact ak (az (Z0 1 (ZE k (Z0 1 (ie (ZI ⟨k+1,xs,v,ob,ob,(Of Z2 hcy Zv),rfl,rfl,rfl⟩ (ZH 4 (ZK k fl))))))))
 exact ax 0 (ar (Z3 1 [0] (Zy 1 b2 [YD xs v,.i b.result] (ie (Z9 (r3 [] [.agg [YD xs v,.i b.result]] [0] [(b2,b2)] ⟨rfl,rfl⟩ (Zc.agg (.cons (Zc.sl _ (Ya Zu (by rw [O0];exact O9 om Zv))) (.cons (li (by rw [NY])) .nil)))))))))
theorem Za3 (ds:List Zd) (m:Nat):∀(b2:Z5),(wB ds b2)->(b2.sz<=1000000000)->(b2.sz<m)->Zl 115 [ZD b2] [] (Y7 (ZD (YZ b2))):=by
 induction m with
 | zero=>intro b _ _ h;omega
 | succ m ih=>intro b h1 h2 h3;exact Za5 ds b h1 h2 fun b2 k1 k2 k3=>ih b2 k1 k2 om
theorem Za4 (ds:List Zd) (b:Z5) (hw:wB ds b:=by exact ob) (hl:b.sz<=1000000000:=by exact ob):Zl 115 [ZD b] [] (Y7 (ZD (YZ b))):=Za3 ds (b.sz+1) b hw hl om
theorem Za6 (n:Zr) (hn:X1 n:=by exact ob) (hz:Ud n:=by exact ob) (hwb:∀r∈n.routines,wB n.decls r.body):Zl 79 [Yc n] [] (Y7 (Yc (VH n))):=by
 have hzl:=hz.len
 refine ZC 36 Tryz.func79 (ar (iA (Yz n) fun b1=>iA [nl,nl] fun b2=>ie (ar (Z3 2 [1] (Zx [] (Ax n.decls (hd:=hn.decls)) (iL (Yr []) 0 5 fun v1=>Z0 1 (iA [nl,nl] fun b3=>?_)))))))
 refine Zy 0 b3 [Y8 n.decls,XK [] v1] (ie (aq (ar (Z0 1 (ie (ab 0 (ZW (fun fz gz m F h=>∃(k:Nat) (xs:List ZX) (v:Value),(k<=n.routines.length)/\(xs=(n.routines.take k).map Tf)/\(xs.length=k)/\F=sF [1,2,3] fz [(4,.i k)]/\h=[.obj b3 [Y8 n.decls,XK xs v],Zh gz 2,Zh gz 3,.tail v 5]/\m=n.routines.length-k) _ _ _ ⟨0,[],v1,ob,rfl,ob,rfl,rfl,rfl⟩ (wk [0,1,1,0] (Y0 fl)) ?_)))))))
 rintro m F h ⟨k,xs,v,Y6,Zm,Zv,rfl,rfl,rfl⟩
 refine aq (ar (Z3 3 [2] (iw (Vo n.routines) (Z0 1 (ie (ZG ((k:Int)<(n.routines.length:Int)) (fun Zb=>?_) (fun Zb=>?_)))))))
 ·refine ak (aq (ab 1 (aE 19 (ZL 14 19 [0,1,2,3,4] [0,2] ?_))))
  obtain ⟨x1,Z2⟩:=Zt n.routines k om
  have hrm:=ZZ Z2
  have hbz:=hz.body _ hrm
  have hpl:=hz.params _ hrm
  have hll:=hz.lent _ hrm
  exact dx 5 (Zi none (k:Int) 5 (Wk Z2)) (ZL 9 13 [6,7,8,9] [2] (dx 10 (Zi none (k:Int) 5 (Wk Z2)) (Zj 6 8 [11,12] (Z8 13 (Ye 13 [] [2,0] [b1,b3] (Za4 n.decls x1.body (hw:=(hwb _ hrm))) (Z8 14 (Ye 14 [] [0] [b3] (Bk x1 (YZ x1.body)) (Z8 15 (dL 15 [0] [b3] (Yr [ZX.mk x1.params x1.lent x1.result (YZ x1.body)]) 1 5 fun v2=>Yg 3 3 [] [(32,TM [ZX.mk x1.params x1.lent x1.result (YZ x1.body)])] (Z8 16 (dp 16 4 [] [] (Yr (xs++[ZX.mk x1.params x1.lent x1.result (YZ x1.body)])) (Yr xs) (Yr [ZX.mk x1.params x1.lent x1.result (YZ x1.body)]) v none 5 (VB _) (VB _) (KQ _) (by simp<;>omega) (by simp [Jr,Yr]) fun v3=>Zj 1 2 [17] (Z8 18 (YA 18 2 [] [] b3 [Y8 n.decls,XK (xs++[ZX.mk x1.params x1.lent x1.result (YZ x1.body)]) v3] (de (az (Z0 1 (ZE k (Z0 1 (ie (ZI ⟨k+1,(xs++[ZX.mk x1.params x1.lent x1.result (YZ x1.body)]),v3,ob,(by rw [Zm,Wq Z2,List.map_append];rfl),(by rw [Yn,Zv];rfl),rfl,rfl,rfl⟩ (wk [0,2,2,0] (ZK k fl))))))))))))))))))))))
 exact ax 0 (ar (Z3 1 [0] (Zy 1 b2 [Y8 n.decls,XK xs v] (ie (Z9 (r3 [] [.agg [Y8 n.decls,XK xs v]] [0] [(b2,b2)] ⟨rfl,rfl⟩ (Zc.agg (.cons (Zc.sl _ (Ya Yp (by rfl))) (.cons (Zc.sl _ (Ya Yr (by rw [Zm,WK om];rfl))) .nil)))))))))
theorem Z9q (n:Zr) (hz:Ud n:=by exact ob):Zl 40 [Yc n] [] (Y7 (.tup [Yc (Xe n),.b (YS n)])):=by
 refine ZC 10 Tryz.func40 (ar (iA (Yz n) fun b1=>iA [nl,nl] fun b2=>Z0 1 (ie (aq (ar (Z3 1 [1] (Zx [] (Pf n) (Z0 1 (ie (ac (!YS n) (p:=¬(YS n=true)) (Yx Iff.rfl) (fun Zb=>?_) (fun Zb=>?_)))))))))))
 ·exact ar (Z0 1 (Zy 0 b2 [nl,nl] (Z0 1 (ie (Z9 (r3 [] [.agg [nl,nl],.b false] [0] [(b2,b2)] ⟨rfl,rfl⟩ (Zc.tup (.cons (Zc.agg (.cons (Zc.sl _ (by rw [C8 Zb];rfl)) (.cons (Zc.sl _ (by rw [C8 Zb];rfl)) .nil))) (.cons (lb (TB.2 Zb).symm) .nil)))))))))
 have hV:YS n=true:=W3.1 Zb
 obtain ⟨hn,hvt⟩:=It hz hV
 exact ak (ar (Z3 1 [1] (Zx [] (Za6 n (hwb:=(Zca hn hz hvt))) (Zy 0 b2 (Yz (VH n)) (Z0 1 (ie (Z9 (r3 [] [Yc (VH n),.b true] [0] [(b2,b2)] ⟨rfl,rfl⟩ (Zc.tup (.cons (Zc.agg (.cons (Zc.sl _ (Ya Yp (by rw [J4 (W3.1 Zb)]))) (.cons (Zc.sl _ (Ya Yr (by rw [J4 (W3.1 Zb)]))) .nil))) (.cons (lb (W3.1 Zb).symm) .nil)))))))))))
theorem Z5b (ds:List Zd) (es:List Zd) (hd:Qp ds:=by exact ob) (he:Qp es:=by exact ob):Zl 80 [Y8 ds,Y8 es] [] (Y7 (.b (decide (ds=es)))):=by
 have hdl:=hd.len
 have hel:=he.len
 refine ZC 87 Tryz.func80 (ar (Z0 1 (ie (aq (ar (Z0 1 (iw (Vn ds) (Z0 1 (iw (Vn es) (Z0 1 (ie (ac ((ds.length:Int) != (es.length:Int)) Yf (fun Zb=>?_) (fun Zb=>?_)))))))))))))
 ·exact ar (Z0 1 (ie (Z9 (ZU (.b false) (lb (decide_eq_false (fun z=>Zb (by rw [z]))).symm)))))
 refine ak (aq (ar (Z0 1 (ie (ab 0 (ZW (fun fz gz m F h=>∃(k:Nat),(k<=ds.length)/\(∀i,i<k->ds[i]? = es[i]?)/\F=sF [0,1] fz [(5,.i k)]/\h=gz/\m=ds.length-k) _ _ _ ⟨0,ob,DB,rfl,rfl,rfl⟩ (wk [] (Y0 fl)) ?_))))))
 rintro m F h ⟨k,Y6,Zm,rfl,rfl,rfl⟩
 refine aq (ar (Z0 2 (iw (Vn ds) (Z0 1 (ie (ZG ((k:Int)<(ds.length:Int)) (fun Zg=>?_) (fun Zg=>?_)))))))
 ·refine ak (aq (ab 1 (aq (aD 39 (Zj 37 39 [0,1] ?_)))))
  obtain ⟨x1,Z2⟩:=Zt ds k om
  have hcl:=hd.cons_at Z2
  refine dx 2 (Zi none (k:Int) 3 (Wj Z2)) (Zj 32 36 [3,4,5,6] ?_)
  obtain ⟨x2,Zo⟩:=Zt es k om
  refine dx 7 (Zi none (k:Int) 3 (Wj Zo)) (Jm [0,1,5] [(56,.b ((x1.frm != x2.frm)||((x1.to_ != x2.to_)||((x1.cons.length:Int) != (x2.cons.length:Int)))))] (fun gz=>gz) ?_ ?_)
  ·refine Zj 27 31 [8,9,10,11] (db (b:=(x1.frm != x2.frm)) 29 (fun Zf=>?_) (fun Zf=>?_))
   ·exact Zj 0 27 [12,13,14,15,16,17,18,19,20,21,22,23,24,25,26,27,28,29,30,31,32,33,34,35,36,37,38] (de (wk [] (Zq true Zf fl)))
   refine Zj 25 27 [12,13] (dx 14 (Zi none (k:Int) 3 (Wj Z2)) (Zj 20 24 [15,16,17,18] (dx 19 (Zi none (k:Int) 3 (Wj Zo)) (Zj 14 19 [20,21,22,23,24] (db (b:=(x1.to_ != x2.to_)) 42 (fun ZF=>?_) (fun ZF=>?_))))))
   ·exact Zj 0 14 [25,26,27,28,29,30,31,32,33,34,35,36,37,38] (de (wk [] (Zq true (And.intro Zf ZF) fl)))
   exact Zj 12 14 [25,26] (dx 27 (Zi none (k:Int) 3 (Wj Z2)) (Zj 9 11 [28,29] (dw 30 (Vz x1.cons) (Zj 6 8 [31,32] (dx 33 (Zi none (k:Int) 3 (Wj Zo)) (Zj 3 5 [34,35] (dw 36 (Vz x2.cons) (Zj 0 2 [37,38] (de (wk [] (Zq ((x1.cons.length:Int) != (x2.cons.length:Int)) (And.intro Zf ZF) fl)))))))))))
  refine ac ((x1.frm != x2.frm)||((x1.to_ != x2.to_)||((x1.cons.length:Int) != (x2.cons.length:Int)))) (p:=(x1.frm≠x2.frm)∨((x1.to_≠x2.to_)∨((x1.cons.length:Int)≠(x2.cons.length:Int)))) (Yo Yf (Yo Yf Yf)) (fun Zz=>?_) (fun Zz=>?_)
  ·exact ar (Z0 1 (ie (Z9 (ZU (.b false) (lb (decide_eq_false (By Z2 Zo (fun z=>by rw [z] at Zz;simp at Zz))).symm)))))
  simp only [not_or,ne_eq,W3,decide_eq_true_eq] at Zz
  obtain ⟨hq1,hq2,hq3⟩:=Zz
  refine ak (ar (Z0 1 (ie (ab 2 (ZW (fun fz gz m F h=>∃(j:Nat),(j<=x1.cons.length)/\(∀i,i<j->x1.cons[i]? = x2.cons[i]?)/\F=sF [0,1,5] fz [(6,.i j)]/\h=gz/\m=x1.cons.length-j) _ _ _ ⟨0,ob,DB,rfl,rfl,rfl⟩ (wk [] (Y0 fl)) ?_)))))
  rintro m F h ⟨j,Vl,XD,rfl,rfl,rfl⟩
  refine aq (ar (Z0 3 (Zp (Zi none (k:Int) 3 (Wj Z2)) (Z0 2 (iw (Vz x1.cons) (Z0 1 (ie (ZG ((j:Int)<(x1.cons.length:Int)) (fun Yd=>?_) (fun Yd=>?_)))))))))
  ·refine ak (aq (ab 3 (aD 20 (Zj 18 20 [0,1] (dx 2 (Zi none (k:Int) 3 (Wj Z2)) (Zj 14 17 [3,4,5] ?_))))))
   obtain ⟨x3,YH⟩:=Zt x1.cons j om
   refine dx 6 (Zi none (j:Int) 1 (Jp YH)) (Zj 9 13 [7,8,9,10] (dx 11 (Zi none (k:Int) 3 (Wj Zo)) (Zj 5 8 [12,13,14] ?_)))
   obtain ⟨x4,Vs⟩:=Zt x2.cons j om
   refine dx 15 (Zi none (j:Int) 1 (Jp Vs)) (Zj 2 4 [16,17] (Z8 18 (Ye 18 [] [] [] (EP x3.fields x4.fields (hxl:=(WO (hd.fields_at Z2 YH) (by decide))) (hyl:=(WO (he.fields_at Zo Vs) (by decide)))) (Zj 0 1 [19] (de (ac (!(decide (x3.fields=x4.fields))) (p:=¬(x3.fields=x4.fields)) (Yx dq) (fun X2=>?_) (fun X2=>?_)))))))
   ·exact ar (Z0 1 (ie (Z9 (ZU (.b false) (lb (decide_eq_false (By Z2 Zo (fun z=>By YH Vs (fun w=>X2 (Ya Y1.fields w)) (Ya Zd.cons z)))).symm)))))
   exact ak (az (Z0 1 (ZE j (Z0 1 (ie (ZI ⟨j+1,ob,(DC XD YH Vs (Y1.ext1 (W3.1 X2))),rfl,rfl,rfl⟩ (wk [] (ZK j fl))))))))
  have hE:=CD (xs:=x1.cons) (ys:=x2.cons) om (fun i hi=>XD i om)
  exact ax 2 (az (Z0 1 (ZE k (Z0 1 (ie (ZI ⟨k+1,ob,(DC Zm Z2 Zo (Zd.ext3 hq1 hq2 hE)),rfl,rfl,rfl⟩ (wk [] (ZK k fl))))))))
 exact ax 0 (ar (Z0 1 (ie (Z9 (ZU (.b true) (lb (decide_eq_true (CD om (fun i hi=>Zm i om))).symm))))))
theorem Z5c (z:Nat) (s:Z4) (t:Z4) (hz:s.sz<=z+1:=by exact ob) (hs:s.sz<=1000000000:=by exact ob) (ht:t.sz<=1000000000:=by exact ob) (ih:∀(a2:Z5) (b2:Z5),(a2.sz<=z)->(a2.sz<=1000000000)->(b2.sz<=1000000000)->Zl 81 [ZD a2,ZD b2] [] (Y7 (.b (decide (a2=b2))))):Zl 116 [Ys s,Ys t] [] (Y7 (.b (decide (s=t)))):=by
 have hsa:=T6 s
 have hta:=T6 t
 have hsk:=U7 s
 have htk:=U7 t
 refine ZC 61 Tryz.func116 (ar (iA (Xa s) fun b1=>iA (Xa t) fun b2=>Z0 1 (ie (aq (ar (Xo 12 [2,3] [(17,.b ((s.op != t.op)||(s.num != t.num)))] (fun gz=>gz) ?_ (fun hj1=>?_)))))))
 ·refine Xo 19 [2,3] [(24,.b (((s.op != t.op)||(s.num != t.num))||(s.into != t.into)))] (fun gz=>gz) ?_ (fun hj2=>?_)
  ·refine Xo 27 [2,3] [(32,.b ((((s.op != t.op)||(s.num != t.num))||(s.into != t.into))||(!(decide (s.args=t.args)))))] (fun gz=>gz) ?_ (fun hj3=>?_)
   ·refine X8 [2,3] [(41,.b (((((s.op != t.op)||(s.num != t.num))||(s.into != t.into))||(!(decide (s.args=t.args))))||((s.kids.length:Int) != (t.kids.length:Int))))] (fun gz=>gz) ?_ ?_
    ·refine Z0 1 (ib (b:=((((s.op != t.op)||(s.num != t.num))||(s.into != t.into))||(!(decide (s.args=t.args))))) 33 (fun Zf=>?_) (fun Zf=>?_))
     ·exact Z0 8 (ie (wk [0,0] (Zq true Zf fl)))
     exact Z3 2 [1] (iw (Vb s.kids) (Z3 2 [0] (iw (Vb t.kids) (Z0 2 (ie (wk [0,0] (Zq ((s.kids.length:Int) != (t.kids.length:Int)) Zf fl)))))))
    refine ac (((((s.op != t.op)||(s.num != t.num))||(s.into != t.into))||(!(decide (s.args=t.args))))||((s.kids.length:Int) != (t.kids.length:Int))) (p:=((((s.op≠t.op)∨(s.num≠t.num))∨(s.into≠t.into))∨(¬(s.args=t.args)))∨((s.kids.length:Int)≠(t.kids.length:Int))) (Yo (Yo (Yo (Yo Yf Yf) Yf) (Yx dq)) Yf) (fun Zb=>?_) (fun Zb=>?_)
    ·exact ar (Z0 1 (ie (Z9 (ZU (.b false) (lb (decide_eq_false (fun z=>by rw [z] at Zb;simp at Zb)).symm)))))
    simp only [not_or,ne_eq,W3,decide_eq_true_eq] at Zb
    obtain ⟨⟨⟨⟨hq1,hq2⟩,hq3⟩,hq4⟩,hq5⟩:=Zb
    refine ak (aq (ar (Z0 1 (ie (ab 0 (ZW (fun fz gz m F h=>∃(k:Nat),(k<=s.kids.length)/\(∀i,i<k->s.kids[i]? = t.kids[i]?)/\F=sF [2,3] fz [(5,.i k)]/\h=gz/\m=s.kids.length-k) _ _ _ ⟨0,ob,DB,rfl,rfl,rfl⟩ (wk [0,0] (Y0 fl)) ?_))))))
    rintro m F h ⟨k,Y6,Zm,rfl,rfl,rfl⟩
    refine aq (ar (Z3 3 [1] (iw (Vb s.kids) (Z0 1 (ie (ZG ((k:Int)<(s.kids.length:Int)) (fun Zg=>?_) (fun Zg=>?_)))))))
    ·refine ak (aq (ab 1 (aD 12 (ZL 9 12 [0,1,2] [1] ?_))))
     obtain ⟨x1,Z2⟩:=Zt s.kids k om
     have hk1:=U6 Z2
     refine dx 3 (Zi none (k:Int) 2 (VP Z2)) (ZL 4 8 [4,5,6,7] [0] ?_)
     obtain ⟨x2,Zo⟩:=Zt t.kids k om
     have hk2:=U6 Zo
     refine dx 8 (Zi none (k:Int) 2 (VP Zo)) (Zj 2 3 [9] (Z8 10 (Ye 10 [] [] [] (ih x1 x2 ob ob ob) (Zj 0 1 [11] (de (ac (!(decide (x1=x2))) (p:=¬(x1=x2)) (Yx dq) (fun Zz=>?_) (fun Zz=>?_)))))))
     ·exact ar (Z0 1 (ie (Z9 (ZU (.b false) (lb (decide_eq_false (fun z=>By Z2 Zo Zz (Ya Z4.kids z))).symm)))))
     exact ak (az (Z0 1 (ZE k (Z0 1 (ie (ZI ⟨k+1,ob,(DC Zm Z2 Zo (W3.1 Zz)),rfl,rfl,rfl⟩ (wk [0,0] (ZK k fl))))))))
    exact ax 0 (ar (Z0 1 (ie (Z9 (ZU (.b true) (lb (decide_eq_true (Z4.ext4 hq1 hq2 hq3 hq4 (CD om (fun i hi=>Zm i om)))).symm))))))
   refine Z0 1 (ib (b:=(((s.op != t.op)||(s.num != t.num))||(s.into != t.into))) 25 (fun ZF=>?_) (fun ZF=>?_))
   ·exact Z0 7 (Yh (wk [0,0] (Zq true ZF fl)) hj3)
   exact Z3 4 [1,0] (Zx [] (EP s.args t.args) (Z0 2 (Yh (wk [0,0] (Zq (!(decide (s.args=t.args))) ZF fl)) hj3)))
  refine Z0 1 (ib (b:=((s.op != t.op)||(s.num != t.num))) 18 (fun Yv=>?_) (fun Yv=>?_))
  ·exact Z0 6 (Yh (wk [0,0] (Zq true Yv fl)) hj2)
  exact Z3 6 [1,0] (Yh (wk [0,0] (Zq (s.into != t.into) Yv fl)) hj2)
 refine Z3 6 [1,0] (ib (b:=(s.op != t.op)) 11 (fun YX=>?_) (fun YX=>?_))
 ·exact Z0 6 (Yh (wk [0,0] (Zq true YX fl)) hj1)
 exact Z3 6 [1,0] (Yh (wk [0,0] (Zq (s.num != t.num) YX fl)) hj1)
theorem Z59 (z:Nat) (a:Z5) (b:Z5) (hz:a.sz<=z+1:=by exact ob) (ha:a.sz<=1000000000:=by exact ob) (hb:b.sz<=1000000000:=by exact ob) (ih:∀(a2:Z5) (b2:Z5),(a2.sz<=z)->(a2.sz<=1000000000)->(b2.sz<=1000000000)->Zl 81 [ZD a2,ZD b2] [] (Y7 (.b (decide (a2=b2))))):Zl 81 [ZD a,ZD b] [] (Y7 (.b (decide (a=b)))):=by
 have hsa:=WX a
 have hsb:=WX b
 refine ZC 39 Tryz.func81 (ar (iA (YR a) fun b1=>iA (YR b) fun b2=>Z0 1 (ie (aq (ar (X8 [2,3] [(19,.b ((a.result != b.result)||((a.steps.length:Int) != (b.steps.length:Int))))] (fun gz=>gz) ?_ ?_))))))
 ·refine Z3 6 [1,0] (ib (b:=(a.result != b.result)) 11 (fun Zf=>?_) (fun Zf=>?_))
  ·exact Z0 8 (ie (wk [0,0] (Zq true Zf fl)))
  exact Z3 2 [1] (iw (WS a.steps) (Z3 2 [0] (iw (WS b.steps) (Z0 2 (ie (wk [0,0] (Zq ((a.steps.length:Int) != (b.steps.length:Int)) Zf fl)))))))
 refine ac ((a.result != b.result)||((a.steps.length:Int) != (b.steps.length:Int))) (p:=(a.result≠b.result)∨((a.steps.length:Int)≠(b.steps.length:Int))) (Yo Yf Yf) (fun Zb=>?_) (fun Zb=>?_)
 ·exact ar (Z0 1 (ie (Z9 (ZU (.b false) (lb (decide_eq_false (fun z=>by rw [z] at Zb;simp at Zb)).symm)))))
 simp only [not_or,ne_eq,W3,decide_eq_true_eq] at Zb
 obtain ⟨hq1,hq2⟩:=Zb
 refine ak (aq (ar (Z0 1 (ie (ab 0 (ZW (fun fz gz m F h=>∃(k:Nat),(k<=a.steps.length)/\(∀i,i<k->a.steps[i]? = b.steps[i]?)/\F=sF [2,3] fz [(5,.i k)]/\h=gz/\m=a.steps.length-k) _ _ _ ⟨0,ob,DB,rfl,rfl,rfl⟩ (wk [0,0] (Y0 fl)) ?_))))))
 rintro m F h ⟨k,Y6,Zm,rfl,rfl,rfl⟩
 refine aq (ar (Z3 3 [1] (iw (WS a.steps) (Z0 1 (ie (ZG ((k:Int)<(a.steps.length:Int)) (fun Zg=>?_) (fun Zg=>?_)))))))
 ·refine ak (aq (ab 1 (aD 12 (ZL 9 12 [0,1,2] [1] ?_))))
  obtain ⟨x1,Z2⟩:=Zt a.steps k om
  have hk1:=TU Z2
  refine dx 3 (Zi none (k:Int) 5 (W6 Z2)) (ZL 4 8 [4,5,6,7] [0] ?_)
  obtain ⟨x2,Zo⟩:=Zt b.steps k om
  have hk2:=TU Zo
  refine dx 8 (Zi none (k:Int) 5 (W6 Zo)) (Zj 2 3 [9] (Z8 10 (Ye 10 [] [] [] (Z5c z x1 x2 (ih:=ih)) (Zj 0 1 [11] (de (ac (!(decide (x1=x2))) (p:=¬(x1=x2)) (Yx dq) (fun Zz=>?_) (fun Zz=>?_)))))))
  ·exact ar (Z0 1 (ie (Z9 (ZU (.b false) (lb (decide_eq_false (fun z=>By Z2 Zo Zz (Ya Z5.steps z))).symm)))))
  exact ak (az (Z0 1 (ZE k (Z0 1 (ie (ZI ⟨k+1,ob,(DC Zm Z2 Zo (W3.1 Zz)),rfl,rfl,rfl⟩ (wk [0,0] (ZK k fl))))))))
 exact ax 0 (ar (Z0 1 (ie (Z9 (ZU (.b true) (lb (decide_eq_true (Z5.ext2 (CD om (fun i hi=>Zm i om)) hq1)).symm))))))
theorem Z5a (m:Nat):∀(a2:Z5) (b2:Z5),(a2.sz<=m)->(a2.sz<=1000000000)->(b2.sz<=1000000000)->Zl 81 [ZD a2,ZD b2] [] (Y7 (.b (decide (a2=b2)))):=by
 induction m with
 | zero=>intro a b h;have:=a.sz_pos;omega
 | succ m ih=>intro a b h1 h2 h3;exact Z59 m a b h1 h2 h3 ih
theorem Z58 (a:Z5) (b:Z5) (ha:a.sz<=1000000000:=by exact ob) (hb:b.sz<=1000000000:=by exact ob):Zl 81 [ZD a,ZD b] [] (Y7 (.b (decide (a=b)))):=Z5a a.sz a b (YU _) ha hb
theorem Hq (n:Zr) (t:Zr) (hn:Ud n:=by exact ob) (ht:Ud t:=by exact ob):Zl 41 [Yc n,Yc t] [] (Y7 (.b (decide (n=t)))):=by
 have hnl:=hn.len
 have htl:=ht.len
 refine ZC 69 Tryz.func41 (ar (iA (Yz n) fun b1=>iA (Yz t) fun b2=>Z0 1 (ie (aq (ar (Z3 4 [1,0] (Zx [] (Z5b n.decls t.decls (hd:=hn.decls) (he:=ht.decls)) (X8 [2,3] [(22,.b ((!(decide (n.decls=t.decls)))||((n.routines.length:Int) != (t.routines.length:Int))))] (fun gz=>gz) ?_ ?_))))))))
 ·refine Z0 2 (ib (b:=(!(decide (n.decls=t.decls)))) 14 (fun Zf=>?_) (fun Zf=>?_))
  ·exact Z0 8 (ie (wk [0,0] (Zq true Zf fl)))
  exact Z3 2 [1] (iw (Vo n.routines) (Z3 2 [0] (iw (Vo t.routines) (Z0 2 (ie (wk [0,0] (Zq ((n.routines.length:Int) != (t.routines.length:Int)) Zf fl)))))))
 refine ac ((!(decide (n.decls=t.decls)))||((n.routines.length:Int) != (t.routines.length:Int))) (p:=(¬(n.decls=t.decls))∨((n.routines.length:Int)≠(t.routines.length:Int))) (Yo (Yx dq) Yf) (fun Zb=>?_) (fun Zb=>?_)
 ·exact ar (Z0 1 (ie (Z9 (ZU (.b false) (lb (decide_eq_false (fun z=>by rw [z] at Zb;simp at Zb)).symm)))))
 simp only [not_or,ne_eq,W3,decide_eq_true_eq] at Zb
 obtain ⟨hq1,hq2⟩:=Zb
 refine ak (aq (ar (Z0 1 (ie (ab 0 (ZW (fun fz gz m F h=>∃(k:Nat),(k<=n.routines.length)/\(∀i,i<k->n.routines[i]? = t.routines[i]?)/\F=sF [2,3] fz [(5,.i k)]/\h=gz/\m=n.routines.length-k) _ _ _ ⟨0,ob,DB,rfl,rfl,rfl⟩ (wk [0,0] (Y0 fl)) ?_))))))
 rintro m F h ⟨k,Y6,Zm,rfl,rfl,rfl⟩
 refine aq (ar (Z3 3 [1] (iw (Vo n.routines) (Z0 1 (ie (ZG ((k:Int)<(n.routines.length:Int)) (fun Zg=>?_) (fun Zg=>?_)))))))
 ·refine ak (aq (ab 1 (ar (Z3 3 [1] ?_))))
  obtain ⟨x1,Z2⟩:=Zt n.routines k om
  have hm1:=ZZ Z2
  have ha1:=hn.params _ hm1
  have ha2:=hn.lent _ hm1
  have ha3:=hn.body _ hm1
  refine Zp (Zi none (k:Int) 5 (Wk Z2)) (Z0 1 (iA [nl,nl,.i 0,nl,.i 0] fun b3=>Zy 0 b3 (Tc x1) (ie (ar (Z3 3 [1] ?_)))))
  obtain ⟨x2,Zo⟩:=Zt t.routines k om
  have hm2:=ZZ Zo
  have ha4:=ht.params _ hm2
  have ha5:=ht.lent _ hm2
  have ha6:=ht.body _ hm2
  refine Zp (Zi none (k:Int) 5 (Wk Zo)) (Z0 1 (iA [nl,nl,.i 0,nl,.i 0] fun b4=>Zy 0 b4 (Tc x2) (ie (ar (Z3 4 [1,0] (Zx [] (EP x1.params x2.params) (Xo 14 [2,3,5,6,7] [(53,.b ((!(decide (x1.params=x2.params)))||(!(decide (x1.lent=x2.lent)))))] (fun gz=>gz) ?_ (fun hj1=>?_))))))))
  ·refine Xo 21 [2,3,5,6,7] [(60,.b (((!(decide (x1.params=x2.params)))||(!(decide (x1.lent=x2.lent))))||(x1.result != x2.result)))] (fun gz=>gz) ?_ (fun hj2=>?_)
   ·refine X8 [2,3,5] [(68,.b ((((!(decide (x1.params=x2.params)))||(!(decide (x1.lent=x2.lent))))||(x1.result != x2.result))||(!(decide (x1.body=x2.body)))))] (fun gz=>gz) ?_ ?_
    ·refine Z0 1 (ib (b:=(((!(decide (x1.params=x2.params)))||(!(decide (x1.lent=x2.lent))))||(x1.result != x2.result))) 61 (fun ZF=>?_) (fun ZF=>?_))
     ·exact Z0 7 (ie (ZH 4 (Zq true ZF fl)))
     exact Z3 4 [1,0] (Zx [] (Z58 x1.body x2.body) (Z0 2 (ie (ZH 4 (Zq (!(decide (x1.body=x2.body))) ZF fl)))))
    refine ac ((((!(decide (x1.params=x2.params)))||(!(decide (x1.lent=x2.lent))))||(x1.result != x2.result))||(!(decide (x1.body=x2.body)))) (p:=(((¬(x1.params=x2.params))∨(¬(x1.lent=x2.lent)))∨(x1.result≠x2.result))∨(¬(x1.body=x2.body))) (Yo (Yo (Yo (Yx dq) (Yx dq)) Yf) (Yx dq)) (fun Zz=>?_) (fun Zz=>?_)
    ·exact ar (Z0 1 (ie (Z9 (ZU (.b false) (lb (decide_eq_false (fun z=>By Z2 Zo (fun w=>by rw [w] at Zz;simp at Zz) (Ya Zr.routines z))).symm)))))
    simp only [not_or,ne_eq,W3,decide_eq_true_eq] at Zz
    obtain ⟨⟨⟨hw1,hw2⟩,hw3⟩,hw4⟩:=Zz
    exact ak (az (Z0 1 (ZE k (Z0 1 (ie (ZI ⟨k+1,ob,(DC Zm Z2 Zo (ZX.ext4 hw1 hw2 hw3 hw4)),rfl,rfl,rfl⟩ (wk [2,2] (ZK k fl))))))))
   refine Z0 1 (ib (b:=((!(decide (x1.params=x2.params)))||(!(decide (x1.lent=x2.lent))))) 54 (fun Yv=>?_) (fun Yv=>?_))
   ·exact Z0 6 (Yh (ZH 4 (Zq true Yv fl)) hj2)
   exact Z3 6 [1,0] (Yh (ZH 4 (Zq (x1.result != x2.result) Yv fl)) hj2)
  refine Z0 2 (ib (b:=(!(decide (x1.params=x2.params)))) 46 (fun YX=>?_) (fun YX=>?_))
  ·exact Z0 7 (Yh (ZH 4 (Zq true YX fl)) hj1)
  exact Z3 4 [1,0] (Zx [] (EP x1.lent x2.lent) (Z0 2 (Yh (ZH 4 (Zq (!(decide (x1.lent=x2.lent))) YX fl)) hj1)))
 exact ax 0 (ar (Z0 1 (ie (Z9 (ZU (.b true) (lb (decide_eq_true (Zr.ext2 hq1 (CD om (fun i hi=>Zm i om)))).symm))))))
theorem Z0y (code:LI) (hcl:code.length<=1048576:=by exact ob) (hcb:∀z∈code,0<=z/\z<=255):Zl 38 [VG code] [] (fun r h=>∃(n2:Zr),r=Yc n2/\h=[]/\ZS n2 7330632 11):=by
 refine ZC 6 Tryz.func38 (ar (iA [nl,nl] fun b1=>ie (ar (Z0 1 (ic [] (Z28 code (hc:=hcb)) ?_)))))
 rintro _ _ ⟨rd1,bs1,rfl,rfl,Y2⟩
 have hnr:=Y2
 refine ic [0] (Z10 rd1 bs1 0 (ZB:=hnr)) ?_
 rintro _ _ ⟨n21,p21,rfl,rfl,Ym⟩
 have haf:=Ym
 exact Zy 1 b1 (Yz n21) (ie (Z9 (r3 [] [Yc n21] [0] [(b1,b1)] ⟨n21,rfl,rfl,haf.1⟩ (lr _))))
theorem Z57 (code:LI) (hcb:∀z∈code,0<=z/\z<=255):Zl 9 [VG code] [] (Y7 (.b true)):=by
 refine ZC 61 Tryz.func9 (ar (Z0 1 (ie (aq (ar (Z0 1 (iw (QQ code) (Z0 1 (ie (ZG ((code.length:Int)>1048576) (fun Zb=>?_) (fun Zb=>?_)))))))))))
 ·exact ar (Z0 1 (ie (Z9 (In))))
 have hcl:code.length<=1048576:=by omega
 refine ak (ar (Z0 1 (ic [] (Z0y code (hcl:=hcl) (hcb:=hcb)) ?_)))
 rintro _ _ ⟨n21,rfl,rfl,Y2⟩
 have hzs:=Y2
 have hzn:=hzs.sz om om
 have hpz:=F9 hzn
 have hrn:∀r∈n21.routines,r.body.rng:=fun r hr=>(hzs.rt r hr).2.2.2
 have hpr:=Z7j hrn
 refine iA [nl,nl] fun b1=>Zy 0 b1 (Yz n21) (ie (ar (Z3 1 [0] (Zx [] (MC n21 (hz:=(by first|exact hzn|exact hpz)) (hr:=(by first|exact hrn|exact hpr))) (Z0 3 (iA [nl,nl] fun b2=>Zy 0 b2 (Yz (Xe n21)) (Z0 1 (ie (ar (Z3 1 [1] (Zx [] (Z9q n21) (Z0 3 (iA [nl,nl] fun b3=>Zy 0 b3 (Yz (Xe n21)) (Z0 1 (ie (aq (ar (Z3 2 [1,0] (Zx [] (Hq (Xe n21) (Xe n21) (hn:=(by first|exact hpz|exact F9 hpz)) (ht:=hpz)) (Xo 9 [4,5,6,7] [(33,.b ((!(decide ((Xe n21)=(Xe n21))))||((YS n21) != (YS n21))))] (fun gz=>gz) ?_ (fun hj1=>?_)))))))))))))))))))))
 ·refine X8 [4,5,6,7] [(37,.b (((!(decide ((Xe n21)=(Xe n21))))||((YS n21) != (YS n21)))||(!(YS n21))))] (fun gz=>gz) ?_ ?_
  ·refine Z0 1 (ib (b:=((!(decide ((Xe n21)=(Xe n21))))||((YS n21) != (YS n21)))) 34 (fun Zf=>?_) (fun Zf=>?_))
   ·exact Z0 3 (ie (ZH 3 (fc (x:=.b true) (lb (by rw [Zf];rfl)) fl)))
   exact Z0 3 (ie (ZH 3 (fc (x:=.b (!(YS n21))) (lb (by rw [Zf];rfl)) fl)))
  refine ac (((!(decide ((Xe n21)=(Xe n21))))||((YS n21) != (YS n21)))||(!(YS n21))) (p:=((¬((Xe n21)=(Xe n21)))∨((YS n21)≠(YS n21)))∨(¬((YS n21)=true))) (Yo (Yo (Yx dq) Yf) (Yx Iff.rfl)) (fun Zg=>?_) (fun Zg=>?_)
  ·refine ar (Z3 2 [1,0] (Zx [] (Hq (Xe n21) (Xe n21) (hn:=(by first|exact hpz|exact F9 hpz)) (ht:=hpz)) (Xo 8 [] [(45,.b ((decide ((Xe n21)=(Xe n21)))&&((YS n21)==(YS n21))))] (fun gz=>gz) ?_ (fun hj2=>?_))))
   ·exact Z0 1 (ie (Z9 (ZU (.b ((decide ((Xe n21)=(Xe n21)))&&((YS n21)==(YS n21)))) (lb (by simp)))))
   refine Z0 1 (ib (b:=(decide ((Xe n21)=(Xe n21)))) 41 (fun ZF=>?_) (fun ZF=>?_))
   ·exact Z0 2 (Zp (Z4v (YS n21) (YS n21)) (Z0 1 (Yh (ZH 3 (fc (x:=.b ((YS n21)==(YS n21))) (lb (by rw [ZF];rfl)) fl)) hj2)))
   exact Z0 4 (Yh (ZH 3 (fc (x:=.b false) (lb (by rw [ZF];rfl)) fl)) hj2)
  have hV:YS n21=true:=AG fun z=>Zg (.inr z)
  refine ak (ar (Z3 1 [1] (Zx [] (MC (Xe n21) (hz:=(by first|exact hzn|exact hpz)) (hr:=(by first|exact hrn|exact hpr))) (Z0 3 (iA [nl,nl] fun b4=>Zy 0 b4 (Yz (Xe (Xe n21))) (Z0 1 (ie (ar (Z3 1 [2] (Zx [] (Z3m (Xe n21) (hr:=hpr)) (Xo 5 [4,8] [(55,.b (QV (Xe n21)&&(YS (Xe n21))))] (fun gz=>gz) ?_ (fun hj3=>?_))))))))))))
  ·refine Xo 10 [] [(60,.b ((QV (Xe n21)&&(YS (Xe n21)))&&(decide ((Xe (Xe n21))=(Xe n21)))))] (fun gz=>gz) ?_ (fun hj4=>?_)
   ·exact Z0 1 (ie (Z9 (ZU (.b ((QV (Xe n21)&&(YS (Xe n21)))&&(decide ((Xe (Xe n21))=(Xe n21))))) (lb (by rw [Z7i hV,Z7l hV,Z7k hV];simp)))))
   refine Z0 1 (ib (b:=(QV (Xe n21)&&(YS (Xe n21)))) 56 (fun Yv=>?_) (fun Yv=>?_))
   ·exact Z3 2 [0,2] (Zx [] (Hq (Xe (Xe n21)) (Xe n21) (hn:=(by first|exact hpz|exact F9 hpz)) (ht:=hpz)) (Z0 1 (Yh (ZH 4 (fc (x:=.b (decide ((Xe (Xe n21))=(Xe n21)))) (lb (by rw [Yv];rfl)) fl)) hj4)))
   exact Z0 4 (Yh (ZH 4 (fc (x:=.b false) (lb (by rw [Yv];rfl)) fl)) hj4)
  refine Z0 1 (ib (b:=QV (Xe n21)) 53 (fun YX=>?_) (fun YX=>?_))
  ·exact Z0 2 (Yh (ZH 4 (fc (x:=.b (YS (Xe n21))) (lb (by rw [YX];rfl)) fl)) hj3)
  exact Z0 2 (Yh (ZH 4 (fc (x:=.b false) (lb (by rw [YX];rfl)) fl)) hj3)
 refine Z0 2 (ib (b:=(!(decide ((Xe n21)=(Xe n21))))) 29 (fun W2=>?_) (fun W2=>?_))
 ·exact Z0 4 (Yh (ZH 3 (fc (x:=.b true) (lb (by rw [W2];rfl)) fl)) hj1)
 exact Z0 2 (Zp (Z4w (YS n21) (YS n21)) (Z0 1 (Yh (ZH 3 (fc (x:=.b ((YS n21) != (YS n21))) (lb (by rw [W2];rfl)) fl)) hj1)))
end Go.Abs
section
namespace Go.Proofs.YthllacimcjakdaaGreat.fnPlainOf
open Go.ChangeShapes Go.WideShapes Go.ChangeAt Go.RowKit Go.Abs
theorem own:ownKnob Tryz.prog.godebug=none:=by kernel_rfl
theorem kids:Kids Tryz.prog (·<Tryz.prog.types.size):=kids_rows kr kr
theorem Z0x:∀t e,t<Tryz.prog.types.size->Tryz.prog.underlying t=some (.slice e)->0<Tryz.prog.cellsOf e:=slices_full_of Tryz.prog kr
theorem OL {w w':World} {G G':Y5} {h':List Res} (hx:YO w G [] w' G' h'):∀b,b<w.heap.size->w'.heap[b]? = w.heap[b]?:=
 fun b hb=>(hx.same b hb).eq fun o ⟨r,hr,_⟩=>by cases hr
theorem RJ {w w':World} {b o:Nat} (h:w'.heap[b]? = w.heap[b]?):w'.cell? ⟨b,o,none⟩=w.cell? ⟨b,o,none⟩:=by simp [World.cell?,h]
theorem Z5x {t:Nat} (h:Nat.blt t Tryz.prog.types.size=true):t<Tryz.prog.types.size:=Nat.le_of_ble_eq_true h
set_option maxRecDepth 100000 in
theorem S7 (H:Type) (enc:TypeId × Value->H) (W:World) (base:Nat) (args:Array Value) (ds gs:List (DataW H)) (before:List MemPlace) (hval:∀(j:Nat) t v,Tryz.f9.params[j]? = some t->args[j]? = some v->Value.okWide Tryz.prog W .any base t v)
  (hW:DataW.Whole enc Tryz.prog Tryz.f9.params.toList Rows.fnPlainOfSpec.vars false W args.toList ds gs before) :
  Calls Tryz.prog 9 args W fun e W'=>∃v,e=.returned v/\Rows.fnPlainOfSpec.post enc Tryz.prog Tryz.f9 false true false false W args v W':=by
 have hW':=hW
 obtain ⟨p,q,hA0,hV,rfl,hfz,hnd⟩:=hW
 have hA:DataW.TrodAll enc Tryz.prog W 0 (fun _=>true) true Tryz.f9.params.toList args.toList ds p:=hA0
 rw [Tryz.params9] at hA
 obtain ⟨v0,vs0,d0,ds0,p0,q0,hargs,rfl,rfl,h0,r0⟩:=trodAll_cons hA
 obtain ⟨rfl,rfl,rfl⟩:=trodAll_nil r0
 obtain rfl:args=#[v0]:=by cases args;simp_all
 obtain ⟨rfl,rfl⟩:=trodVars_none hV
 obtain ⟨fuel,htr⟩:=h0
 obtain ⟨qa,ql,qc,rfl⟩:=okWide_slice Tryz.underlying22 (hval 0 22 v0 kr rfl)
 obtain ⟨v1,code,hv1,hrv,hcb⟩:=Z7s htr
 have hv1:[Value.slice qa ql qc]=[v1]:=hv1
 cases hv1
 have hh:Yq W (GA W) []:=⟨(fun r hr=>by cases hr),List.Pairwise.nil,(fun r hr=>by cases hr),fun b o hg=>hg⟩
 refine (Z57 code hcb W (GA W) [.slice qa ql qc] (.cons hrv .nil) hh).mono ?_
 rintro e W' ⟨v,r,h',G',rfl,⟨rfl,rfl⟩,hv,hh',hx⟩
 have hvb:=hv.val_inv
 subst hvb
 refine ⟨_,rfl,[d0],[],p0++[]++[],[],p0++[],[],hW',?_,?_,rfl,?_,(fun h=>by cases h)⟩
 ·exact trodAll_cons_mk (shut_bool Tryz.underlying4 _) trodAll_mk0
 ·have Ez:∀b,b<W.heap.size->W'.heap[b]? = W.heap[b]?:=OL hx
  have hlt:=hW'.lt
  have hcar:DataW.TrodAll enc Tryz.prog W' 0 (fun _=>true) true Tryz.f9.params.toList [.slice qa ql qc] [d0] (p0++[]):=by
   rw [Tryz.params9]
   refine ⟨p0,[],⟨fuel,DataW.trod_carry fuel 22 _ _ htr fun y hy=>?_⟩,rfl,rfl⟩
   have hyl:=hlt y (by simpa using hy)
   cases y with
   | cell b o=>exact RJ (Ez b hyl)
   | map b=>exact Ez b hyl
  exact DataW.TrodAll.respare kids Z0x (by rw [Tryz.params9];intro t ht;rw [List.mem_singleton.1 ht];exact Z5x kr) hcar (fun y hy=>by have:=hlt y (by simpa using hy);simpa using this)
 ·refine ⟨hx.os,hx.output,fun i hi=>?_⟩
  rw [OL hx i hi]
  cases W.heap[i]? with
  | none=>rfl
  | some o=>cases o<;>first | rfl | exact ⟨rfl,rfl,rfl,fun _ _=>rfl⟩ | exact .inr ⟨rfl,rfl⟩
set_option maxRecDepth 100000 in
theorem Z5t (os:Os) (started:os.Started) (H:Type) (enc:TypeId × Value->H) (F:Stop.Interp) :
  ReturnsInHanded {} Tryz.checked os 9 .any ((Rows.OpenSpec.upto Rows.fnPlainOfSpec).pre6 enc Tryz.prog Tryz.f9 Rows.fnPlainOfUptoRow.domain false) (((Rows.OpenSpec.upto Rows.fnPlainOfSpec).at F).post enc Tryz.prog Tryz.f9 false true false false):=by
 refine returnsInHanded_of_cond (C:=Tryz.checked) (s:=Rows.OpenSpec.upto Rows.fnPlainOfSpec) (k:=Rows.uptoSmall) rfl own started kr Tryz.func9
  (OpenSpec.witness (enc:=enc) (C:=Tryz.checked) (s:=Rows.OpenSpec.upto Rows.fnPlainOfSpec) (k:=Rows.uptoSmall) rfl false ⟨#[],#[.slice none 0 0],[]⟩ 8 kr kr kr
   (x:=([.nil],[],[])) kr rfl kr) ?_
 intro W base args ds gs before hval hW _ hk _
 exact S7 H enc W base args ds gs before hval hW
theorem Rd {a b:Bool} (ha:a=true) (hb:b=true):(a&&b)=true:=by rw [ha,hb];rfl
set_option maxHeartbeats 4000000 in
theorem RO:joinedFacts Tryz.pinned.checked.prog 9 Tryz.f9 (Rows.OpenSpec.upto Rows.fnPlainOfSpec).bare Rows.fnPlainOfUptoRow=true:=by
 unfold joinedFacts
 iterate 31 refine Rd ?_ (by as_aux_lemma=>kernel_rfl)
 as_aux_lemma=>kernel_rfl
theorem Z72:Rows.fnPlainOfUptoRow.holds Tryz.pinned (Rows.OpenSpec.upto Rows.fnPlainOfSpec):=
 OpenClaim.holds_of_cond 9 Tryz.f9 rfl rfl rfl rfl rfl rfl rfl ⟨rfl,rfl,rfl,rfl,rfl⟩ rfl rfl rfl rfl rfl (by as_aux_lemma=>kernel_rfl) Tryz.func9 RO
  (of_decide_eq_true kr) (by unfold Func.isWrapper;first|(rw [if_pos (by decide +kernel)];kernel_rfl)|(rw [if_neg (by decide +kernel)];exact ⟨rfl,rfl⟩))
  (fun os started H enc _ F=>Z5t os started H enc F)
theorem proved:Rows.FnPlainOfUptoSaid:=
 Z72
#print axioms proved
end Go.Proofs.YthllacimcjakdaaGreat.fnPlainOf
end
