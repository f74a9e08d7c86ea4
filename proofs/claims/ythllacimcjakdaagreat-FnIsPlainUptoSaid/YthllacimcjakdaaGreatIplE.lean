/-
  FnIsPlainUptoSaid: the law FnIsPlain returns true at every argument of bulk at most 1048576, and the argument reads behind the call as it read before.
-/
import Derived.Test.YthllacimcjakdaaGreatIplD
import Derived.Test.YthllacimcjakdaaGreatRows
import Derived.WalkKit
import Derived.ProofKit
import Derived.OpenShut
import Derived.JoinedCond
import Derived.ReadAgain
set_option linter.all false
set_option linter.unusedVariables false
set_option linter.unusedSimpArgs false
set_option linter.unusedSectionVars false
set_option maxRecDepth 10000
set_option maxHeartbeats 4000000
namespace Go.Abs
open Go.Proofs
theorem Z29 (rd:Nat) (bs:LI) (p:Nat) (xs:LI) (ZB:∀z∈bs,0<=z/\z<=255) (hp:p+3<=1000000000:=by exact ob) (hl:xs.length<=1000000:=by exact ob):Zi 52 [.p rd 0,Z6 xs] [Yi rd bs p] (fun r h=>∃(zs:LI) (p2:Nat),r=Z6 zs/\h=[Yi rd bs p2]/\zs.length<=xs.length+1/\p<=p2/\p2<=p+3):=by
 refine ZC 32 Tryz.func52 (ar (Z0 1 (ie (ar (Z0 1 (ic [] (Av xs) ?_))))))
 rintro _ _ ⟨v1,rfl,rfl⟩
 refine Z0 1 (ie (aq (ar (Z0 1 (Zo (JH 0 v1 xs) (Z0 2 (ib (b:=(decide ((xs.length:Int)>0))) 11 (fun Zf=>?_) (fun Zf=>?_))))))))
 ·have Y2:(xs.length:Int)>0:=(dq).1 Zf
  refine Z0 1 (ic [1] (XG rd bs p 2 (ZB:=ob)) ?_)
  rintro _ _ ⟨k1,rfl,rfl,Yj⟩
  refine Z0 2 (ie (ac (k1==0) Zr (fun Zb=>?_) (fun Zb=>?_)))
  ·refine ar (Z0 3 (Zo (JH 1 v1 xs) (ic [0] (KP rd bs (p+1) xs.length (ZB:=ob)) ?_)))
   rintro _ _ ⟨Yu,rfl,rfl,YJ⟩
   refine Z0 1 (iL (Z7 [0,1,-1,7,1000,1001]) 6 1 fun v2=>ZM 0 [(22,Z6 [0,1,-1,7,1000,1001])] (ic [1] (Vq rd bs ((p+1)+1) [0,1,-1,7,1000,1001] (ZB:=ob)) ?_))
   rintro _ _ ⟨z1,rfl,rfl,YR⟩
   exact Zo (Vw 2 v1 xs (Yu:Int) Yu) (Mr 2 v1 xs Yu z1 (ie (ar (Z0 2 (ie (DJ 4 0 (v:=v1) (xs:=(xs.set Yu z1)) (Z9 (r2 [1] [ZU (xs.set Yu z1) v1.v] ⟨(xs.set Yu z1),((p+1)+1)+1,rfl,rfl,⟨by simp,by omega,by omega⟩⟩ (Zc.forget _ _)))))))))
  refine ak (ar (Z0 2 (iL (Z7 [0,1,2,-1,1000]) 5 1 fun v3=>ZM 0 [(28,Z6 [0,1,2,-1,1000])] (ic [1] (Vq rd bs (p+1) [0,1,2,-1,1000] (ZB:=ob)) ?_))))
  rintro _ _ ⟨z2,rfl,rfl,X6⟩
  exact iL (Z7 [z2]) 1 1 fun v4=>ZM 0 [(30,Z6 [z2])] (KQ 3 v1 xs [z2] none fun v5=>Z0 1 (ie (DJ 4 0 (v:=v5) (xs:=(xs++[z2])) (Z9 (r2 [2] [ZU (xs++[z2]) v5.v] ⟨(xs++[z2]),(p+1)+1,rfl,rfl,⟨by simp,by omega,by omega⟩⟩ (Zc.forget _ _))))))
 have XS:¬((xs.length:Int)>0):=Yf dq Zf
 refine Z0 4 (ie (WB (ak (ar (Z0 2 (iL (Z7 [0,1,2,-1,1000]) 5 1 fun v6=>ZM 0 [(28,Z6 [0,1,2,-1,1000])] (ic [2] (Vq rd bs p [0,1,2,-1,1000] (ZB:=ob)) ?_)))))))
 rintro _ _ ⟨z3,rfl,rfl,Wq⟩
 exact iL (Z7 [z3]) 1 1 fun v7=>ZM 0 [(30,Z6 [z3])] (KQ 3 v1 xs [z3] none fun v8=>Z0 1 (ie (DJ 4 0 (v:=v8) (xs:=(xs++[z3])) (Z9 (r2 [2] [ZU (xs++[z3]) v8.v] ⟨(xs++[z3]),p+1,rfl,rfl,⟨by simp,by omega,by omega⟩⟩ (Zc.forget _ _))))))
theorem RX (s:Z4) (hz:s.sz<=1000000000:=by exact ob):Zi 127 [Yr s] [] (fun r h=>∃(v:Hd),r=.agg [.i s.op,.i s.num,.i s.into,.h v,Xa s.kids]/\h=[rV v s.args]):=by
 have hkz:=U4 s
 have haz:=Tl s
 refine ZC 33 Tryz.func127 (ar (iA (X7 s) fun b1=>iA [.i 0,.i 0,.i 0,nl,nl] fun b2=>ie (ar (iL (Yt []) 0 2 fun v1=>?_))))
 refine Z0 1 (ie (aq (ar (Z0 1 (ie (ab 0 (ZW (fun fz gz m F h=>∃(k:Nat) (v:Value),(k<=s.kids.length)/\F=sF [1,2] fz [(3,Uf (s.kids.take k) v),(4,.i k)]/\h=[Zk gz 1,Zk gz 2,.tail v 2]/\m=s.kids.length-k) _ _ _ ⟨0,v1,ob,rfl,rfl,rfl⟩ (wk [1,1,0] (fc (x:=Uf [] v1) (Zc.slh _ (Yc Yt rfl)) (Y0 fl))) ?_)))))))
 rintro m F h ⟨k,v,Y5,rfl,rfl,rfl⟩
 refine aq (ar (Z3 3 [1] (iw (Va s.kids) (Z0 1 (ie (ZE ((k:Int)<(s.kids.length:Int)) (fun Zb=>?_) (fun Zb=>?_)))))))
 ·refine ak (aq (ab 1 (az (Z3 4 [1] ?_))))
  obtain ⟨x1,Z2⟩:=Zs s.kids k om
  have hks:=U3 Z2
  exact Zo (Zh none (k:Int) 2 (VK Z2)) (Z0 1 (Zx [] (Fo x1) (iL [ZH x1] 1 2 fun v2=>ZM 0 [(20,.sl [ZH x1] none)] (ip 3 (Yt (s.kids.take (k+1))) (Yt (s.kids.take k)) [ZH x1] v none 2 (UV _) (Tb rfl) rfl (by simp<;>omega) (by rw [Wu Z2];simp [Uc]) fun v3=>Z0 1 (ie (az (Z0 1 (ZD k (Z0 1 (ie (ZG ⟨k+1,v3,ob,rfl,rfl,rfl⟩ (wk [2,2,0] (fr (ZJ k fl))))))))))))))
 refine ax 0 (aD 12 (ZL 3 12 [0,1,2,3,4,5,6,7,9] [1,1,1,1] (Z8 8 (dc 8 [] [1,1,1] [b1,b1,b1] (Av s.args) ?_))))
 rintro _ _ ⟨v4,rfl,rfl⟩
 exact Zj 1 2 [10] (Z8 11 (YC 11 1 [] [] b2 [.i s.op,.i s.num,.i s.into,.h v4,Uf (s.kids.take k) v] (de (Z9 (r3 [1] [.agg [.i s.op,.i s.num,.i s.into,.h v4,Uf (s.kids.take k) v]] [0] [(b2,b2)] ⟨v4,rfl,rfl⟩ (Zc.agg (.cons (lr _) (.cons (lr _) (.cons (lr _) (.cons (lr _) (.cons (Zc.sl _ (Yc Yt (by rw [WK om]))) .nil)))))))))))
theorem Mg (rd:Nat) (bs:LI) (p:Nat) (s:Z4) (ZB:∀z∈bs,0<=z/\z<=255) (hp:p+3<=1000000000:=by exact ob) (hz:s.sz<=100000000:=by exact ob) (hg:s.rng:=by exact ob):Zi 89 [.p rd 0,Yr s] [Yi rd bs p] (fun r h=>∃(y:Z4) (p2:Nat),r=Yr y/\h=[Yi rd bs p2]/\Vx s y/\p<=p2/\p2<=p+3):=by
 have haz:=Tl s
 have hkz:=U4 s
 refine ZC 66 Tryz.func89 (ar (iA (X7 s) fun b1=>iA [.i 0,.i 0,.i 0,nl,nl] fun b2=>ie (ar (Z3 1 [1] (ic [] (RX s) ?_)))))
 rintro _ _ ⟨v1,rfl,rfl⟩
 refine iA [.i 0,.i 0,.i 0,nl,nl] fun b3=>Zz 0 b3 [.i s.op,.i s.num,.i s.into,.h v1,Xa s.kids] (ie (aq (ar (Z0 1 (ic [4] (XG rd bs p 6 (ZB:=ob)) ?_)))))
 rintro _ _ ⟨k1,rfl,rfl,Y2⟩
 refine ie (ab 0 (ar (Z0 2 (ie (ac (k1==0) Zr (fun Zb=>?_) (fun Zb=>?_))))))
 ·refine az (Z0 1 (iL (Z7 [14,15,16,17,6,9,12,0,1]) 9 1 fun v2=>ZM 0 [(13,Z6 [14,15,16,17,6,9,12,0,1])] (ic [1] (Vq rd bs (p+1) [14,15,16,17,6,9,12,0,1] (ZB:=ob)) ?_)))
  rintro _ _ ⟨z1,rfl,rfl,Yj⟩
  have hon:=Yj
  exact Z0 1 (Zz 2 b3 [.i z1,.i s.num,.i s.into,.h v1,Xa s.kids] (ie (ar (Xz (J2 3 v1 s.args) (Xz (UD 0 0 3 v1.v 1 b3 (Z7 s.args) [.i z1,.i s.num,.i s.into,.h v1,Xa s.kids] (Ys _) rfl) (Z3 1 [0] (Zz 4 b2 [.i z1,.i s.num,.i s.into,ZU s.args v1.v,Xa s.kids] (ie (Z9 (r3 [3] [.agg [.i z1,.i s.num,.i s.into,ZU s.args v1.v,Xa s.kids]] [0] [(b2,b2)] ⟨(Z4.mk z1 s.num s.into s.args s.kids),(p+1)+1,rfl,rfl,⟨by first|exact Vx.refl hg|exact Vx.of hg (by first|exact .inl rfl|exact .inr hon) (by first|exact Nat.le_succ _|(simp<;>omega)) (by first|exact .inl rfl|exact .inr rfl),by omega,by omega⟩⟩ (Zc.agg (.cons (lr _) (.cons (lr _) (.cons (lr _) (.cons (Zc.forget _ _) (.cons (lr _) .nil))))))))))))))))
 refine ar (Z0 2 (ie (ac (k1==1) Zr (fun Zg=>?_) (fun Zg=>?_))))
 ·refine az (Z0 1 (iL (Z7 [0,1,2,3,-1,1000]) 6 1 fun v3=>ZM 0 [(19,Z6 [0,1,2,3,-1,1000])] (ic [1] (Vq rd bs (p+1) [0,1,2,3,-1,1000] (ZB:=ob)) ?_)))
  rintro _ _ ⟨z2,rfl,rfl,YJ⟩
  have hon:=YJ
  exact Z0 1 (Zz 2 b3 [.i s.op,.i z2,.i s.into,.h v1,Xa s.kids] (ie (ar (Xz (J2 3 v1 s.args) (Xz (UD 0 0 3 v1.v 1 b3 (Z7 s.args) [.i s.op,.i z2,.i s.into,.h v1,Xa s.kids] (Ys _) rfl) (Z3 1 [0] (Zz 4 b2 [.i s.op,.i z2,.i s.into,ZU s.args v1.v,Xa s.kids] (ie (Z9 (r3 [3] [.agg [.i s.op,.i z2,.i s.into,ZU s.args v1.v,Xa s.kids]] [0] [(b2,b2)] ⟨(Z4.mk s.op z2 s.into s.args s.kids),(p+1)+1,rfl,rfl,⟨by first|exact Vx.refl hg|exact Vx.of hg (by first|exact .inl rfl|exact .inr hon) (by first|exact Nat.le_succ _|(simp<;>omega)) (by first|exact .inl rfl|exact .inr rfl),by omega,by omega⟩⟩ (Zc.agg (.cons (lr _) (.cons (lr _) (.cons (lr _) (.cons (Zc.forget _ _) (.cons (lr _) .nil))))))))))))))))
 refine ar (Z0 2 (ie (ac (k1==2) Zr (fun Zy=>?_) (fun Zy=>?_))))
 ·refine az (Z0 1 (iL (Z7 [1,2,0,-1,90]) 5 1 fun v4=>ZM 0 [(25,Z6 [1,2,0,-1,90])] (ic [1] (Vq rd bs (p+1) [1,2,0,-1,90] (ZB:=ob)) ?_)))
  rintro _ _ ⟨z3,rfl,rfl,YR⟩
  have hon:=YR
  exact Z0 1 (Zz 2 b3 [.i s.op,.i s.num,.i z3,.h v1,Xa s.kids] (ie (ar (Xz (J2 3 v1 s.args) (Xz (UD 0 0 3 v1.v 1 b3 (Z7 s.args) [.i s.op,.i s.num,.i z3,.h v1,Xa s.kids] (Ys _) rfl) (Z3 1 [0] (Zz 4 b2 [.i s.op,.i s.num,.i z3,ZU s.args v1.v,Xa s.kids] (ie (Z9 (r3 [3] [.agg [.i s.op,.i s.num,.i z3,ZU s.args v1.v,Xa s.kids]] [0] [(b2,b2)] ⟨(Z4.mk s.op s.num z3 s.args s.kids),(p+1)+1,rfl,rfl,⟨by first|exact Vx.refl hg|exact Vx.of hg (by first|exact .inl rfl|exact .inr hon) (by first|exact Nat.le_succ _|(simp<;>omega)) (by first|exact .inl rfl|exact .inr rfl),by omega,by omega⟩⟩ (Zc.agg (.cons (lr _) (.cons (lr _) (.cons (lr _) (.cons (Zc.forget _ _) (.cons (lr _) .nil))))))))))))))))
 refine ar (Z0 2 (ie (ac (k1==3) Zr (fun Y9=>?_) (fun Y9=>?_))))
 ·refine aE 9 (ZL 6 9 [0,1,2] [1] (Z8 3 (dL 3 [1] [b3] (Z7 [0,1,-1]) 3 1 fun v5=>Yl 5 5 [] [(33,Z6 [0,1,-1])] (Z8 4 (dc 4 [1] [0] [b3] (Vq rd bs (p+1) [0,1,-1] (ZB:=ob)) ?_)))))
  rintro _ _ ⟨z4,rfl,rfl,X6⟩
  have hon:=X6
  exact Z8 5 (dL 5 [1] [b3] (Z7 [z4]) 1 1 fun v6=>Yl 3 3 [] [(35,Z6 [z4])] (Z8 6 (S1 6 4 [] [] v1 s.args [z4] none fun v7=>Zj 1 2 [7] (Z8 8 (YC 8 4 [] [] b3 [.i s.op,.i s.num,.i s.into,.h v7,Xa s.kids] (de (ar (Xz (J2 1 v7 (s.args++[z4])) (Xz (UD 0 0 3 v7.v 1 b3 (Z7 (s.args++[z4])) [.i s.op,.i s.num,.i s.into,.h v7,Xa s.kids] (Ys _) rfl) (Z3 1 [0] (Zz 5 b2 [.i s.op,.i s.num,.i s.into,ZU (s.args++[z4]) v7.v,Xa s.kids] (ie (Z9 (r3 [4] [.agg [.i s.op,.i s.num,.i s.into,ZU (s.args++[z4]) v7.v,Xa s.kids]] [0] [(b2,b2)] ⟨(Z4.mk s.op s.num s.into (s.args++[z4]) s.kids),(p+1)+1,rfl,rfl,⟨by first|exact Vx.refl hg|exact Vx.of hg (by first|exact .inl rfl|exact .inr hon) (by first|exact Nat.le_succ _|(simp<;>omega)) (by first|exact .inl rfl|exact .inr rfl),by omega,by omega⟩⟩ (Zc.agg (.cons (lr _) (.cons (lr _) (.cons (lr _) (.cons (Zc.forget _ _) (.cons (lr _) .nil))))))))))))))))))))
 refine ar (Z0 2 (ie (ac (k1==4) Zr (fun X0=>?_) (fun X0=>?_))))
 ·refine ar (Z3 2 [1] (Zo (JH 2 v1 s.args) (Z0 1 (ie (ZE ((s.args.length:Int)>0) (fun X9=>?_) (fun X9=>?_))))))
  ·refine aE 12 (ZL 7 12 [0,1,2,3,4] [1,1] (dx 5 (JH 2 v1 s.args) (Zj 5 6 [7] (V9 6 8 ?_ ?_))))
   ·refine dc 6 [0] [0] [b3] (KP rd bs (p+1) s.args.length (ZB:=ob)) ?_
    rintro _ _ ⟨Yu,rfl,rfl,XS⟩
    refine Z8 8 (dL 8 [1] [b3] (Z7 [0,1,2,3,-1,99]) 6 1 fun v8=>Yl 3 3 [] [(52,Z6 [0,1,2,3,-1,99])] (Z8 9 (dc 9 [1] [0] [b3] (Vq rd bs ((p+1)+1) [0,1,2,3,-1,99] (ZB:=ob)) ?_)))
    rintro _ _ ⟨z5,rfl,rfl,Wq⟩
    have hon:=Wq
    exact dx 10 (Vw 3 v1 s.args (Yu:Int) Yu) (Z8 11 (A6 11 3 [] [] v1 s.args Yu z5 (de (ar (Xz (J2 0 v1 (s.args.set Yu z5)) (Xz (UD 0 2 3 v1.v 1 b3 (Z7 (s.args.set Yu z5)) [.i s.op,.i s.num,.i s.into,.h v1,Xa s.kids] (Ys _) rfl) (Z3 1 [0] (Zz 4 b2 [.i s.op,.i s.num,.i s.into,ZU (s.args.set Yu z5) v1.v,Xa s.kids] (ie (Z9 (r3 [3] [.agg [.i s.op,.i s.num,.i s.into,ZU (s.args.set Yu z5) v1.v,Xa s.kids]] [0] [(b2,b2)] ⟨(Z4.mk s.op s.num s.into (s.args.set Yu z5) s.kids),((p+1)+1)+1,rfl,rfl,⟨by first|exact Vx.refl hg|exact Vx.of hg (by first|exact .inl rfl|exact .inr hon) (by first|exact Nat.le_succ _|(simp<;>omega)) (by first|exact .inl rfl|exact .inr rfl),by omega,by omega⟩⟩ (Zc.agg (.cons (lr _) (.cons (lr _) (.cons (lr _) (.cons (Zc.forget _ _) (.cons (lr _) .nil)))))))))))))))))
   refine dL 8 [1,1] [b3,b3] (Z7 [0,1,2,3,-1,99]) 6 1 fun v9=>Z8 6 (dc 6 [1] [0] [b3] (KP rd bs (p+1) s.args.length (ZB:=ob)) ?_)
   rintro _ _ ⟨YP,rfl,rfl,V6⟩
   refine Yl 3 3 [] [(52,Z6 [0,1,2,3,-1,99])] (Z8 9 (dc 9 [0] [0] [b3] (Vq rd bs ((p+1)+1) [0,1,2,3,-1,99] (ZB:=ob)) ?_))
   rintro _ _ ⟨z6,rfl,rfl,Ve⟩
   have hon:=Ve
   exact dx 10 (Vw 3 v1 s.args (YP:Int) YP) (Z8 11 (A6 11 3 [] [] v1 s.args YP z6 (de (ar (Xz (J2 0 v1 (s.args.set YP z6)) (Xz (UD 0 2 3 v1.v 1 b3 (Z7 (s.args.set YP z6)) [.i s.op,.i s.num,.i s.into,.h v1,Xa s.kids] (Ys _) rfl) (Z3 1 [0] (Zz 4 b2 [.i s.op,.i s.num,.i s.into,ZU (s.args.set YP z6) v1.v,Xa s.kids] (ie (Z9 (r3 [3] [.agg [.i s.op,.i s.num,.i s.into,ZU (s.args.set YP z6) v1.v,Xa s.kids]] [0] [(b2,b2)] ⟨(Z4.mk s.op s.num s.into (s.args.set YP z6) s.kids),((p+1)+1)+1,rfl,rfl,⟨by first|exact Vx.refl hg|exact Vx.of hg (by first|exact .inl rfl|exact .inr hon) (by first|exact Nat.le_succ _|(simp<;>omega)) (by first|exact .inl rfl|exact .inr rfl),by omega,by omega⟩⟩ (Zc.agg (.cons (lr _) (.cons (lr _) (.cons (lr _) (.cons (Zc.forget _ _) (.cons (lr _) .nil)))))))))))))))))
  exact ak (ar (Xz (J2 2 v1 s.args) (Xz (UD 0 1 3 v1.v 1 b3 (Z7 s.args) [.i s.op,.i s.num,.i s.into,.h v1,Xa s.kids] (Ys _) rfl) (Z3 1 [0] (Zz 3 b2 [.i s.op,.i s.num,.i s.into,ZU s.args v1.v,Xa s.kids] (ie (Z9 (r3 [3] [.agg [.i s.op,.i s.num,.i s.into,ZU s.args v1.v,Xa s.kids]] [0] [(b2,b2)] ⟨s,p+1,rfl,rfl,⟨by first|exact Vx.refl hg|exact Vx.of hg (by first|exact .inl rfl|exact .inr hon) (by first|exact Nat.le_succ _|(simp<;>omega)) (by first|exact .inl rfl|exact .inr rfl),by omega,by omega⟩⟩ (Zc.agg (.cons (lr _) (.cons (lr _) (.cons (lr _) (.cons (Zc.forget _ _) (.cons (lr _) .nil))))))))))))))
 refine ar (Z0 2 (ie (ac (k1==5) Zr (fun Vr=>?_) (fun Vr=>?_))))
 ·refine ar (Z3 2 [1] (iw (Va s.kids) (Z0 1 (ie (ZE ((s.kids.length:Int)>0) (fun Vd=>?_) (fun Vd=>?_))))))
  ·exact az (Z3 2 [1] (Zo (Kl (es:=Yt s.kids) (hv:=none) (l:=1) (m:=(((Yt s.kids).length:Nat):Int)) (sz:=2) (es':=Yt (s.kids.drop 1)) kr om (by simp<;>omega) (by simp<;>omega) (UV _) (by first|(simp only [VP,Vc,Gn,Gm];done)|(simp only [VP,Vc,Gn,Gm];rfl)|(simp [Gn,Gm];done))) (Z0 1 (Zz 1 b3 [.i s.op,.i s.num,.i s.into,.h v1,Xa (s.kids.drop 1)] (ie (ar (Xz (J2 2 v1 s.args) (Xz (UD 0 0 3 v1.v 1 b3 (Z7 s.args) [.i s.op,.i s.num,.i s.into,.h v1,Xa (s.kids.drop 1)] (Ys _) rfl) (Z3 1 [0] (Zz 3 b2 [.i s.op,.i s.num,.i s.into,ZU s.args v1.v,Xa (s.kids.drop 1)] (ie (Z9 (r3 [3] [.agg [.i s.op,.i s.num,.i s.into,ZU s.args v1.v,Xa (s.kids.drop 1)]] [0] [(b2,b2)] ⟨(Z4.mk s.op s.num s.into s.args (s.kids.drop 1)),p+1,rfl,rfl,⟨by first|exact Vx.refl hg|exact Vx.of hg (by first|exact .inl rfl|exact .inr hon) (by first|exact Nat.le_succ _|(simp<;>omega)) (by first|exact .inl rfl|exact .inr rfl),by omega,by omega⟩⟩ (Zc.agg (.cons (lr _) (.cons (lr _) (.cons (lr _) (.cons (Zc.forget _ _) (.cons (lr _) .nil)))))))))))))))))))
  exact ak (ar (Xz (J2 2 v1 s.args) (Xz (UD 0 1 3 v1.v 1 b3 (Z7 s.args) [.i s.op,.i s.num,.i s.into,.h v1,Xa s.kids] (Ys _) rfl) (Z3 1 [0] (Zz 3 b2 [.i s.op,.i s.num,.i s.into,ZU s.args v1.v,Xa s.kids] (ie (Z9 (r3 [3] [.agg [.i s.op,.i s.num,.i s.into,ZU s.args v1.v,Xa s.kids]] [0] [(b2,b2)] ⟨s,p+1,rfl,rfl,⟨by first|exact Vx.refl hg|exact Vx.of hg (by first|exact .inl rfl|exact .inr hon) (by first|exact Nat.le_succ _|(simp<;>omega)) (by first|exact .inl rfl|exact .inr rfl),by omega,by omega⟩⟩ (Zc.agg (.cons (lr _) (.cons (lr _) (.cons (lr _) (.cons (Zc.forget _ _) (.cons (lr _) .nil))))))))))))))
 exact ak (ar (Xz (J2 2 v1 s.args) (Xz (UD 0 1 3 v1.v 1 b3 (Z7 s.args) [.i s.op,.i s.num,.i s.into,.h v1,Xa s.kids] (Ys _) rfl) (Z3 1 [0] (Zz 3 b2 [.i s.op,.i s.num,.i s.into,ZU s.args v1.v,Xa s.kids] (ie (Z9 (r3 [3] [.agg [.i s.op,.i s.num,.i s.into,ZU s.args v1.v,Xa s.kids]] [0] [(b2,b2)] ⟨s,p+1,rfl,rfl,⟨by first|exact Vx.refl hg|exact Vx.of hg (by first|exact .inl rfl|exact .inr hon) (by first|exact Nat.le_succ _|(simp<;>omega)) (by first|exact .inl rfl|exact .inr rfl),by omega,by omega⟩⟩ (Zc.agg (.cons (lr _) (.cons (lr _) (.cons (lr _) (.cons (Zc.forget _ _) (.cons (lr _) .nil))))))))))))))
theorem Z1z (rd:Nat) (bs:LI) (p:Nat) (mx:Int) (ZB:∀z∈bs,0<=z/\z<=255) (hp:p+1<=1000000000):Zi 50 [.p rd 0,.i mx] [Yi rd bs p] (fun r h=>∃(k:Int),r=.i k/\h=[.obj rd [VF bs,.i (p+1:Nat)]]/\Pk mx k/\k=JF bs p mx):=by
 refine ZC 99 Tryz.func50 (ar (Z0 1 (ie (ar (Z3 5 [0] (ZD p (Z0 2 (Zz 0 rd [VF bs,.i (p+1:Nat)] (ie (aq (ar (X5 [0,1] [(24,.b ((decide (mx<1))||((bs.length:Int)==0)))] (fun gz=>gz) ?_ ?_))))))))))))
 ·refine Z0 3 (ib (b:=(decide (mx<1))) 17 (fun Zf=>?_) (fun Zf=>?_))
  ·exact Z0 7 (ie (wk [0] (Zq true Zf fl)))
  exact Z3 4 [0] (iw (QJ bs) (Z0 2 (ie (wk [0] (Zq ((bs.length:Int)==0) Zf fl)))))
 refine ac ((decide (mx<1))||((bs.length:Int)==0)) (p:=(mx<1)∨((bs.length:Int)=0)) (Yn dq Zr) (fun Zb=>?_) (fun Zb=>?_)
 ·exact ar (Z0 1 (ie (Z9 (r1 [0] ⟨0,rfl,rfl,⟨Pk.zero,by rw [JF,Zm om]⟩⟩))))
 refine ak (ar (Z3 4 [0] (ia ((p:Int)) ((((p+1:Nat):Int))-(1)) (Z0 1 (ie (aq (ar (Z3 5 [0] (iw (QJ bs) (Z0 1 (ie (ZE ((p:Int)<(bs.length:Int)) (fun Zg=>?_) (fun Zg=>?_)))))))))))))
 ·refine ar (Z3 5 [0] ?_)
  obtain ⟨x1,Z2⟩:=Zs bs p om
  have hz:=ZB _ (ZY Z2)
  exact Zo (Zh none (p:Int) 1 (BB Z2)) (Z0 1 (Zo (BW x1 om) (Z0 1 (Zo (D0 x1 mx om om) (Z0 1 (ie (Z9 (r1 [0] ⟨(x1 % mx),rfl,rfl,⟨Pk.rem om om,by rw [JF,Za om,Zm om,Z2];rfl⟩⟩))))))))
 have hq1:p / bs.length<=p:=Nat.div_le_self _ _
 have hq0:(0:Int)<=((p / bs.length:Nat):Int):=Int.natCast_nonneg _
 refine ak (aD 46 (ZL 37 46 [0,1,2,3,4,5,6,7,8] [0,0] (dw 9 (QJ bs) (dx 10 (EF p bs.length om om) ?_))))
 obtain ⟨x2,Zp⟩:=Zs bs (p % bs.length) (Nat.mod_lt _ om)
 have hz:=ZB _ (ZY Zp)
 have hy2:=Zp
 refine dx 11 (Zh none ((p % bs.length:Nat):Int) 1 (BB Zp)) (Zj 33 34 [12] (dx 13 (BW x2 om) (da 14 ((x2*131)) ((x2)*(131)) (ZL 26 31 [15,16,17,18,19] [0] (da 20 (((p*7:Nat):Int)) (((p:Int))*(7)) (da 21 (((p*7+3:Nat):Int)) ((((p*7:Nat):Int))+(3)) (ZL 20 24 [22,23,24,25] [0] (dw 26 (QJ bs) (dx 27 (EF (p*7+3) bs.length om om) ?_)))))))))
 obtain ⟨x3,YG⟩:=Zs bs ((p*7+3) % bs.length) (Nat.mod_lt _ om)
 have hz3:=ZB _ (ZY YG)
 have hy3:=YG
 exact dx 28 (Zh none (((p*7+3) % bs.length:Nat):Int) 1 (BB YG)) (Zj 16 17 [29] (dx 30 (BW x3 om) (da 31 ((x3*1117)) ((x3)*(1117)) (da 32 (((x2*131)+(x3*1117))) (((x2*131))+((x3*1117))) (Zj 12 13 [33] (da 34 (((p*29:Nat):Int)) (((p:Int))*(29)) (da 35 ((((x2*131)+(x3*1117))+((p*29:Nat):Int))) ((((x2*131)+(x3*1117)))+(((p*29:Nat):Int))) (ZL 5 10 [36,37,38,39,40] [0] (dw 41 (QJ bs) (dx 42 (B8 p bs.length om om) (da 43 ((((p / bs.length:Nat):Int)*53)) ((((p / bs.length:Nat):Int))*(53)) (da 44 (((((x2*131)+(x3*1117))+((p*29:Nat):Int))+(((p / bs.length:Nat):Int)*53))) (((((x2*131)+(x3*1117))+((p*29:Nat):Int)))+((((p / bs.length:Nat):Int)*53))) (Zj 0 1 [45] (de (ar (Z0 2 (Zo (He ((((x2*131)+(x3*1117))+((p*29:Nat):Int))+(((p / bs.length:Nat):Int)*53)) 64 om om) (Zo (MH ((((x2*131)+(x3*1117))+((p*29:Nat):Int))+(((p / bs.length:Nat):Int)*53)) (((((x2*131)+(x3*1117))+((p*29:Nat):Int))+(((p / bs.length:Nat):Int)*53)) / 64)) (Z0 1 (ie (ar (Z0 2 (Zo (D0 (JK ((((x2*131)+(x3*1117))+((p*29:Nat):Int))+(((p / bs.length:Nat):Int)*53)) (((((x2*131)+(x3*1117))+((p*29:Nat):Int))+(((p / bs.length:Nat):Int)*53)) / 64)) mx om (FB ⟨by omega,by omega⟩ ⟨by omega,by omega⟩).1) (Z0 1 (ie (Z9 (r1 [0] ⟨((JK ((((x2*131)+(x3*1117))+((p*29:Nat):Int))+(((p / bs.length:Nat):Int)*53)) (((((x2*131)+(x3*1117))+((p*29:Nat):Int))+(((p / bs.length:Nat):Int)*53)) / 64)) % mx),rfl,rfl,⟨Pk.rem (FB ⟨by omega,by omega⟩ ⟨by omega,by omega⟩).1 om,by rw [JF,Za om,Za om,hy2,hy3];rfl⟩⟩)))))))))))))))))))))))))))
theorem Z20 (rd:Nat) (bs:LI) (p:Nat) (mx:Nat) (ZB:∀z∈bs,0<=z/\z<=255) (hp:p+1<=1000000000:=by exact ob) (hmx:0<mx:=by exact ob):Zi 50 [.p rd 0,.i mx] [Yi rd bs p] (fun r h=>∃(kn:Nat),r=.i kn/\h=[.obj rd [VF bs,.i (p+1:Nat)]]/\kn<mx/\kn=(JF bs p mx).toNat):=(Z1z rd bs p mx ZB hp).mono fun r h ⟨z,hr,hh,hz,he⟩=>by
  have h0:=hz.lt om
  exact ⟨z.toNat,by rw [hr,Int.toNat_of_nonneg h0.1],hh,by omega,by rw [he]⟩
theorem RW (s:Z4) (hz:s.sz<=1000000000):Zi 127 [Yr s] [] (fun r h=>∃(v:Hd),r=.agg [.i s.op,.i s.num,.i s.into,Z6 s.args,.h v]/\h=[rK v 2 (Zd (Yt s.kids))]):=by
 have hkz:=U4 s
 have haz:=Tl s
 refine ZC 33 Tryz.func127 (ar (iA (X7 s) fun b1=>iA [.i 0,.i 0,.i 0,nl,nl] fun b2=>ie (ar (BS 2 fun g1=>?_))))
 refine Z0 1 (ie (aq (ar (Z0 1 (ie (ab 0 (ZW (fun fz gz m F h=>∃(k:Nat) (v:Hd),(k<=s.kids.length)/\F=sF [1,2] fz [(3,.h v),(4,.i k)]/\h=[Zk gz 1,Zk gz 2,rK v 2 (Zd (Yt (s.kids.take k)))]/\m=s.kids.length-k) _ _ _ ⟨0,(⟨some ⟨g1,0,none⟩,0,0⟩:Hd),ob,rfl,rfl,rfl⟩ (wk [1,1,0] (fr (Y0 fl)) (e:=(rc (rc (rr (ls:=[]) ob rz))))) ?_)))))))
 rintro m F h ⟨k,v,Y5,rfl,rfl,rfl⟩
 refine aq (ar (Z3 3 [1] (iw (Va s.kids) (Z0 1 (ie (ZE ((k:Int)<(s.kids.length:Int)) (fun Zb=>?_) (fun Zb=>?_)))))))
 ·refine ak (aq (ab 1 (az (Z3 4 [1] ?_))))
  obtain ⟨x1,Z2⟩:=Zs s.kids k om
  have hks:=U3 Z2
  exact Zo (Zh none (k:Int) 2 (VK Z2)) (Z0 1 (Zx [] (Fo x1) (iL [ZH x1] 1 2 fun v1=>ZM 0 [(20,.sl [ZH x1] none)] (Ey 3 k v 2 (Zd (Yt (s.kids.take k))) [ZH x1] none (by rw [CH,Wn,Vj om]) (Tb rfl) rfl (List.cons_ne_nil _ _) (by simp<;>omega) fun v2=>Z0 1 (ie (az (Z0 1 (ZD k (Z0 1 (ie (ZG ⟨k+1,v2,ob,rfl,rfl,rfl⟩ (wk [2,2,0] (fr (ZJ k fl)) (e:=(rc (rc (rr (ls:=Zd (Yt (s.kids.take k))++Zd [ZH x1]) (Z02 Z2) rz))))))))))))))))
 refine ax 0 (aD 12 (ZL 3 12 [0,1,2,3,4,5,6,7,9] [1,1,1,1] (Z8 8 (dc 8 [] [1,1,1] [b1,b1,b1] (VO s.args) ?_))))
 rintro _ _ ⟨v3,rfl,rfl⟩
 exact Zj 1 2 [10] (Z8 11 (YC 11 1 [] [] b2 [.i s.op,.i s.num,.i s.into,ZU s.args v3,.h v] (de (Z9 (r3 [3] [.agg [.i s.op,.i s.num,.i s.into,ZU s.args v3,.h v]] [0] [(b2,b2)] ⟨v,rfl,rfl⟩ (Zc.agg (.cons (lr _) (.cons (lr _) (.cons (lr _) (.cons (Zc.forget _ _) (.cons (lr _) .nil)))))) (eq:=(rr (ls:=Zd (Yt (s.kids.take k))) (by rw [WK om]) rz)))))))
theorem RU (s:Z4) (fl:Bool) (hz:s.sz<=1000000000:=by exact ob):Zi 127 [Yr s] [] (fun r h=>(∃(v:Hd),r=.agg [.i s.op,.i s.num,.i s.into,Z6 s.args,.h v]/\h=[rK v 2 (Zd (Yt s.kids))]/\fl=true)∨(r=Yr s/\h=[]/\fl=false)):=by
 cases fl with
 | true=>exact (RW s hz).mono fun r h ⟨v,hr,hh⟩=>.inl ⟨v,hr,hh,rfl⟩
 | false=>exact (OP s hz).mono fun r h ⟨hr,hh⟩=>.inr ⟨hr,hh,rfl⟩
theorem RR (b:Z5) (kk:Nat) (hz:b.sz<=1000000000:=by exact ob) (hkk:kk<b.steps.length:=by exact ob):Zi 86 [ZH b] [] (fun r h=>∃(v:Hd) (u:Hd),r=.agg [.h v,.i b.result]/\h=[rK v 5 (Wr b kk u.v b.steps.length),rK u 2 (Uw b kk b.steps.length)]):=by
 have hbz:=WU b
 refine ZC 28 Tryz.func86 (ar (iA (YS b) fun b1=>iA [nl,.i 0] fun b2=>ie (ar (BS 5 fun g1=>Z3 3 [2] (iA [nl,.i 0] fun b3=>?_)))))
 refine Zz 0 b3 [.ms g1 0 0 0,.i b.result] (ie (aq (ar (Xz (Ig (k:=2)) (Z0 1 (ie (ab 0 (ZW (fun fz gz m F h=>∃(k:Nat) (v:Hd) (u:Hd),(k<=b.steps.length)/\F=sF [1,2,3] fz [(4,.i k)]/\h=[.obj b3 [.h v,.i b.result],Zk gz 3,Zk gz 4,rK v 5 (Wr b kk u.v k),rK u 2 (Uw b kk k)]/\m=b.steps.length-k) _ _ _ ⟨0,(⟨some ⟨g1,0,none⟩,0,0⟩:Hd),hN,ob,rfl,rfl,rfl⟩ (wk [1,2,2,1,0] (Y0 fl) (e:=(rc (rc (rc (rr (ls:=[]) (by first|exact MK.symm|exact MN.symm) (rr (ls:=[]) (by first|exact MK.symm|exact MN.symm) rz))))))) ?_))))))))
 rintro m F h ⟨k,v,u,Y5,rfl,rfl,rfl⟩
 refine aq (ar (Z3 3 [2] (iw (WQ b.steps) (Z0 1 (ie (ZE ((k:Int)<(b.steps.length:Int)) (fun Zb=>?_) (fun Zb=>?_)))))))
 ·refine ak (aq (ab 1 (aE 12 (ZL 7 12 [0,1,2,3,4] [0,2] ?_))))
  obtain ⟨x1,Z2⟩:=Zs b.steps k om
  have hss:=TO Z2
  refine dx 5 (Zh none (k:Int) 5 (XW Z2)) (Zj 5 6 [6] (Z8 7 (dc 7 [] [0] [b3] (RU x1 (decide (k=kk))) ?_)))
  rintro _ _ (⟨v1,rfl,rfl,Y2⟩|⟨rfl,rfl,Yj⟩)
  ·have hke:k=kk:=of_decide_eq_true Y2
   exact DZ (Ph [1,1,1,0,0,0] (h':=[.obj b3 [.h v,.i b.result],.obj b2 [nl,.i 0],.obj b1 (YS b),rK v1 2 (Zd (Yt x1.kids)),rK v 5 (Wr b kk u.v k),rK u 2 (Uw b kk k)]) (d:=[]) kr) (Z8 8 (dL 8 [0] [b3] [.agg [.i x1.op,.i x1.num,.i x1.into,Z6 x1.args,.h v1]] 1 5 fun v2=>Yl 3 3 [] [(24,.sl [.agg [.i x1.op,.i x1.num,.i x1.into,Z6 x1.args,.h v1]] none)] (Z8 9 (Ge 9 5 k [] [] v 5 (Wr b kk u.v k) [.agg [.i x1.op,.i x1.num,.i x1.into,Z6 x1.args,.h v1]] none (Hh om) (Tb rfl) rfl (List.cons_ne_nil _ _) (by simp<;>omega) fun v3=>Zj 1 2 [10] (Z8 11 (YC 11 2 [] [] b3 [.h v3,.i b.result] (de (az (Z0 1 (ZD k (Z0 1 (ie (ZG ⟨k+1,v3,v1,ob,rfl,rfl,rfl⟩ (wk [0,2,2,0,1] (ZJ k fl) (e:=(rc (rc (rc (rr (ls:=Wr b kk u.v k++Zd [.agg [.i x1.op,.i x1.num,.i x1.into,Z6 x1.args,.h v1]]) (by first|(subst hke;exact MJ Z2)|(subst hke;exact MM Z2)) (rr (ls:=Zd (Yt x1.kids)) (by first|(subst hke;exact MJ Z2)|(subst hke;exact MM Z2)) rz))))))))))))))))))))
  have hke:¬k=kk:=of_decide_eq_false Yj
  exact Z8 8 (dL 8 [0] [b3] [Yr x1] 1 5 fun v4=>Yl 3 3 [] [(24,.sl [Yr x1] none)] (Z8 9 (Ge 9 4 k [] [] v 5 (Wr b kk u.v k) [Yr x1] none (Hh om) (Tb rfl) rfl (List.cons_ne_nil _ _) (by simp<;>omega) fun v5=>Zj 1 2 [10] (Z8 11 (YC 11 2 [] [] b3 [.h v5,.i b.result] (de (az (Z0 1 (ZD k (Z0 1 (ie (ZG ⟨k+1,v5,u,ob,rfl,rfl,rfl⟩ (wk [0,2,2,0,1] (ZJ k fl) (e:=(rc (rc (rc (rr (ls:=Wr b kk u.v k++Zd [Yr x1]) (by first|exact MI Z2 hke|exact ML hke) (rr (ls:=Uw b kk k) (by first|exact MI Z2 hke|exact ML hke) rz)))))))))))))))))))
 exact ax 0 (ar (Z3 1 [0] (Zz 1 b2 [.h v,.i b.result] (ie (Z9 (r3 [3,3] [.agg [.h v,.i b.result]] [0] [(b2,b2)] ⟨v,u,rfl,rfl⟩ (lr _) (eq:=(rr (ls:=Wr b kk u.v k) (by rw [show k=b.steps.length by omega]) (rr (ls:=Uw b kk k) (by rw [show k=b.steps.length by omega]) rz)))))))))
theorem Z27 (rd:Nat) (bs:LI) (p:Nat) (b:Z5) (ZB:∀z∈bs,0<=z/\z<=255) (hp:p+(10*b.sz)<=1000000000) (hz:b.sz<=20000000) (hg:b.rng) (h0:b.steps.length=0):Zi 53 [.p rd 0,ZH b] [Yi rd bs p] (fun r h=>∃(y:Z5) (p2:Nat),r=ZH y/\h=[Yi rd bs p2]/\Xg b y/\p<=p2/\p2<=p+(10*b.sz)):=by
 have hbp:=b.sz_pos
 refine ZC 109 Tryz.func53 (ar (iA (YS b) fun b1=>iA [nl,.i 0] fun b2=>ie (ar (Z3 1 [1] (Zx [] (Fo b) (iA [nl,.i 0] fun b3=>Zz 0 b3 (YS b) (ie (aq (ar (Z3 2 [0] (iw (WQ b.steps) (Z0 2 (ib (b:=((b.steps.length:Int)==0)) 14 (fun Zf=>?_) (fun Zf=>?_))))))))))))))
 ·refine Z0 4 (ie (WC (ar (Z0 1 (iL (Z7 [0,1,2,3,-1,99]) 6 1 fun v1=>ZM 0 [(20,Z6 [0,1,2,3,-1,99])] (ic [4] (Vq rd bs p [0,1,2,3,-1,99] (ZB:=ob)) ?_))))))
  rintro _ _ ⟨z1,rfl,rfl,Yj⟩
  exact Z0 1 (Zz 2 b3 [Wt b.steps,.i z1] (ie (ar (Z3 1 [0] (Zz 3 b2 [Wt b.steps,.i z1] (ie (Z9 (r3 [2] [.agg [Wt b.steps,.i z1]] [0] [(b2,b2)] ⟨(Z5.mk b.steps z1),p+1,rfl,rfl,⟨Xg.result hg _,by have:=b.sz_pos;omega,by have:=b.sz_pos;omega⟩⟩ (lr _)))))))))
 have YJ:¬((b.steps.length:Int)=0):=Yf Zr Zf
 exact absurd (show (b.steps.length:Int)=0 by omega) YJ
theorem Z28 (rd:Nat) (bs:LI) (p:Nat) (b:Z5) (ZB:∀z∈bs,0<=z/\z<=255) (hp:p+(10*b.sz)<=1000000000) (hz:b.sz<=20000000) (hg:b.rng) (h0:0<b.steps.length) (ih:∀(rd:Nat) (bs:LI) (p:Nat) (b2:Z5),(∀z∈bs,0<=z/\z<=255)->(p+(10*b2.sz)<=1000000000)->(b2.sz<=20000000)->(b2.rng)->(b2.sz<b.sz)->Zi 53 [.p rd 0,ZH b2] [Yi rd bs p] (fun r h=>∃(y:Z5) (p2:Nat),r=ZH y/\h=[Yi rd bs p2]/\Xg b2 y/\p<=p2/\p2<=p+(10*b2.sz))):Zi 53 [.p rd 0,ZH b] [Yi rd bs p] (fun r h=>∃(y:Z5) (p2:Nat),r=ZH y/\h=[Yi rd bs p2]/\Xg b y/\p<=p2/\p2<=p+(10*b.sz)):=by
 have hbp:=b.sz_pos
 obtain ⟨kk,hkk⟩:∃kk,kk=(JF bs (p+1) (b.steps.length:Int)).toNat:=⟨_,rfl⟩
 have hkl:kk<b.steps.length:=by have:=Z6n (bs:=bs) (p:=p+1) (mx:=(b.steps.length:Int)) om;omega
 obtain ⟨sk,hsk⟩:=Zs b.steps kk hkl
 have hsb:=TO hsk
 have hsg:=Z7s hg hsk
 have hst:=WU b
 refine ZC 109 Tryz.func53 (ar (iA (YS b) fun b1=>iA [nl,.i 0] fun b2=>ie (ar (Z3 1 [1] (ic [] (RR b kk) ?_)))))
 rintro _ _ ⟨v1,u1,rfl,rfl⟩
 refine Ex 0 b.steps.length (v:=v1) (Hh (kk:=kk) (u:=u1.v) (YT b.steps.length)) om (fun g1 c1 he1=>?_)
 subst he1
 refine Xz (Ph [0,1,1,1,0] (h':=[.row (.slice (some ⟨g1,0,none⟩) b.steps.length c1) 5 (Wr b kk u1.v b.steps.length),.obj b2 [nl,.i 0],.obj b1 (YS b),Yi rd bs p,rK u1 2 (Uw b kk b.steps.length)]) (d:=[]) kr) (iA [nl,.i 0] fun b3=>Zz 0 b3 [.ms g1 0 b.steps.length c1,.i b.result] (ie (aq (ar (Z3 2 [0] (io (.i b.steps.length) (.i b.steps.length) (lr _) (Z0 2 (ib (b:=((b.steps.length:Int)==0)) 14 (fun Zf=>?_) (fun Zf=>?_)))))))))
 ·have Y2:(b.steps.length:Int)=0:=(Zr).1 Zf
  exact absurd Y2 om
 have Yj:¬((b.steps.length:Int)=0):=Yf Zr Zf
 refine Z0 1 (ic [4] (XG rd bs p 5 (ZB:=ob)) ?_)
 rintro _ _ ⟨k1,rfl,rfl,YJ⟩
 refine Z0 2 (ie (ac (k1==0) Zr (fun Zb=>?_) (fun Zb=>?_)))
 ·refine ar (Xz (Ic 5 2 b kk sk u1.v (.slice (some ⟨g1,0,none⟩) b.steps.length c1) hsk) (Xz (UD 0 2 0 (.slice (some ⟨g1,0,none⟩) b.steps.length c1) 5 b3 (Zu b.steps) [.ms g1 0 b.steps.length c1,.i b.result] (YW _) rfl) (Z0 1 (iL (Z7 [0,1,2,3,-1,99]) 6 1 fun v2=>ZM 0 [(20,Z6 [0,1,2,3,-1,99])] (ic [4] (Vq rd bs (p+1) [0,1,2,3,-1,99] (ZB:=ob)) ?_)))))
  rintro _ _ ⟨z1,rfl,rfl,YR⟩
  exact Z0 1 (Zz 2 b3 [YH b.steps (.slice (some ⟨g1,0,none⟩) b.steps.length c1),.i z1] (ie (ar (Z3 1 [0] (Zz 5 b2 [YH b.steps (.slice (some ⟨g1,0,none⟩) b.steps.length c1),.i z1] (ie (Z9 (r3 [2] [.agg [YH b.steps (.slice (some ⟨g1,0,none⟩) b.steps.length c1),.i z1]] [0] [(b2,b2)] ⟨(Z5.mk b.steps z1),(p+1)+1,rfl,rfl,(by first|exact ⟨Xg.result hg _,by omega,by omega⟩|exact ⟨Xg.kid hg hsk hck hyb.1,by omega,by omega⟩|exact ⟨Xg.del hg,by omega,by omega⟩|exact ⟨Xg.put hg,by omega,by omega⟩|exact ⟨Xg.set hg hsk ⟨by have:=hys.1.1;omega,hys.1.2⟩,by omega,by omega⟩)⟩ (Zc.agg (.cons (Zc.forget _ _) (.cons (lr _) .nil)))))))))))
 refine ak (ar (Z3 3 [1] (io (.i b.steps.length) (.i b.steps.length) (lr _) (ic [0] (Z20 rd bs (p+1) b.steps.length (ZB:=ob)) ?_))))
 rintro _ _ ⟨Yu,rfl,rfl,X6⟩
 have hkn:Yu=kk:=by have:=X6.2;omega
 refine Z0 1 (ie (aq (ar (Z3 3 [1] (Zo (XH g1 b.steps.length c1 Yu 5 (Yu:Int)) (Z0 1 (VE (WF 2 g1 b.steps.length c1 5 (Yu*5+4) (Wr b kk u1.v b.steps.length) [.h u1] 42 (.h u1) (by rw [hkn];exact EI hsk)) (Zo (MG 5 sk.kids.length u1 2 (Uw b kk b.steps.length) (by rw [Hk hsk];exact CH _)) (Z0 2 (ib (b:=(decide ((sk.kids.length:Int)>0))) 37 (fun ZF=>?_) (fun ZF=>?_)))))))))))
 ·have XS:(sk.kids.length:Int)>0:=(dq).1 ZF
  refine Z0 1 (ic [0] (XG rd bs ((p+1)+1) 3 (ZB:=ob)) ?_)
  rintro _ _ ⟨k2,rfl,rfl,Wq⟩
  refine Z0 2 (ie (ZE (k2>0) (fun Zg=>?_) (fun Zg=>?_)))
  ·refine ar (Xz (Cd 5 u1.v 2 (Uw b kk b.steps.length) (Zd (Yt sk.kids)) (Hk hsk)) (Ex 0 sk.kids.length (v:=u1) (CH _) om (fun g2 c2 he2=>?_)))
   subst he2
   refine Z3 4 [2] (Zo (XH g1 b.steps.length c1 Yu 5 (Yu:Int)) (Z0 1 (VE (WF 3 g1 b.steps.length c1 5 (Yu*5+4) (Wr b kk (.slice (some ⟨g2,0,none⟩) sk.kids.length c2) b.steps.length) [.ms g2 0 sk.kids.length c2] 42 (.ms g2 0 sk.kids.length c2) (by rw [hkn];exact EI hsk)) (io (.i sk.kids.length) (.i sk.kids.length) (lr _) (ic [1] (KP rd bs (((p+1)+1)+1) sk.kids.length (ZB:=ob)) ?_)))))
   rintro _ _ ⟨YP,rfl,rfl,V6⟩
   obtain ⟨ck,hck⟩:=Zs sk.kids YP om
   have hckz:=U3 hck
   have hckb:=TO hsk
   have hckg:=Z7p hg hsk hck
   refine Z0 1 (ie (aD 20 (ZL 17 20 [0,1,2] [2] (dx 3 (XH g1 b.steps.length c1 Yu 5 (Yu:Int)) (Zj 15 16 [4] (VJ 5 (WF 3 g1 b.steps.length c1 5 (Yu*5+4) (Wr b kk (.slice (some ⟨g2,0,none⟩) sk.kids.length c2) b.steps.length) [.ms g2 0 sk.kids.length c2] 42 (.ms g2 0 sk.kids.length c2) (by rw [hkn];exact EI hsk)) (ZL 9 14 [6,7,8,9,10] [2] (dx 11 (XH g1 b.steps.length c1 Yu 5 (Yu:Int)) (Zj 7 8 [12] (VJ 13 (WF 3 g1 b.steps.length c1 5 (Yu*5+4) (Wr b kk (.slice (some ⟨g2,0,none⟩) sk.kids.length c2) b.steps.length) [.ms g2 0 sk.kids.length c2] 42 (.ms g2 0 sk.kids.length c2) (by rw [hkn];exact EI hsk)) (Zj 5 6 [14] (dx 15 (XH g2 sk.kids.length c2 YP 2 (YP:Int)) (VJ 16 (WF 1 g2 sk.kids.length c2 2 (YP*2) (Zd (Yt sk.kids)) (YS ck) 30 (ZH ck) (Z01 hck)) (Z8 17 (dc 17 [0] [2,1] [g1,b3] (ih rd bs ((((p+1)+1)+1)+1) ck ob ob ob ob ob) ?_)))))))))))))))
   rintro _ _ ⟨y1,p21,rfl,rfl,Ve⟩
   have hyb:=Ve
   exact dx 18 (XH g2 sk.kids.length c2 YP 2 (YP:Int)) (Z8 19 (A5 19 1 [] [] g2 sk.kids.length c2 2 (YP*2) (YS y1) (Zd (Yt sk.kids)) (Zd (Yt (sk.kids.set YP y1))) (by rw [CH];simp only [YL,Xb];omega) (Z03 y1 om) (de (ar (Xz (Pe 0 2 b kk sk (sk.kids.set YP y1) (.slice (some ⟨g2,0,none⟩) sk.kids.length c2) (.slice (some ⟨g1,0,none⟩) b.steps.length c1) hsk) (Xz (UD 0 2 0 (.slice (some ⟨g1,0,none⟩) b.steps.length c1) 5 b3 (Zu (b.steps.set kk (Z4.mk sk.op sk.num sk.into sk.args (sk.kids.set YP y1)))) [.ms g1 0 b.steps.length c1,.i b.result] (YW _) rfl) (Z3 1 [0] (Zz 4 b2 [YH (b.steps.set kk (Z4.mk sk.op sk.num sk.into sk.args (sk.kids.set YP y1))) (.slice (some ⟨g1,0,none⟩) b.steps.length c1),.i b.result] (ie (Z9 (r3 [4] [.agg [YH (b.steps.set kk (Z4.mk sk.op sk.num sk.into sk.args (sk.kids.set YP y1))) (.slice (some ⟨g1,0,none⟩) b.steps.length c1),.i b.result]] [0] [(b2,b2)] ⟨(Z5.mk (b.steps.set kk (Z4.mk sk.op sk.num sk.into sk.args (sk.kids.set YP y1))) b.result),p21,rfl,rfl,(by first|exact ⟨Xg.result hg _,by omega,by omega⟩|exact ⟨Xg.kid hg hsk hck hyb.1,by omega,by omega⟩|exact ⟨Xg.del hg,by omega,by omega⟩|exact ⟨Xg.put hg,by omega,by omega⟩|exact ⟨Xg.set hg hsk ⟨by have:=hys.1.1;omega,hys.1.2⟩,by omega,by omega⟩)⟩ (Zc.agg (.cons (Zc.forget _ _) (.cons (lr _) .nil))))))))))))))
  refine ak (aq (ar (Xz (Ic 5 2 b kk sk u1.v (.slice (some ⟨g1,0,none⟩) b.steps.length c1) hsk) (Z0 1 (ic [2] (XG rd bs (((p+1)+1)+1) 4 (ZB:=ob)) ?_)))))
  rintro _ _ ⟨k3,rfl,rfl,UK⟩
  refine ie (ab 0 (ar (Z0 2 (ie (ac (k3==0) Zr (fun Zy=>?_) (fun Zy=>?_))))))
  ·exact aE 12 (ZL 9 12 [0,1,2] [3] (dx 3 (Hc 1 g1 b.steps.length c1 Yu 5 (Zd (Zu b.steps))) (ZL 5 8 [4,5,6] [3] (da 7 (((Yu+1:Nat):Int)) (((Yu:Int))+(1)) (dx 8 (ME 1 g1 b.steps.length c1 (Yu+1) 5 (Zd (Zu b.steps))) (Z8 9 (Lg 9 1 [] [] g1 b.steps.length c1 Yu (Yu+1) 5 (Zd (Zu b.steps)) (Vp _) (Zj 1 2 [10] (Z8 11 (YC 11 3 [] [] b3 [.ms g1 0 (Yu+(b.steps.length-(Yu+1))) c1,.i b.result] (de (ar (Xz (Cd 1 (.slice (some ⟨g1,0,none⟩) (Yu+(b.steps.length-(Yu+1))) c1) 5 (((Zd (Zu b.steps)).take (Yu*5))++((Zd (Zu b.steps)).drop ((Yu+1)*5))) (Zd (Zu (b.steps.take kk++b.steps.drop (kk+1)))) (by rw [hkn];exact LN hkl)) (Xz (UD 0 0 0 (.slice (some ⟨g1,0,none⟩) (Yu+(b.steps.length-(Yu+1))) c1) 5 b3 (Zu (b.steps.take kk++b.steps.drop (kk+1))) [.ms g1 0 (Yu+(b.steps.length-(Yu+1))) c1,.i b.result] (YW _) rfl) (Z3 1 [0] (Zz 4 b2 [YH (b.steps.take kk++b.steps.drop (kk+1)) (.slice (some ⟨g1,0,none⟩) (Yu+(b.steps.length-(Yu+1))) c1),.i b.result] (ie (Z9 (r3 [3] [.agg [YH (b.steps.take kk++b.steps.drop (kk+1)) (.slice (some ⟨g1,0,none⟩) (Yu+(b.steps.length-(Yu+1))) c1),.i b.result]] [0] [(b2,b2)] ⟨(Z5.mk (b.steps.take kk++b.steps.drop (kk+1)) b.result),(((p+1)+1)+1)+1,rfl,rfl,(by first|exact ⟨Xg.result hg _,by omega,by omega⟩|exact ⟨Xg.kid hg hsk hck hyb.1,by omega,by omega⟩|exact ⟨Xg.del hg,by omega,by omega⟩|exact ⟨Xg.put hg,by omega,by omega⟩|exact ⟨Xg.set hg hsk ⟨by have:=hys.1.1;omega,hys.1.2⟩,by omega,by omega⟩)⟩ (Zc.agg (.cons (Zc.forget _ _) (.cons (lr _) .nil))))))))))))))))))))))
  refine ar (Z0 2 (ie (ac (k3==1) Zr (fun Y9=>?_) (fun Y9=>?_))))
  ·refine aD 10 (DZ (UD 1 2 0 (.slice (some ⟨g1,0,none⟩) b.steps.length c1) 5 b3 (Zu b.steps) [.ms g1 0 b.steps.length c1,.i b.result] (YW _) rfl) (ZL 6 10 [0,1,2,5] [0] (Z8 3 (dL 3 [0] [b3] (Z7 [14,15,15,16,17]) 5 1 fun v3=>Yl 5 5 [] [(102,Z6 [14,15,15,16,17])] (Z8 4 (dc 4 [3] [0] [b3] (Vq rd bs ((((p+1)+1)+1)+1) [14,15,15,16,17] (ZB:=ob)) ?_))))))
   rintro _ _ ⟨z2,rfl,rfl,UY⟩
   refine Z8 6 (dc 6 [0] [0] [b3] (XG rd bs (((((p+1)+1)+1)+1)+1) 4 (ZB:=ob)) ?_)
   rintro _ _ ⟨k4,rfl,rfl,Uv⟩
   exact Z8 7 (Yg 7 [] [1] [b3] (J1 z2 k4) (Yl 2 2 [] [(99,ZH b)] (Z8 8 (Yg 8 [] [] [] (Ek b Yu (Zv z2 k4)) (Z8 9 (YC 9 5 [] [] b2 (YS (Z5.mk (W7 b.steps Yu (Zv z2 k4)) b.result)) (de (Z9 (r3 [1] [ZH (Z5.mk (W7 b.steps Yu (Zv z2 k4)) b.result)] [0] [(b2,b2)] ⟨(Z5.mk (W7 b.steps Yu (Zv z2 k4)) b.result),(((((p+1)+1)+1)+1)+1)+1,rfl,rfl,(by first|exact ⟨Xg.result hg _,by omega,by omega⟩|exact ⟨Xg.kid hg hsk hck hyb.1,by omega,by omega⟩|exact ⟨Xg.del hg,by omega,by omega⟩|exact ⟨Xg.put hg,by omega,by omega⟩|exact ⟨Xg.set hg hsk ⟨by have:=hys.1.1;omega,hys.1.2⟩,by omega,by omega⟩)⟩ (lr _))))))))))
  refine aE 12 (ZL 5 12 [0,1,2,3,4,5,6] [3,3] (dx 7 (XH g1 b.steps.length c1 Yu 5 (Yu:Int)) (VJ 8 (WF 1 g1 b.steps.length c1 5 (Yu*5) (Zd (Zu b.steps)) (X7 sk) 44 (Yr sk) (by rw [hkn];exact GK hsk)) (Z8 9 (dc 9 [0] [1] [b3] (Mg rd bs ((((p+1)+1)+1)+1) sk (ZB:=ob)) ?_)))))
  rintro _ _ ⟨y2,p22,rfl,rfl,TI⟩
  have hys:=TI
  exact dx 10 (XH g1 b.steps.length c1 Yu 5 (Yu:Int)) (Z8 11 (A5 11 1 [] [] g1 b.steps.length c1 5 (Yu*5) (X7 y2) (Zd (Zu b.steps)) (Zd (Zu (b.steps.set kk y2))) (by rw [TZ];simp only [YL,Xb];omega) (by rw [hkn];exact Ef hsk) (de (ar (Xz (UD 0 2 0 (.slice (some ⟨g1,0,none⟩) b.steps.length c1) 5 b3 (Zu (b.steps.set kk y2)) [.ms g1 0 b.steps.length c1,.i b.result] (YW _) rfl) (Z3 1 [0] (Zz 4 b2 [YH (b.steps.set kk y2) (.slice (some ⟨g1,0,none⟩) b.steps.length c1),.i b.result] (ie (Z9 (r3 [3] [.agg [YH (b.steps.set kk y2) (.slice (some ⟨g1,0,none⟩) b.steps.length c1),.i b.result]] [0] [(b2,b2)] ⟨(Z5.mk (b.steps.set kk y2) b.result),p22,rfl,rfl,(by first|exact ⟨Xg.result hg _,by omega,by omega⟩|exact ⟨Xg.kid hg hsk hck hyb.1,by omega,by omega⟩|exact ⟨Xg.del hg,by omega,by omega⟩|exact ⟨Xg.put hg,by omega,by omega⟩|exact ⟨Xg.set hg hsk ⟨by have:=hys.1.1;omega,hys.1.2⟩,by omega,by omega⟩)⟩ (Zc.agg (.cons (Zc.forget _ _) (.cons (lr _) .nil)))))))))))))
 have Tt:¬((sk.kids.length:Int)>0):=Yf dq ZF
 refine Z0 4 (ie (WB (ak (aq (ar (Xz (Ic 5 2 b kk sk u1.v (.slice (some ⟨g1,0,none⟩) b.steps.length c1) hsk) (Z0 1 (ic [2] (XG rd bs ((p+1)+1) 4 (ZB:=ob)) ?_))))))))
 rintro _ _ ⟨k5,rfl,rfl,QM⟩
 refine ie (ab 0 (ar (Z0 2 (ie (ac (k5==0) Zr (fun X0=>?_) (fun X0=>?_))))))
 ·exact aE 12 (ZL 9 12 [0,1,2] [3] (dx 3 (Hc 1 g1 b.steps.length c1 Yu 5 (Zd (Zu b.steps))) (ZL 5 8 [4,5,6] [3] (da 7 (((Yu+1:Nat):Int)) (((Yu:Int))+(1)) (dx 8 (ME 1 g1 b.steps.length c1 (Yu+1) 5 (Zd (Zu b.steps))) (Z8 9 (Lg 9 1 [] [] g1 b.steps.length c1 Yu (Yu+1) 5 (Zd (Zu b.steps)) (Vp _) (Zj 1 2 [10] (Z8 11 (YC 11 3 [] [] b3 [.ms g1 0 (Yu+(b.steps.length-(Yu+1))) c1,.i b.result] (de (ar (Xz (Cd 1 (.slice (some ⟨g1,0,none⟩) (Yu+(b.steps.length-(Yu+1))) c1) 5 (((Zd (Zu b.steps)).take (Yu*5))++((Zd (Zu b.steps)).drop ((Yu+1)*5))) (Zd (Zu (b.steps.take kk++b.steps.drop (kk+1)))) (by rw [hkn];exact LN hkl)) (Xz (UD 0 0 0 (.slice (some ⟨g1,0,none⟩) (Yu+(b.steps.length-(Yu+1))) c1) 5 b3 (Zu (b.steps.take kk++b.steps.drop (kk+1))) [.ms g1 0 (Yu+(b.steps.length-(Yu+1))) c1,.i b.result] (YW _) rfl) (Z3 1 [0] (Zz 4 b2 [YH (b.steps.take kk++b.steps.drop (kk+1)) (.slice (some ⟨g1,0,none⟩) (Yu+(b.steps.length-(Yu+1))) c1),.i b.result] (ie (Z9 (r3 [3] [.agg [YH (b.steps.take kk++b.steps.drop (kk+1)) (.slice (some ⟨g1,0,none⟩) (Yu+(b.steps.length-(Yu+1))) c1),.i b.result]] [0] [(b2,b2)] ⟨(Z5.mk (b.steps.take kk++b.steps.drop (kk+1)) b.result),((p+1)+1)+1,rfl,rfl,(by first|exact ⟨Xg.result hg _,by omega,by omega⟩|exact ⟨Xg.kid hg hsk hck hyb.1,by omega,by omega⟩|exact ⟨Xg.del hg,by omega,by omega⟩|exact ⟨Xg.put hg,by omega,by omega⟩|exact ⟨Xg.set hg hsk ⟨by have:=hys.1.1;omega,hys.1.2⟩,by omega,by omega⟩)⟩ (Zc.agg (.cons (Zc.forget _ _) (.cons (lr _) .nil))))))))))))))))))))))
 refine ar (Z0 2 (ie (ac (k5==1) Zr (fun X9=>?_) (fun X9=>?_))))
 ·refine aD 10 (DZ (UD 1 2 0 (.slice (some ⟨g1,0,none⟩) b.steps.length c1) 5 b3 (Zu b.steps) [.ms g1 0 b.steps.length c1,.i b.result] (YW _) rfl) (ZL 6 10 [0,1,2,5] [0] (Z8 3 (dL 3 [0] [b3] (Z7 [14,15,15,16,17]) 5 1 fun v4=>Yl 5 5 [] [(102,Z6 [14,15,15,16,17])] (Z8 4 (dc 4 [3] [0] [b3] (Vq rd bs (((p+1)+1)+1) [14,15,15,16,17] (ZB:=ob)) ?_))))))
  rintro _ _ ⟨z3,rfl,rfl,QN⟩
  refine Z8 6 (dc 6 [0] [0] [b3] (XG rd bs ((((p+1)+1)+1)+1) 4 (ZB:=ob)) ?_)
  rintro _ _ ⟨k6,rfl,rfl,Af⟩
  exact Z8 7 (Yg 7 [] [1] [b3] (J1 z3 k6) (Yl 2 2 [] [(99,ZH b)] (Z8 8 (Yg 8 [] [] [] (Ek b Yu (Zv z3 k6)) (Z8 9 (YC 9 5 [] [] b2 (YS (Z5.mk (W7 b.steps Yu (Zv z3 k6)) b.result)) (de (Z9 (r3 [1] [ZH (Z5.mk (W7 b.steps Yu (Zv z3 k6)) b.result)] [0] [(b2,b2)] ⟨(Z5.mk (W7 b.steps Yu (Zv z3 k6)) b.result),((((p+1)+1)+1)+1)+1,rfl,rfl,(by first|exact ⟨Xg.result hg _,by omega,by omega⟩|exact ⟨Xg.kid hg hsk hck hyb.1,by omega,by omega⟩|exact ⟨Xg.del hg,by omega,by omega⟩|exact ⟨Xg.put hg,by omega,by omega⟩|exact ⟨Xg.set hg hsk ⟨by have:=hys.1.1;omega,hys.1.2⟩,by omega,by omega⟩)⟩ (lr _))))))))))
 refine aE 12 (ZL 5 12 [0,1,2,3,4,5,6] [3,3] (dx 7 (XH g1 b.steps.length c1 Yu 5 (Yu:Int)) (VJ 8 (WF 1 g1 b.steps.length c1 5 (Yu*5) (Zd (Zu b.steps)) (X7 sk) 44 (Yr sk) (by rw [hkn];exact GK hsk)) (Z8 9 (dc 9 [0] [1] [b3] (Mg rd bs (((p+1)+1)+1) sk (ZB:=ob)) ?_)))))
 rintro _ _ ⟨y3,p23,rfl,rfl,Kf⟩
 have hys:=Kf
 exact dx 10 (XH g1 b.steps.length c1 Yu 5 (Yu:Int)) (Z8 11 (A5 11 1 [] [] g1 b.steps.length c1 5 (Yu*5) (X7 y3) (Zd (Zu b.steps)) (Zd (Zu (b.steps.set kk y3))) (by rw [TZ];simp only [YL,Xb];omega) (by rw [hkn];exact Ef hsk) (de (ar (Xz (UD 0 2 0 (.slice (some ⟨g1,0,none⟩) b.steps.length c1) 5 b3 (Zu (b.steps.set kk y3)) [.ms g1 0 b.steps.length c1,.i b.result] (YW _) rfl) (Z3 1 [0] (Zz 4 b2 [YH (b.steps.set kk y3) (.slice (some ⟨g1,0,none⟩) b.steps.length c1),.i b.result] (ie (Z9 (r3 [3] [.agg [YH (b.steps.set kk y3) (.slice (some ⟨g1,0,none⟩) b.steps.length c1),.i b.result]] [0] [(b2,b2)] ⟨(Z5.mk (b.steps.set kk y3) b.result),p23,rfl,rfl,(by first|exact ⟨Xg.result hg _,by omega,by omega⟩|exact ⟨Xg.kid hg hsk hck hyb.1,by omega,by omega⟩|exact ⟨Xg.del hg,by omega,by omega⟩|exact ⟨Xg.put hg,by omega,by omega⟩|exact ⟨Xg.set hg hsk ⟨by have:=hys.1.1;omega,hys.1.2⟩,by omega,by omega⟩)⟩ (Zc.agg (.cons (Zc.forget _ _) (.cons (lr _) .nil)))))))))))))
theorem Z26 (rd:Nat) (bs:LI) (p:Nat) (b:Z5) (ZB:∀z∈bs,0<=z/\z<=255) (hp:p+10*b.sz<=1000000000:=by exact ob) (hz:b.sz<=20000000:=by exact ob) (hg:b.rng:=by exact ob):Zi 53 [.p rd 0,ZH b] [Yi rd bs p] (fun r h=>∃(y:Z5) (p2:Nat),r=ZH y/\h=[Yi rd bs p2]/\Xg b y/\p<=p2/\p2<=p+(10*b.sz)):=by
 have key:∀k:Nat,∀(rd:Nat) (bs:LI) (p:Nat) (b2:Z5),(∀z∈bs,0<=z/\z<=255)->(p+(10*b2.sz)<=1000000000)->(b2.sz<=20000000)->(b2.rng)->(b2.sz<k)->Zi 53 [.p rd 0,ZH b2] [Yi rd bs p] (fun r h=>∃(y:Z5) (p2:Nat),r=ZH y/\h=[Yi rd bs p2]/\Xg b2 y/\p<=p2/\p2<=p+(10*b2.sz)):=by
  intro k
  induction k with
  | zero=>intro rd bs p b2 h1 h2 h3 h4 h5;omega
  | succ k ih=>
   intro rd bs p b2 h1 h2 h3 h4 h5
   by_cases h0:b2.steps.length=0
   ·exact Z27 rd bs p b2 h1 h2 h3 h4 h0
   ·exact Z28 rd bs p b2 h1 h2 h3 h4 om fun rd bs p b3 q1 q2 q3 q4 q5=>ih rd bs p b3 q1 q2 q3 q4 om
 exact key (b.sz+1) rd bs p b ZB hp hz hg om
theorem GW (rd:Nat) (bs:LI) (p:Nat) (n:Zt) (often:Nat) (q:Nat) (l:Nat) (ZB:∀z∈bs,0<=z/\z<=255) (hp:p+(10*q+20)<=1000000000:=by exact ob) (hzn:ZS n q l:=by exact ob) (hq:q<=9999000:=by exact ob) (hl:l<=100:=by exact ob) (ho:0<often:=by exact ob):Zi 61 [.p rd 0,Y8 n,.i often] [Yi rd bs p] (fun r h=>∃(n2:Zt) (p2:Nat),r=Y8 n2/\h=[Yi rd bs p2]/\ZS n2 (q+2) (l+1)/\p<=p2/\p2<=p+(10*q+20)):=by
 have hnl:=hzn.len
 refine ZC 64 Tryz.func61 (ar (iA (Yz n) fun b1=>iA [nl,nl] fun b2=>ie (aq (ar (Z0 2 (ic [2] (KP rd bs p often (ZB:=ob)) ?_))))))
 rintro _ _ ⟨Yu,rfl,rfl,Y2⟩
 refine Z0 1 (ie (ZE ((Yu:Int)>0) (fun Zb=>?_) (fun Zb=>?_)))
 ·exact ar (Z3 1 [2] (Zz 1 b2 (Yz n) (ie (Z9 (r3 [1] [Y8 n] [0] [(b2,b2)] ⟨n,p+1,rfl,rfl,(by first|exact ⟨hzn.le om om,by omega,by omega⟩|exact ⟨hzn.set hx1k om om om om hz1.2.2.2,by omega,by omega⟩|exact ⟨(hzn.le om om).ds had.1,by omega,by omega⟩|exact ⟨hzn.set hx2k om om om (by have:=hsb.1.1;omega) hsb.1.2,by omega,by omega⟩)⟩ (lr _))))))
 refine ak (ar (Z3 3 [2] (iw (Vo n.routines) (ic [0] (KP rd bs (p+1) n.routines.length (ZB:=ob)) ?_))))
 rintro _ _ ⟨YP,rfl,rfl,Yj⟩
 refine Z0 1 (ie (aq (ar (Z0 1 (ic [0] (XG rd bs ((p+1)+1) 8 (ZB:=ob)) ?_)))))
 rintro _ _ ⟨k1,rfl,rfl,YJ⟩
 refine ie (ab 0 (ar (Z0 2 (ie (ac (k1==0) Zr (fun Zg=>?_) (fun Zg=>?_))))))
 ·refine aD 11 (ZL 6 11 [0,1,2,3,4] [2,2] ?_)
  obtain ⟨x1,Z2⟩:=Zs n.routines YP om
  have hx1k:=Z2
  have hz1:=hzn.rt _ (ZY Z2)
  refine dx 5 (Zh none (YP:Int) 5 (Wi Z2)) (Zj 3 5 [6,7] (Ka (fun fz gz F h=>∃(g1:Nat) (c1:Nat) (b3:Nat),F=sF [0,6,7] fz [(8,.p b3 0)]/\h=[.obj b3 [Ya n.decls,.ms g1 0 n.routines.length c1],.row (.slice (some ⟨g1,0,none⟩) n.routines.length c1) 5 (Zd (Yw (n.routines.set YP (ZZ.mk x1.params x1.lent x1.result x1.body)))),Zk gz 0,Zk gz 1,Zk gz 2]) ?_ ?_))
  ·refine V9 8 9 ?_ ?_
   ·refine dc 8 [] [] [] (GX n YP x1.body x1 (hr:=Z2)) ?_
    rintro _ _ ⟨g1,c1,rfl,rfl⟩
    exact Z8 9 (dA 9 [] [] [nl,nl] fun b3=>Z8 10 (YC 10 0 [] [] b3 [Ya n.decls,.ms g1 0 n.routines.length c1] (de (ZO ⟨g1,c1,b3,rfl,rfl⟩ (ZK 5 fl)))))
   refine dA 9 [2,2] [b1,b1] [nl,nl] fun b4=>Z8 8 (dc 8 [] [] [] (GX n YP x1.body x1 (hr:=Z2)) ?_)
   rintro _ _ ⟨g2,c2,rfl,rfl⟩
   exact Z8 10 (YC 10 1 [] [] b4 [Ya n.decls,.ms g2 0 n.routines.length c2] (de (ZO ⟨g2,c2,b4,rfl,rfl⟩ (ZK 5 fl))))
  rintro F h ⟨g1,c1,b3,rfl,rfl⟩
  refine aD 14 (ZL 7 14 [0,1,2,3,4,5,6] [0,0] (dx 7 (XH g1 n.routines.length c1 YP 5 (YP:Int)) (Zj 5 6 [8] (VJ 9 (WF 1 g1 n.routines.length c1 5 (YP*5+1) (Zd (Yw (n.routines.set YP (ZZ.mk x1.params x1.lent x1.result x1.body)))) [Z6 x1.lent] 27 (Z6 x1.lent) (Z08 om _)) (Z8 10 (dc 10 [2] [0] [b3] (Z29 rd bs (((p+1)+1)+1) x1.lent (ZB:=ob)) ?_))))))
  rintro _ _ ⟨zs1,p21,rfl,rfl,YR⟩
  have hsi:=YR
  exact dx 11 (XH g1 n.routines.length c1 YP 5 (YP:Int)) (Zj 1 2 [12] (Z8 13 (A5 13 2 [] [] g1 n.routines.length c1 5 (YP*5+1) [Z6 zs1] (Zd (Yw (n.routines.set YP (ZZ.mk x1.params x1.lent x1.result x1.body)))) (Zd (Yw (n.routines.set YP (ZZ.mk x1.params zs1 x1.result x1.body)))) (by rw [Ed,T1];simp only [YL,Xb];omega) (Z0a om _ _) (de (ar (Xz (UD 0 1 1 (.slice (some ⟨g1,0,none⟩) n.routines.length c1) 5 b3 (Yw (n.routines.set YP (ZZ.mk x1.params zs1 x1.result x1.body))) [Ya n.decls,.ms g1 0 n.routines.length c1] (VR _) rfl) (Z3 1 [0] (Zz 3 b2 [Ya n.decls,XZ (n.routines.set YP (ZZ.mk x1.params zs1 x1.result x1.body)) (.slice (some ⟨g1,0,none⟩) n.routines.length c1)] (ie (Z9 (r3 [3] [.agg [Ya n.decls,XZ (n.routines.set YP (ZZ.mk x1.params zs1 x1.result x1.body)) (.slice (some ⟨g1,0,none⟩) n.routines.length c1)]] [0] [(b2,b2)] ⟨(Zt.mk n.decls (n.routines.set YP (ZZ.mk x1.params zs1 x1.result x1.body))),p21,rfl,rfl,(by first|exact ⟨hzn.le om om,by omega,by omega⟩|exact ⟨hzn.set hx1k om om om om hz1.2.2.2,by omega,by omega⟩|exact ⟨(hzn.le om om).ds had.1,by omega,by omega⟩|exact ⟨hzn.set hx2k om om om (by have:=hsb.1.1;omega) hsb.1.2,by omega,by omega⟩)⟩ (Zc.agg (.cons (lr _) (.cons (Zc.forget _ _) .nil))))))))))))))
 refine ar (Z0 2 (ie (ac (k1==1) Zr (fun Zy=>?_) (fun Zy=>?_))))
 ·refine aD 6 (ZL 3 6 [0,2,3] [2] (Z8 1 (dc 1 [0] [1] [b1] (Z0i rd bs (((p+1)+1)+1) (ZB:=ob)) ?_)))
  rintro _ _ ⟨dz1,p22,rfl,rfl,X6⟩
  have had:=X6
  exact Zj 1 2 [4] (Z8 5 (YC 5 1 [] [] b2 [Ya dz1,Q6 n.routines] (de (Z9 (r3 [1] [.agg [Ya dz1,Q6 n.routines]] [0] [(b2,b2)] ⟨(Zt.mk dz1 n.routines),p22,rfl,rfl,(by first|exact ⟨hzn.le om om,by omega,by omega⟩|exact ⟨hzn.set hx1k om om om om hz1.2.2.2,by omega,by omega⟩|exact ⟨(hzn.le om om).ds had.1,by omega,by omega⟩|exact ⟨hzn.set hx2k om om om (by have:=hsb.1.1;omega) hsb.1.2,by omega,by omega⟩)⟩ (lr _))))))
 refine ak (aD 12 (ZL 6 12 [0,1,2,3,4,5] [2,2] ?_))
 obtain ⟨x2,Zp⟩:=Zs n.routines YP om
 have hx2k:=Zp
 have hz2:=hzn.rt _ (ZY Zp)
 refine dx 6 (Zh none (YP:Int) 5 (Wi Zp)) (Zj 3 5 [7,8] (Z8 9 (dc 9 [0] [1] [b1] (Z26 rd bs (((p+1)+1)+1) x2.body (ZB:=ob) (hg:=hz2.2.2.2)) ?_)))
 rintro _ _ ⟨y1,p23,rfl,rfl,XS⟩
 have hsb:=XS
 exact Z8 10 (Yg 10 [] [] [] (Mh n YP y1 x2 (hr:=Zp)) (Z8 11 (YC 11 1 [] [] b2 (Yz (withR n YP x2 y1)) (de (Z9 (r3 [1] [Y8 (withR n YP x2 y1)] [0] [(b2,b2)] ⟨(withR n YP x2 y1),p23,rfl,rfl,(by first|exact ⟨hzn.le om om,by omega,by omega⟩|exact ⟨hzn.set hx1k om om om om hz1.2.2.2,by omega,by omega⟩|exact ⟨(hzn.le om om).ds had.1,by omega,by omega⟩|exact ⟨hzn.set hx2k om om om (by have:=hsb.1.1;omega) hsb.1.2,by omega,by omega⟩)⟩ (lr _)))))))
theorem M2 (rd:Nat) (bs:LI) (p:Nat) (ZB:∀z∈bs,0<=z/\z<=255) (hp:p+73706400<=1000000000:=by exact ob):Zi 49 [.p rd 0] [Yi rd bs p] (fun r h=>∃(n2:Zt) (p2:Nat),r=Y8 n2/\h=[Yi rd bs p2]/\ZS n2 7330632 11/\p<=p2/\p2<=p+73706400):=by
 refine ZC 14 Tryz.func49 (ar (iA [nl,nl] fun b1=>ie (aq (ar (Z0 1 (ic [1] (XG rd bs p 4 (ZB:=ob)) ?_))))))
 rintro _ _ ⟨k1,rfl,rfl,Y2⟩
 refine Z0 1 (ie (ac (k1==0) Zr (fun Zb=>?_) (fun Zb=>?_)))
 ·refine ar (Z0 2 (ic [0] (GV rd bs (p+1) (ZB:=ob)) ?_))
  rintro _ _ ⟨n1,p21,rfl,rfl,Yj⟩
  have hpf:=((FO.zn Yj.1).le (show 181<=7330630 by omega)).zs
  refine ic [0] (GW rd bs p21 n1 8 7330630 10 (ZB:=ob) (hzn:=(by first|exact hpf|exact hbf))) ?_
  rintro _ _ ⟨n21,p22,rfl,rfl,YJ⟩
  have hsf:=YJ
  exact Zz 1 b1 (Yz n21) (ie (Z9 (r3 [1] [Y8 n21] [0] [(b1,b1)] ⟨n21,p22,rfl,rfl,⟨hsf.1,by omega,by omega⟩⟩ (lr _))))
 refine ak (ar (Z0 2 (ic [0] (Z0l rd bs (p+1) (ZB:=ob)) ?_)))
 rintro _ _ ⟨n2,p23,rfl,rfl,YR⟩
 have hbf:=YR.1.zs
 refine ic [0] (GW rd bs p23 n2 8 7330630 10 (ZB:=ob) (hzn:=(by first|exact hpf|exact hbf))) ?_
 rintro _ _ ⟨n22,p24,rfl,rfl,X6⟩
 have hsf:=X6
 exact Zz 1 b1 (Yz n22) (ie (Z9 (r3 [1] [Y8 n22] [0] [(b1,b1)] ⟨n22,p24,rfl,rfl,⟨hsf.1,by omega,by omega⟩⟩ (lr _))))
theorem Cs (xs:LI) (hl_xs:xs.length<=4294967296:=by exact ob):Zi 92 [Z6 xs] [] (fun r h=>∃(v:Value),r=ZU xs v/\h=[.tail v 1]):=by
 refine ZC 8 Tryz.func92 (ar (Z0 1 (ie (aq (ar (Z0 1 (iN (Z7 xs) (fun hz1=>?_) ?_)))))))
 ·have hz1:=SB hz1
  exact ie (WC (ar (Z0 1 (ie (AL 1 (Z9 (r2 [0] [nl] ⟨(.slice none 0 0),rfl,rfl⟩ (Zc.slh _ (by first|rfl|(subst_vars;rfl))))))))))
 exact ie (WB (ak (ar (iL (Z7 []) 0 1 fun v1=>Z0 1 (ip 0 (Z7 xs) (Z7 []) (Z7 xs) v1 none 1 (Ys _) (Ys _) (XN _) (by simp<;>omega) (by simp [Z7]) fun v2=>Z0 1 (ie (Z9 (r1 [0] ⟨v2,rfl,rfl⟩))))))))
theorem Ds (xs:LI) (ys:LI) (hl_xs:xs.length<=4294967296:=by exact ob) (hl_ys:ys.length<=4294967296:=by exact ob):Zi 170 [Z6 xs,Z6 ys] [] (Y6 (.b (decide (xs=ys)))):=by
 refine ZC 26 Tryz.func170 (ar (Z0 1 (ie (aq (ar (Z0 1 (iw (Y7 xs) (Z0 1 (iw (Y7 ys) (Z0 1 (ie (ac ((xs.length:Int) != (ys.length:Int)) Ye (fun Zb=>?_) (fun Zb=>?_)))))))))))))
 ·exact ar (Z0 1 (ie (Z9 (ZP (.b false) (lb (eq_comm.1 (decide_eq_false (fun q=>by rw [q] at Zb;exact Zb rfl))))))))
 refine ak (aq (ar (Z0 1 (iw (Y7 xs) (Z0 1 (ie (ab 0 (ZW (fun fz gz m F h=>∃(k:Nat),(k<=xs.length)/\(xs.take k=ys.take k)/\F=sF [0,1,12] fz [(13,.i k)]/\h=gz/\m=xs.length-k) _ _ _ ⟨0,ob,ob,rfl,rfl,rfl⟩ (wk [] (Y0 fl)) ?_))))))))
 rintro m F h ⟨k,Y5,Zl,rfl,rfl,rfl⟩
 refine ar (Z0 1 (ie (aq (ZE ((k:Int)<(xs.length:Int)) (fun Zg=>?_) (fun Zg=>?_)))))
 ·refine ak (aq (ab 1 (ar (Z0 2 (ie (aD 9 (Zj 7 9 [0,1] ?_)))))))
  obtain ⟨x1,Z2⟩:=Zs xs k om
  refine dx 2 (Zh none (k:Int) 1 (ZX Z2)) (Zj 3 6 [3,4,5] ?_)
  obtain ⟨x2,Zp⟩:=Zs ys k om
  refine dx 6 (Zh none (k:Int) 1 (ZX Zp)) (Zj 0 2 [7,8] (de (ac (x1 != x2) Ye (fun Zy=>?_) (fun Zy=>?_))))
  ·exact ar (Z0 1 (ie (Z9 (ZP (.b false) (lb (eq_comm.1 (decide_eq_false (fun q=>by subst q;rw [Z2] at Zp;cases Zp;exact Zy rfl))))))))
  refine ak (az (ZD k (Z0 1 (ie ?_))))
  have hdr:=Y3 Z2
  exact ZG ⟨k+1,ob,(by rw [Wu Z2,Wu Zp,Zl];have hxx:x1=x2:=om;rw [hxx]),rfl,rfl,rfl⟩ (wk [] (ZJ k fl))
 exact ax 0 (ar (Z0 1 (ie (Z9 (ZP (.b true) (lb (eq_comm.1 (decide_eq_true (by rw [WK om,WK om] at Zl;exact Zl)))))))))
theorem Z97 (m:Nat) (hm:m<=4294967296:=by exact ob):Zi 210 [nl,.i m] [] (fun r h=>∃(v:Hd),r=.h v/\h=[rV v []]):=by
 refine ZC 27 Tryz.func210 (K7 Bk (AM (F':=[(0,.h hN),(1,.i m)]) (h':=[rV hN []]) (wk [0] (fc (x:=nl) (Zc.hd (v:=hN)) ( fc (x:=.i m) (lr _) (LU _)))) (ar (Z0 1 (ie (aq (ar (Z0 2 (ie (ZE ((m:Int)<0) (fun Zb=>?_) (fun Zb=>?_)))))))))))
 ·exfalso;omega
 refine ak (aq (ar (Z0 2 (Zo (Xm.le (P5 hN) (li (by rfl))) (Z0 1 (Zo (Xm.le (JH 0 hN []) (li (by rfl))) (ia ((0-0)) ((0)-(0)) (ia ((m:Int)) (((m:Int))-((0-0))) (Z0 1 (ie (ar (Z0 2 (ie (ZE ((m:Int)>0) (fun Zg=>?_) (fun Zg=>?_)))))))))))))))
 ·exact az (Z0 2 (Zo (Xm.le (P5 hN) (li (by rfl))) (Zo (AA 0 hN [] 0) (Z0 1 (iZ m fun v1=>Z0 1 (Zo (Xm.le (JH 1 hN []) (li (by rfl))) (Zo (AA 0 v1 (List.replicate m 0) 0) (Z0 1 (ie (ar (Z0 2 (ie (K7 (Bj 0 0 v1 (List.replicate m 0)) (Z9 (r1 [0] ⟨(v1.cut 0),rfl,rfl⟩ (eq:=(rv (xs:=((List.replicate m 0).take 0)) ob rz)))))))))))))))))
 exact ak (ar (Z0 2 (ie (Z9 (r1 [0] ⟨hN,rfl,rfl⟩)))))
theorem Z96 (xss:List LI) (hl_xss:xss.length<=4294967296:=by exact ob) (hf:xss.flatten.length<=4294967296:=by exact ob):Zi 166 [QS xss] [] (fun r h=>∃(v:Value),r=ZU xss.flatten v/\h=[.tail v 1]):=by
 have hft:=LS xss
 refine ZC 36 Tryz.func166 (ar (Z0 1 (ie (ar (Z0 1 (ie (aq (ar (Z0 1 (iw (E5 xss) (Z0 1 (ie (ab 0 (ZW (fun fz gz m F h=>∃(k:Nat) (q:Nat),(k<=xss.length)/\(q=(xss.take k).flatten.length)/\F=sF [0,9,10] fz [(3,.i q),(11,.i k)]/\h=gz/\m=xss.length-k) _ _ _ ⟨0,0,ob,(by simp),rfl,rfl,rfl⟩ (wk [] (Y0 (Y0 fl))) ?_))))))))))))))
 rintro m F h ⟨k,q,Y5,Zl,rfl,rfl,rfl⟩
 refine ar (Z0 1 (ie (aq (ZE ((k:Int)<(xss.length:Int)) (fun Zb=>?_) (fun Zb=>?_)))))
 ·refine ak (aq (ab 1 (ar ?_)))
  obtain ⟨x1,Z2⟩:=Zs xss k om
  refine Zo (Zh none (k:Int) 1 (E4 Z2)) (Z0 2 (ie (ar (Z0 2 (iw (Y7 x1) (ia (((q+x1.length:Nat):Int)) (((q:Int))+((x1.length:Int))) (hb:=(by have:=LR Z2;omega)) (Z0 1 (ie (ar (Z0 2 (ie (ZE (((q+x1.length:Nat):Int)<0) (fun Zg=>?_) (fun Zg=>?_)))))))))))))
  ·exfalso;omega
  refine ak (az (ZD k (Z0 1 (ie ?_))))
  have hdr:=Y3 Z2
  exact ZG ⟨k+1,q+x1.length,ob,(by rw [GM Z2,Ym,Zl]),rfl,rfl,rfl⟩ (wk [] (fc (x:=.i (q+x1.length:Nat)) li (ZJ k fl)))
 refine ax 0 (ar (Z0 1 (ic [] (Z97 q (hm:=(by have:=hft k;omega))) ?_)))
 rintro _ _ ⟨v1,rfl,rfl⟩
 refine Z0 1 (ie (aq (ar (Z0 1 (iw (E5 xss) (Z0 1 (ie (ab 2 (ZW (fun fz gz m F h=>∃(j:Nat) (v:Hd),(j<=xss.length)/\F=sF [25,26] fz [(6,.h v),(27,.i j)]/\h=[rV v ((xss.take j).flatten)]/\m=xss.length-j) _ _ _ ⟨0,v1,ob,rfl,rfl,rfl⟩ (wk [0] (fr (Y0 fl)) (e:=(rv (xs:=[]) ob rz))) ?_)))))))))
 rintro m F h ⟨j,v,Vl,rfl,rfl,rfl⟩
 refine ar (Z0 1 (ie (aq (ZE ((j:Int)<(xss.length:Int)) (fun Zy=>?_) (fun Zy=>?_)))))
 ·refine ak (aq (ab 3 (ar ?_)))
  obtain ⟨x2,Zp⟩:=Zs xss j om
  refine Zo (Zh none (j:Int) 1 (E4 Zp)) (Z0 2 (ie (az (Z0 2 (KQ 0 v ((xss.take j).flatten) x2 none (hbound:=(by have:=LR Zp;omega)) fun v2=>Z0 1 (ie (az (ZD j (Z0 1 (ie ?_))))))))))
  have hdr:=Y3 Zp
  exact ZG ⟨j+1,v2,ob,rfl,rfl,rfl⟩ (wk [0] (fr (ZJ j fl)) (e:=(rv (xs:=((xss.take j).flatten++x2)) (GM Zp).symm rz)))
 exact ax 2 (ar (Z0 2 (ie (DJ 2 0 (v:=v) (xs:=(xss.take j).flatten) (Z9 (r2 [0] [ZU ((xss.take j).flatten) v.v] ⟨v.v,rfl,rfl⟩ (Zc.slh _ (Yc Z7 (by rw [WK om])))))))))
theorem EB (ds:List Ze) (t:Int) (hl_ds:ds.length<=4294967296:=by exact ob):Zi 91 [Ya ds,.i t] [] (fun r h=>r=.b (decide (0<=t/\t<=ds.length))/\h=[]):=by
 refine ZC 13 Tryz.func91 (ar (Z0 1 (ie (ar (Xv 8 [] [(12,.b ((decide (t>=0))&&(decide (t<=(ds.length:Int)))))] (fun gz=>gz) ?_ (fun hj1=>?_))))))
 ·exact Z0 1 (ie (Z9 (ZP (.b ((decide (t>=0))&&(decide (t<=(ds.length:Int))))) (lb (by rw [X8];simp)))))
 refine Z0 3 (ib (b:=(decide (t>=0))) 7 (fun Zf=>?_) (fun Zf=>?_))
 ·exact Z0 2 (iw (Vn ds) (Z0 2 (Yp (wk [] (Zq (decide (t<=(ds.length:Int))) Zf fl)) hj1)))
 exact Z0 5 (Yp (wk [] (Zq false Zf fl)) hj1)
theorem Mu (ds:List Ze) (xs:LI) (hl_ds:ds.length<=4294967296:=by exact ob) (hl_xs:xs.length<=4294967296:=by exact ob):Zi 55 [Ya ds,Z6 xs] [] (Y6 (.b (XP ds.length xs))):=by
 refine ZC 18 Tryz.func55 (ar (Z0 1 (ie (aq (ar (Z0 1 (iw (Y7 xs) (Z0 1 (ie (ab 0 (ZW (fun fz gz m F h=>∃(k:Nat),(k<=xs.length)/\(XP ds.length (xs.drop k)=XP ds.length xs)/\F=sF [0,7,8] fz [(9,.i k)]/\h=gz/\m=xs.length-k) _ _ _ ⟨0,ob,ob,rfl,rfl,rfl⟩ (wk [] (Y0 fl)) ?_)))))))))))
 rintro m F h ⟨k,Y5,Zl,rfl,rfl,rfl⟩
 refine ar (Z0 1 (ie (aq (ZE ((k:Int)<(xs.length:Int)) (fun Zb=>?_) (fun Zb=>?_)))))
 ·refine ak (aq (ab 1 (ar ?_)))
  obtain ⟨x1,Z2⟩:=Zs xs k om
  refine Zo (Zh none (k:Int) 1 (ZX Z2)) (Z0 2 (ie (ar (Z0 2 (Zx [] (EB ds x1) (Z0 1 (ie (ac (!(decide (0<=x1/\x1<=ds.length))) (p:=¬(0<=x1/\x1<=ds.length)) (Yv dq) (fun Zg=>?_) (fun Zg=>?_)))))))))
  ·refine ar (Z0 1 (ie ?_))
   rw [Y3 Z2] at Zl
   exact Z9 (ZP (.b false) (lb (by clear Z2;first|rfl|omega|grind [XP])))
  refine ak (az (ZD k (Z0 1 (ie ?_))))
  have hdr:=Y3 Z2
  exact ZG ⟨k+1,ob,(by rw [hdr] at Zl;clear hdr Z2;grind [XP]),rfl,rfl,rfl⟩ (wk [] (ZJ k fl))
 refine ax 0 (ar (Z0 1 (ie ?_)))
 try rw [YY (xs:=xs) (k:=k) om] at Zl
 exact Z9 (ZP (.b true) (lb (by first|rfl|omega|grind [XP])))
theorem Z3g (ds:List Ze) (hd:W4 ds:=by exact ob):Zi 211 [Ya ds] [] (Y6 (.i (Yy ds:Nat))):=by
 have hdl:=hd.len
 refine ZC 19 Tryz.func211 (ar (Z0 1 (ie (ar (Z0 1 (ie (aq (ar (Z0 1 (iw (Vn ds) (Z0 1 (ie (ab 0 (ZW (fun fz gz m F h=>∃(k:Nat),(k<=ds.length)/\F=sF [6,7] fz [(3,.i ((Yy (ds.take k):Nat):Int)),(8,.i k)]/\h=gz/\m=ds.length-k) _ _ _ ⟨0,ob,rfl,rfl,rfl⟩ (wk [] (Y0 (Y0 fl))) ?_))))))))))))))
 rintro m F h ⟨k,Y5,rfl,rfl,rfl⟩
 refine ar (Z0 1 (ie (aq (ZE ((k:Int)<(ds.length:Int)) (fun Zb=>?_) (fun Zb=>?_)))))
 ·refine ak (aq (ab 1 (ar ?_)))
  obtain ⟨x1,Z2⟩:=Zs ds k om
  refine Zo (Zh none (k:Int) 3 (Wd Z2)) (Z0 1 (iA [.i 0,.i 0,nl] fun b1=>Zz 0 b1 (UN x1) (ie (az (Z3 3 [0] (iw (Vz x1.cons) (ia (((Yy (ds.take k)+x1.cons.length:Nat):Int)) ((((Yy (ds.take k):Nat):Int))+((x1.cons.length:Int))) (hb:=(by have h1:=hd.cons_at Z2;have h2:=(hd.take k).sum;omega)) (Z0 1 (ie (az (ZD k (Z0 1 (ie ?_)))))))))))))
  have hdr:=Y3 Z2
  exact ZG ⟨k+1,ob,rfl,rfl,rfl⟩ (wk [] (fc (x:=.i ((Yy (ds.take k)+x1.cons.length:Nat):Int)) (li (by rw [Wu Z2,Ct];simp [Yy])) (ZJ k fl)))
 exact ax 0 (ar (Z0 2 (ie (Z9 (ZP (.i ((Yy (ds.take k):Nat):Int)) (li (by rw [WK om])))))))
theorem Mv (ds:List Ze) (c:Int) (hd:W4 ds:=by exact ob) (hc:-9223372036854775808<=c/\c<=9223372036854775807:=by exact ob):Zi 169 [Ya ds,.i c] [] (Y6 (.tup [.i (XL ds c),.agg [Z6 (ZQ ds c)]])):=by
 have hdl:=hd.len
 refine ZC 38 Tryz.func169 (ar (Z0 1 (iA [nl] fun b1=>?_)))
 refine ie (aq (ar (Z0 1 (iw (Vn ds) (Z0 1 (ie (ab 0 (ZW (fun fz gz m F h=>∃(k:Nat) (cv:Int),(k<=ds.length)/\(JQ c (Yy (ds.take k)) cv)/\(Up c (ds.drop k) k (Yy (ds.take k))=Up c ds 0 0)/\F=sF [5,8,9] fz [(1,.i cv),(10,.i k)]/\h=gz/\m=ds.length-k) _ _ _ ⟨0,c,ob,(.inl (by simp [Yy])),rfl,rfl,rfl,rfl⟩ (wk [0] (fr (Y0 fl))) ?_))))))))
 rintro m F h ⟨k,cv,Y5,Zl,Zw,rfl,rfl,rfl⟩
 refine ar (Z0 1 (ie (aq (ZE ((k:Int)<(ds.length:Int)) (fun Zb=>?_) (fun Zb=>?_)))))
 ·refine ak (aq (ab 1 (ar (Z0 1 ?_))))
  obtain ⟨x1,Z2⟩:=Zs ds k om
  refine Zo (Zh none (k:Int) 3 (Wd Z2)) (Z0 1 (iA [.i 0,.i 0,nl] fun b2=>Z0 1 (Zz 0 b2 (UN x1) (ie (aq (ar (X5 [1,5,6,7,8,9,10] [(23,.b ((decide (cv>=0))&&(decide (cv<(x1.cons.length:Int)))))] (fun gz=>gz) ?_ ?_)))))))
  ·refine Z0 3 (ib (b:=(decide (cv>=0))) 17 (fun Zf=>?_) (fun Zf=>?_))
   ·exact Z3 3 [0] (iw (Vz x1.cons) (Z0 2 (ie (wk [0,0] (Zq (decide (cv<(x1.cons.length:Int))) Zf fl)))))
   exact Z0 6 (ie (wk [0,0] (Zq false Zf fl)))
  refine ac ((decide (cv>=0))&&(decide (cv<(x1.cons.length:Int)))) (p:=(cv>=0)/\(cv<(x1.cons.length:Int))) (YA dq dq) (fun Zg=>?_) (fun Zg=>?_)
  ·refine aD 9 (Zj 8 9 [0] (da 1 (((k+1:Nat):Int)) (((k:Int))+(1)) (ZL 4 7 [2,3,4] [0] ?_)))
   obtain ⟨x2,Zp⟩:=Zs x1.cons cv.toNat om
   refine dx 5 (Zh none cv 1 (Ji Zp)) (Zj 1 3 [6,7] (Z8 8 (YC 8 1 [] [] b1 (BX x2) (de ?_))))
   have hz:=(hd.take k).sum
   have h3:=hd.cons_at Z2
   have hH:=Zw.symm.trans (RK Z2 Zl om h3 hc.1 Zg Zp)
   exact Z9 (r3 [] [.i (k+1:Nat),Bt x2] [0] [(b1,b1)] ⟨rfl,rfl⟩ (Zc.tup (.cons (li (by rw [XL,hH];omega)) (.cons (Zc.agg (.cons (Zc.sl _ (Yc Z7 (by rw [ZQ,hH]))) .nil)) .nil))))
  refine ak (az (Z3 3 [0] (iw (Vz x1.cons) (iW ((cv)-((x1.cons.length:Int))) (Z0 1 (ie (az (ZD k (Z0 1 (ie ?_))))))))))
  have hdr:=Y3 Z2
  exact ZG ⟨k+1,(Bm ((cv)-((x1.cons.length:Int)))),ob,(by have hz:=(hd.take k).sum;have h3:=hd.cons_at Z2;rw [Wu Z2,Ct];simpa [Yy] using Re Zl om h3 hc),(RI Z2 Zl Zg Zw),rfl,rfl,rfl⟩ (wk [1] (fr (ZJ k fl)))
 refine ax 0 (ar (Z0 2 (Zz 0 b1 [nl] (ie ?_))))
 have hH:Up c ds 0 0=(-1,[]):=by rw [<-Zw,YY om];rfl
 exact Z9 (r3 [] [.i (-1),.agg [nl]] [0] [(b1,b1)] ⟨rfl,rfl⟩ (Zc.tup (.cons (li (by rw [XL,hH])) (.cons (Zc.agg (.cons (Zc.sl _ (by rw [ZQ,hH];rfl)) .nil)) .nil))))
theorem Z3k (ds:List Ze) (c:Int) (hd:W4 ds:=by exact ob) (hc:-9223372036854775808<=c/\c<=9223372036854775807:=by exact ob):Zi 168 [Ya ds,.i c] [] (Y6 (Z6 (ZQ ds c))):=by
 exact ZC 15 Tryz.func168 (ar (Z0 1 (ie (ar (Z0 2 (Zx [] (Mv ds c) (Z0 3 (iA [nl] fun b1=>Z0 1 (Zz 0 b1 [Z6 (ZQ ds c)] (ie (ar (Z3 3 [0] (ie (Z9 (Ft)))))))))))))))
theorem Z3h (ds:List Ze) (t:Int) (hd:W4 ds:=by exact ob):Zi 167 [Ya ds,.i t] [] (Y6 (Z6 (ZT ds t))):=by
 have hdl:=hd.len
 refine ZC 39 Tryz.func167 (ar (Z0 1 (ie (aq (ar (X5 [0,1] [(15,.b ((decide (t<1))||(decide (t>(ds.length:Int)))))] (fun gz=>gz) ?_ ?_))))))
 ·refine Z0 3 (ib (b:=(decide (t<1))) 10 (fun Zf=>?_) (fun Zf=>?_))
  ·exact Z0 5 (ie (wk [] (Zq true Zf fl)))
  exact Z0 2 (iw (Vn ds) (Z0 2 (ie (wk [] (Zq (decide (t>(ds.length:Int))) Zf fl)))))
 refine ac ((decide (t<1))||(decide (t>(ds.length:Int)))) (p:=(t<1)∨(t>(ds.length:Int))) (Yn dq dq) (fun Zb=>?_) (fun Zb=>?_)
 ·exact ar (Z0 1 (ie (Z9 (ZP (nl) (Zc.sl _ (by rw [ZT,Za om];rfl))))))
 have hti:1<=t/\t<=ds.length:=by omega
 obtain ⟨d,hd1⟩:=Zs ds ((t-1).toNat) om
 have hdc:=hd.cons_at hd1
 have hsm:=(hd.take (t-1).toNat).sum
 refine ak (ar (Z0 2 (ia ((((t-1).toNat:Nat):Int)) ((t)-(1)) (Zo (Kl (es:=Yo ds) (hv:=none) (l:=0) (m:=(((t-1).toNat:Nat):Int)) (sz:=3) (es':=Yo (ds.take ((t-1).toNat))) kr om (by simp<;>omega) (by simp<;>omega) (Qq _) (by first|(simp only [VP,Vc,BD,BC];done)|(simp only [VP,Vc,BD,BC];rfl)|(simp [BD,BC];done))) (Zx [] (Z3g (ds.take ((t-1).toNat)) (hd:=(hd.take _))) (Z0 1 (ie (ar (Z0 1 (ie (aq (ar (Z0 2 (ia ((((t-1).toNat:Nat):Int)) ((t)-(1)) (Zo (Zh none (((t-1).toNat:Nat):Int) 3 (Wd hd1)) (Z0 2 (iw (Vz d.cons) (Z0 1 (ie (ab 0 (AL 1 (ZW (fun fz gz m F h=>∃(k:Nat) (v:Value),(k<=d.cons.length)/\F=sF [5,27] fz [(6,ZU (WY (Yy (ds.take (t-1).toNat)) k) v),(28,.i k)]/\h=[.tail v 1]/\m=d.cons.length-k) _ _ _ ⟨0,(.slice none 0 0),ob,rfl,rfl,rfl⟩ (wk [0] (fc (x:=nl) (Zc.slh _ rfl) (Y0 fl))) ?_))))))))))))))))))))))
 rintro m F h ⟨k,v,Y5,rfl,rfl,rfl⟩
 refine ar (Z0 1 (ie (aq (ZE ((k:Int)<(d.cons.length:Int)) (fun Zg=>?_) (fun Zg=>?_)))))
 ·exact ak (aq (ab 1 (ar (Z0 2 (ie (az (Z0 3 (ia ((((Yy (ds.take ((t-1).toNat)))+k:Nat):Int)) ((((Yy (ds.take ((t-1).toNat)):Nat):Int))+((k:Int))) (iL (Z7 [(((Yy (ds.take ((t-1).toNat)))+k:Nat):Int)]) 1 1 fun v1=>ZM 0 [(35,Z6 [(((Yy (ds.take ((t-1).toNat)))+k:Nat):Int)])] (ip 1 (Z7 (WY (Yy (ds.take (t-1).toNat)) k++[(((Yy (ds.take ((t-1).toNat)))+k:Nat):Int)])) (Z7 (WY (Yy (ds.take (t-1).toNat)) k)) (Z7 [(((Yy (ds.take ((t-1).toNat)))+k:Nat):Int)]) v none 1 (Ys _) (Ys _) (XN _) (by simp;omega) (by simp [XM,Z7]) fun v2=>Z0 1 (ie (az (ZD k (Z0 1 (ie (ZG ⟨k+1,v2,ob,rfl,rfl,rfl⟩ (wk [0] (fc (x:=ZU (WY (Yy (ds.take (t-1).toNat)) k++[(((Yy (ds.take ((t-1).toNat)))+k:Nat):Int)]) v2) (Zc.slh _ (Yc Z7 (Nh _ _).symm)) (ZJ k fl)))))))))))))))))))
 exact ax 0 (ar (Z0 2 (ie (Z9 (ZP (ZU (WY (Yy (ds.take (t-1).toNat)) k) v) (Zc.sl _ (Yc Z7 (by rw [ZT,Zm hti,hd1,show k=d.cons.length by omega];rfl))))))))
theorem Ez (ds:List Ze) (t:Int) (hd:W4 ds:=by exact ob):Zi 129 [Ya ds,.i t] [] (Y6 (.tup [Jb (V7 ds t),.b (XA ds t)])):=by
 have hdl:=hd.len
 refine ZC 30 Tryz.func129 (ar (iA [.i 0,.i 0,nl] fun b1=>Z0 1 (ie (aq (ar (Xv 8 [0,1,4] [(13,.b ((decide (t<1))||(decide (t>(ds.length:Int)))))] (fun gz=>gz) ?_ (fun hj1=>?_)))))))
 ·refine Z0 1 (ib (b:=((decide (t<1))||(decide (t>(ds.length:Int))))) 14 (fun Zf=>?_) (fun Zf=>?_))
  ·have Y2:(t<1)∨(t>(ds.length:Int)):=((Yn dq dq)).1 Zf
   refine Z0 9 (ie (WC (ar (Z0 1 (Zz 0 b1 [.i 0,.i 0,nl] (Z0 1 (ie ?_)))))))
   have hA:XA ds t=false:=(H7 om).symm
   have hD:V7 ds t=⟨0,0,[]⟩:=by rw [V7,hA];rfl
   exact Z9 (r3 [] [.agg [.i 0,.i 0,nl],.b false] [0] [(b1,b1)] ⟨rfl,rfl⟩ (Zc.tup (.cons (Zc.agg (.cons (li (by rw [hD])) (.cons (li (by rw [hD])) (.cons (Zc.sl _ (by rw [hD];rfl)) .nil)))) (.cons (lb (by rw [hA])) .nil))))
  have Yj:¬((t<1)∨(t>(ds.length:Int))):=Yf (Yn dq dq) Zf
  refine Z0 2 (ia ((t-1)) ((t)-(1)) ?_)
  obtain ⟨x1,Z2⟩:=Zs ds ((t-1).toNat) om
  refine Zo (Zh none (t-1) 3 (Wd Z2)) (Z0 2 (iw (Vz x1.cons) (Z0 2 (ie (ZE ((x1.cons.length:Int)>0) (fun Zb=>?_) (fun Zb=>?_))))))
  ·refine ar (Z0 1 (Zz 0 b1 [.i 0,.i 0,nl] (Z0 1 (ie ?_))))
   have hA:XA ds t=false:=(EE om Z2).symm.trans (beq_eq_false_iff_ne.2 om)
   have hD:V7 ds t=⟨0,0,[]⟩:=by rw [V7,hA];rfl
   exact Z9 (r3 [] [.agg [.i 0,.i 0,nl],.b false] [0] [(b1,b1)] ⟨rfl,rfl⟩ (Zc.tup (.cons (Zc.agg (.cons (li (by rw [hD])) (.cons (li (by rw [hD])) (.cons (Zc.sl _ (by rw [hD];rfl)) .nil)))) (.cons (lb (by rw [hA])) .nil))))
  refine ak (ar (Z0 2 (ia ((t-1)) ((t)-(1)) (Zo (Zh none (t-1) 3 (Wd Z2)) (Z0 1 (Zz 0 b1 (UN x1) (Z0 1 (ie ?_))))))))
  have hA:XA ds t=true:=(EE om Z2).symm.trans (Zr.2 om)
  have hD:V7 ds t=x1:=by rw [V7,hA,Z2];rfl
  exact Z9 (r3 [] [Jb x1,.b true] [0] [(b1,b1)] ⟨rfl,rfl⟩ (Zc.tup (.cons (Zc.agg (.cons (li (by rw [hD])) (.cons (li (by rw [hD])) (.cons (Zc.sl _ (Yc Xn (by rw [hD]))) .nil)))) (.cons (lb (by rw [hA])) .nil))))
 refine Z0 3 (ib (b:=(decide (t<1))) 8 (fun ZF=>?_) (fun ZF=>?_))
 ·have YJ:t<1:=(dq).1 ZF
  exact Z0 5 (Yp (wk [0] (Zq true ZF fl)) hj1)
 have YR:¬(t<1):=Yf dq ZF
 exact Z0 2 (iw (Vn ds) (Z0 2 (Yp (wk [0] (Zq (decide (t>(ds.length:Int))) ZF fl)) hj1)))
theorem Z3a (ds:List Ze) (frm:Int) (to_:Int) (hl_ds:ds.length<=4294967296:=by exact ob):Zi 171 [Ya ds,.i frm,.i to_] [] (Y6 (.i (VH ds frm to_))):=by
 refine ZC 35 Tryz.func171 (ar (Z0 1 (ie (aq (ar (Z0 1 (iw (Vn ds) (Z0 1 (ie (ab 0 (ZW (fun fz gz m F h=>∃(k:Nat),(k<=ds.length)/\(Ql frm to_ (ds.drop k) k=VH ds frm to_)/\F=sF [1,2,9,10] fz [(11,.i k)]/\h=gz/\m=ds.length-k) _ _ _ ⟨0,ob,rfl,rfl,rfl,rfl⟩ (wk [] (Y0 fl)) ?_)))))))))))
 rintro m F h ⟨k,Y5,Zl,rfl,rfl,rfl⟩
 refine ar (Z0 1 (ie (aq (ZE ((k:Int)<(ds.length:Int)) (fun Zb=>?_) (fun Zb=>?_)))))
 ·refine ak (aq (ab 1 (ar (Z0 1 ?_))))
  obtain ⟨x1,Z2⟩:=Zs ds k om
  refine Zo (Zh none (k:Int) 3 (Wd Z2)) (Z0 1 (iA [.i 0,.i 0,nl] fun b1=>Z0 1 (Zz 0 b1 (UN x1) (ie (ar (Z3 2 [0] (iw (Vz x1.cons) (Xv 10 [1,2,7,8,9,10,11] [(25,.b (((x1.cons.length:Int)==0)&&(x1.frm==frm)))] (fun gz=>gz) ?_ (fun hj1=>?_)))))))))
  ·refine X5 [1,2,7,9,10,11] [(31,.b ((((x1.cons.length:Int)==0)&&(x1.frm==frm))&&(x1.to_==to_)))] (fun gz=>gz) ?_ ?_
   ·refine Z0 1 (ib (b:=(((x1.cons.length:Int)==0)&&(x1.frm==frm))) 26 (fun Zf=>?_) (fun Zf=>?_))
    ·exact Z3 5 [0] (ie (wk [0] (Zq (x1.to_==to_) Zf fl)))
    exact Z0 5 (ie (wk [0] (Zq false Zf fl)))
   refine ac ((((x1.cons.length:Int)==0)&&(x1.frm==frm))&&(x1.to_==to_)) (p:=(((x1.cons.length:Int)=0)/\(x1.frm=frm))/\(x1.to_=to_)) (YA (YA Zr Zr) Zr) (fun Zg=>?_) (fun Zg=>?_)
   ·refine ar (Z0 1 (ZD k (Z0 1 (ie ?_))))
    rw [Y3 Z2] at Zl
    exact Z9 (ZP (.i (k+1:Nat)) (li (by clear Z2;first|rfl|omega|grind [Ql])))
   refine ak (az (ZD k (Z0 1 (ie ?_))))
   have hdr:=Y3 Z2
   exact ZG ⟨k+1,ob,(by rw [hdr] at Zl;clear hdr Z2;grind [Ql]),rfl,rfl,rfl⟩ (wk [] (ZJ k fl))
  refine Z0 2 (ib (b:=((x1.cons.length:Int)==0)) 20 (fun ZF=>?_) (fun ZF=>?_))
  ·exact Z3 5 [0] (Yp (wk [0] (Zq (x1.frm==frm) ZF fl)) hj1)
  exact Z0 5 (Yp (wk [0] (Zq false ZF fl)) hj1)
 refine ax 0 (ar (Z0 1 (ie ?_)))
 try rw [YY (xs:=ds) (k:=k) om] at Zl
 exact Z9 (ZP (.i (-1)) (li (by first|rfl|omega|grind [Ql])))
theorem Z39 (ds:List Ze) (hz:Qj ds:=by exact ob):Zi 128 [Ya ds] [] (Y6 (.b (Wm ds))):=by
 have hzl:=hz.len
 refine ZC 106 Tryz.func128 (ar (Z0 1 (ie (aq (ar (Z0 1 (iw (Vn ds) (Z0 1 (ie (ZE ((ds.length:Int)>4) (fun Zb=>?_) (fun Zb=>?_)))))))))))
 ·exact ar (Z0 1 (ie (Z9 (ZP (.b false) (lb (by rw [Wm,decide_eq_false om];rfl))))))
 refine ak (aq (ar (Z0 1 (iw (Vn ds) (Z0 1 (ie (ab 0 (ZW (fun fz gz m F h=>∃(k:Nat),(k<=ds.length)/\(Uq ds (ds.drop k) k=Uq ds ds 0)/\F=sF [0,12,13] fz [(14,.i k)]/\h=gz/\m=ds.length-k) _ _ _ ⟨0,ob,rfl,rfl,rfl,rfl⟩ (wk [] (Y0 fl)) ?_))))))))
 rintro m F h ⟨k,Y5,Zl,rfl,rfl,rfl⟩
 refine ar (Z0 1 (ie (aq (ZE ((k:Int)<(ds.length:Int)) (fun Zg=>?_) (fun Zg=>?_)))))
 ·refine ak (aq (ab 1 (ar (Z0 1 ?_))))
  obtain ⟨x1,Z2⟩:=Zs ds k om
  have hz1:=hz.cons_at Z2
  refine Zo (Zh none (k:Int) 3 (Wd Z2)) (Z0 1 (iA [.i 0,.i 0,nl] fun b1=>Z0 1 (Zz 0 b1 (UN x1) (ie (aq (ar (Z3 3 [0] (Zx [] (EB ds x1.frm) (Xv 12 [0,3,4,12,13,14] [(30,.b ((!(decide (0<=x1.frm/\x1.frm<=ds.length)))||(!(decide (0<=x1.to_/\x1.to_<=ds.length)))))] (fun gz=>gz) ?_ (fun hj1=>?_))))))))))
  ·refine Xv 18 [0,3,4,12,13,14] [(36,.b (((!(decide (0<=x1.frm/\x1.frm<=ds.length)))||(!(decide (0<=x1.to_/\x1.to_<=ds.length))))||(decide ((x1.cons.length:Int)>3))))] (fun gz=>gz) ?_ (fun hj2=>?_)
   ·refine X5 [0,3,4,12,13,14] [(52,.b ((((!(decide (0<=x1.frm/\x1.frm<=ds.length)))||(!(decide (0<=x1.to_/\x1.to_<=ds.length))))||(decide ((x1.cons.length:Int)>3)))||((decide ((x1.cons.length:Int)>0))&&((x1.frm != 0)||(x1.to_ != 0)))))] (fun gz=>gz) ?_ ?_
    ·refine Z0 1 (ib (b:=(((!(decide (0<=x1.frm/\x1.frm<=ds.length)))||(!(decide (0<=x1.to_/\x1.to_<=ds.length))))||(decide ((x1.cons.length:Int)>3)))) 37 (fun Zf=>?_) (fun Zf=>?_))
     ·have Y2:((¬(0<=x1.frm/\x1.frm<=ds.length))∨(¬(0<=x1.to_/\x1.to_<=ds.length)))∨((x1.cons.length:Int)>3):=((Yn (Yn (Yv dq) (Yv dq)) dq)).1 Zf
      exact Z0 15 (ie (wk [0] (Zq true Zf fl)))
     have Yj:¬(((¬(0<=x1.frm/\x1.frm<=ds.length))∨(¬(0<=x1.to_/\x1.to_<=ds.length)))∨((x1.cons.length:Int)>3)):=Yf (Yn (Yn (Yv dq) (Yv dq)) dq) Zf
     refine Z3 2 [0] (iw (Vz x1.cons) (Z0 2 (ib (b:=(decide ((x1.cons.length:Int)>0))) 42 (fun ZF=>?_) (fun ZF=>?_))))
     ·have YJ:(x1.cons.length:Int)>0:=(dq).1 ZF
      refine Z3 4 [0] (ib (b:=(x1.frm != 0)) 46 (fun Yx=>?_) (fun Yx=>?_))
      ·have YR:x1.frm≠0:=(Ye).1 Yx
       exact Z0 6 (ie (wk [0] (Zq true (And.intro Zf (And.intro ZF Yx)) fl)))
      have X6:¬(x1.frm≠0):=Yf Ye Yx
      exact Z3 6 [0] (ie (wk [0] (Zq (x1.to_ != 0) (And.intro Zf (And.intro ZF Yx)) fl)))
     have XS:¬((x1.cons.length:Int)>0):=Yf dq ZF
     exact Z0 10 (ie (wk [0] (Zq false (And.intro Zf ZF) fl)))
    refine ac ((((!(decide (0<=x1.frm/\x1.frm<=ds.length)))||(!(decide (0<=x1.to_/\x1.to_<=ds.length))))||(decide ((x1.cons.length:Int)>3)))||((decide ((x1.cons.length:Int)>0))&&((x1.frm != 0)||(x1.to_ != 0)))) (p:=(((¬(0<=x1.frm/\x1.frm<=ds.length))∨(¬(0<=x1.to_/\x1.to_<=ds.length)))∨((x1.cons.length:Int)>3))∨(((x1.cons.length:Int)>0)/\((x1.frm≠0)∨(x1.to_≠0)))) (Yn (Yn (Yn (Yv dq) (Yv dq)) dq) (YA dq (Yn Ye Ye))) (fun Zy=>?_) (fun Zy=>?_)
    ·exact ar (Z0 1 (ie (Z9 (ZP (.b false) (lb (Il Z2 (Sh Zy) Zl))))))
    refine ak (aq (ar (Z3 2 [0] (iw (Vz x1.cons) (Z0 1 (ie (ab 2 (ZW (fun fz gz m F h=>∃(q:Nat),(q<=x1.cons.length)/\(UU ds.length (x1.cons.drop q)=UU ds.length x1.cons)/\F=sF [0,3,4,12,13,14,54,55] fz [(56,.i q)]/\h=gz/\m=x1.cons.length-q) _ _ _ ⟨0,ob,rfl,rfl,rfl,rfl⟩ (wk [0] (Y0 fl)) ?_))))))))
    rintro m F h ⟨q,Vl,Xt,rfl,rfl,rfl⟩
    refine ar (Z0 1 (ie (aq (ZE ((q:Int)<(x1.cons.length:Int)) (fun Y9=>?_) (fun Y9=>?_)))))
    ·refine ak (aq (ab 3 (ar ?_)))
     obtain ⟨x2,Zp⟩:=Zs x1.cons q om
     refine Zo (Zh none (q:Int) 1 (Ji Zp)) (Z0 1 (iA [nl] fun b2=>Zz 0 b2 (BX x2) (ie (ar (Z3 2 [0] (iw (Y7 x2.fields) (X5 [0,3,4,12,13,14,54,55,56] [(70,.b ((decide ((x2.fields.length:Int)>3))||(!XP ds.length x2.fields)))] (fun gz=>gz) ?_ ?_)))))))
     ·refine Z0 2 (ib (b:=(decide ((x2.fields.length:Int)>3))) 64 (fun YX=>?_) (fun YX=>?_))
      ·have Wq:(x2.fields.length:Int)>3:=(dq).1 YX
       exact Z0 6 (ie (wk [0,0] (Zq true YX fl)))
      have V6:¬((x2.fields.length:Int)>3):=Yf dq YX
      exact Z3 3 [0] (Zx [] (Mu ds x2.fields) (Z0 2 (ie (wk [0,0] (Zq (!XP ds.length x2.fields) YX fl)))))
     refine ac ((decide ((x2.fields.length:Int)>3))||(!XP ds.length x2.fields)) (p:=((x2.fields.length:Int)>3)∨(¬(XP ds.length x2.fields=true))) (Yn dq (Yv Iff.rfl)) (fun X0=>?_) (fun X0=>?_)
     ·exact ar (Z0 1 (ie (Z9 (ZP (.b false) (lb (Il Z2 (Si om (by rw [<-Xt,Y3 Zp,UU,Za (by rw [RL X0];simp)])) Zl))))))
     refine ak (az (ZD q (Z0 1 (ie ?_))))
     have hdr:=Y3 Zp
     exact ZG ⟨q+1,ob,(by rw [Y3 Zp,UU,Zm (RM X0)] at Xt;exact Xt),rfl,rfl,rfl⟩ (wk [1] (ZJ q fl))
    have hC:UU ds.length x1.cons=true:=by rw [<-Xt,YY om];rfl
    refine ax 2 (ar (Z0 2 (Zo (Kl (es:=Yo ds) (hv:=none) (l:=0) (m:=(k:Int)) (sz:=3) (es':=Yo (ds.take k)) kr om (by simp<;>omega) (by simp<;>omega) (Qq _) (by first|(simp only [VP,Vc,BD,BC];done)|(simp only [VP,Vc,BD,BC];rfl)|(simp [BD,BC];done))) (io (.i (((ds.take k).length:Nat):Int)) (.i (((Yo (ds.take k)).length:Nat):Int)) (li (by rw [Vn])) (Z0 1 (ie (ab 4 (ZW (fun fz gz m F h=>∃(j:Nat),(j<=k)/\(x1.cons.length=0->TX x1 ((ds.take k).drop j)=TX x1 (ds.take k))/\F=sF [0,4,12,13,14,74,75] fz [(76,.i j)]/\h=gz/\m=k-j) _ _ _ ⟨0,ob,ob,rfl,rfl,rfl⟩ (wk [0] (Y0 fl)) ?_))))))))
    rintro m F h ⟨j,L5,DR,rfl,rfl,rfl⟩
    refine ar (Z0 1 (ie (aq (ZE ((j:Int)<(((ds.take k).length:Nat):Int)) (fun X9=>?_) (fun X9=>?_)))))
    ·have htl:(ds.take k).length<=k:=by rw [Wn];omega
     refine ak (aq (ab 5 (ar ?_)))
     obtain ⟨x3,YG⟩:=Zs (ds.take k) j om
     refine Zo (Zh none (j:Int) 3 (Wd YG)) (Z0 1 (iA [.i 0,.i 0,nl] fun b3=>Zz 0 b3 (UN x3) (ie (ar (Z3 2 [1] (iw (Vz x1.cons) (Xv 10 [0,4,8,12,13,14,74,75,76] [(89,.b (((x1.cons.length:Int)==0)&&((x3.cons.length:Int)==0)))] (fun gz=>gz) ?_ (fun hj3=>?_))))))))
     ·refine Xv 17 [0,4,8,12,13,14,74,75,76] [(96,.b ((((x1.cons.length:Int)==0)&&((x3.cons.length:Int)==0))&&(x3.frm==x1.frm)))] (fun gz=>gz) ?_ (fun hj4=>?_)
      ·refine X5 [0,4,12,13,14,74,75,76] [(103,.b (((((x1.cons.length:Int)==0)&&((x3.cons.length:Int)==0))&&(x3.frm==x1.frm))&&(x3.to_==x1.to_)))] (fun gz=>gz) ?_ ?_
       ·refine Z0 1 (ib (b:=((((x1.cons.length:Int)==0)&&((x3.cons.length:Int)==0))&&(x3.frm==x1.frm))) 97 (fun W6=>?_) (fun W6=>?_))
        ·have Ve:(((x1.cons.length:Int)=0)/\((x3.cons.length:Int)=0))/\(x3.frm=x1.frm):=((YA (YA Zr Zr) Zr)).1 W6
         exact Z3 6 [0,1] (ie (wk [0,0] (Zq (x3.to_==x1.to_) W6 fl)))
        have UK:¬((((x1.cons.length:Int)=0)/\((x3.cons.length:Int)=0))/\(x3.frm=x1.frm)):=Yf (YA (YA Zr Zr) Zr) W6
        exact Z0 6 (ie (wk [0,0] (Zq false W6 fl)))
       refine ac (((((x1.cons.length:Int)==0)&&((x3.cons.length:Int)==0))&&(x3.frm==x1.frm))&&(x3.to_==x1.to_)) (p:=((((x1.cons.length:Int)=0)/\((x3.cons.length:Int)=0))/\(x3.frm=x1.frm))/\(x3.to_=x1.to_)) (YA (YA (YA Zr Zr) Zr) Zr) (fun Vr=>?_) (fun Vr=>?_)
       ·exact ar (Z0 1 (ie (Z9 (ZP (.b false) (lb (Il Z2 (Sj om (by rw [<-DR om,Y3 YG,TX,Zm om])) Zl))))))
       exact ak (az (ZD j (Z0 1 (ie (ZG ⟨j+1,ob,(fun q=>by have hq:=DR q;rw [Y3 YG,TX,Za om] at hq;exact hq),rfl,rfl,rfl⟩ (wk [1] (ZJ j fl)))))))
      refine Z0 1 (ib (b:=(((x1.cons.length:Int)==0)&&((x3.cons.length:Int)==0))) 90 (fun Wx=>?_) (fun Wx=>?_))
      ·have UY:((x1.cons.length:Int)=0)/\((x3.cons.length:Int)=0):=((YA Zr Zr)).1 Wx
       exact Z3 6 [0,1] (Yp (wk [0,0] (Zq (x3.frm==x1.frm) Wx fl)) hj4)
      have Uv:¬(((x1.cons.length:Int)=0)/\((x3.cons.length:Int)=0)):=Yf (YA Zr Zr) Wx
      exact Z0 6 (Yp (wk [0,0] (Zq false Wx fl)) hj4)
     refine Z0 2 (ib (b:=((x1.cons.length:Int)==0)) 84 (fun WR=>?_) (fun WR=>?_))
     ·have TI:(x1.cons.length:Int)=0:=(Zr).1 WR
      exact Z3 2 [0] (iw (Vz x3.cons) (Z0 2 (Yp (wk [0,0] (Zq ((x3.cons.length:Int)==0) WR fl)) hj3)))
     have Tt:¬((x1.cons.length:Int)=0):=Yf Zr WR
     exact Z0 5 (Yp (wk [0,0] (Zq false WR fl)) hj3)
    have htl:(ds.take k).length=k:=by rw [Wn];omega
    have hD:x1.cons.length=0->TX x1 (ds.take k)=false:=fun q=>by rw [<-DR q,YY om];rfl
    refine ax 4 (az (ZD k (Z0 1 (ie ?_))))
    have hdr:=Y3 Z2
    exact ZG ⟨k+1,ob,(Zbq Z2 (Sk Zy hC hD) Zl),rfl,rfl,rfl⟩ (wk [] (ZJ k fl))
   refine Z0 1 (ib (b:=((!(decide (0<=x1.frm/\x1.frm<=ds.length)))||(!(decide (0<=x1.to_/\x1.to_<=ds.length))))) 31 (fun WD=>?_) (fun WD=>?_))
   ·have QM:(¬(0<=x1.frm/\x1.frm<=ds.length))∨(¬(0<=x1.to_/\x1.to_<=ds.length)):=((Yn (Yv dq) (Yv dq))).1 WD
    exact Z0 5 (Yp (wk [0] (Zq true WD fl)) hj2)
   have QN:¬((¬(0<=x1.frm/\x1.frm<=ds.length))∨(¬(0<=x1.to_/\x1.to_<=ds.length))):=Yf (Yn (Yv dq) (Yv dq)) WD
   exact Z3 2 [0] (iw (Vz x1.cons) (Z0 2 (Yp (wk [0] (Zq (decide ((x1.cons.length:Int)>3)) WD fl)) hj2)))
  refine Z0 2 (ib (b:=(!(decide (0<=x1.frm/\x1.frm<=ds.length)))) 24 (fun WE=>?_) (fun WE=>?_))
  ·have Af:¬(0<=x1.frm/\x1.frm<=ds.length):=((Yv dq)).1 WE
   exact Z0 6 (Yp (wk [0] (Zq true WE fl)) hj1)
  have Kf:¬(¬(0<=x1.frm/\x1.frm<=ds.length)):=Yf (Yv dq) WE
  exact Z3 3 [0] (Zx [] (EB ds x1.to_) (Z0 2 (Yp (wk [0] (Zq (!(decide (0<=x1.to_/\x1.to_<=ds.length))) WE fl)) hj1)))
 exact ax 0 (ar (Z0 1 (ie (Z9 (ZP (.b true) (lb (Zbp om om Zl)))))))
theorem EA (op:Int) :Zi 66 [.i op] [] (Y6 (.b (Yd op))):=by
 refine ZC 9 Tryz.func66 (ar (Z0 1 (ie (ar (Xv 6 [] [(8,.b ((decide (op>=14))&&(decide (op<=17))))] (fun gz=>gz) ?_ (fun hj1=>?_))))))
 ·exact Z0 1 (ie (Z9 (ZP (.b ((decide (op>=14))&&(decide (op<=17)))) (lb (by rw [Yd,X8];simp)))))
 refine Z0 3 (ib (b:=(decide (op>=14))) 5 (fun Zf=>?_) (fun Zf=>?_))
 ·exact Z0 3 (Yp (wk [] (Zq (decide (op<=17)) Zf fl)) hj1)
 exact Z0 3 (Yp (wk [] (Zq false Zf fl)) hj1)
theorem Z3j (b:Z5) (c:Nat) (v:Int) (hb:b.sz<=1000000000:=by exact ob) (hv:0<=v/\v<=600:=by exact ob) (ih:∀(b2:Z5) (c:Nat) (v:Int),(b2.sz<b.sz)->(0<=v/\v<=600)->Zi 63 [ZH b2,.p c 0] [.obj c [.i v]] (fun r h=>(r=.b true/\h=[.obj c [.i (600-We b2 (600-v))]]/\0<=We b2 (600-v))∨(r=.b false/\h=[]/\We b2 (600-v)<0))):Zi 63 [ZH b,.p c 0] [.obj c [.i v]] (fun r h=>(r=.b true/\h=[.obj c [.i (600-We b (600-v))]]/\0<=We b (600-v))∨(r=.b false/\h=[]/\We b (600-v)<0)):=by
 have hbz:=WU b
 have hbe:=N1 b (600-v)
 refine ZC 38 Tryz.func63 (ar (iA (YS b) fun b1=>?_))
 refine Z0 1 (ie (aq (ar (Z3 2 [0] (iw (WQ b.steps) (Z0 1 (ie (ab 0 (ZW (fun fz gz m F h=>∃(k:Nat) (q:Int),(k<=b.steps.length)/\(0<=q/\q<=600)/\(Ta (b.steps.drop k) (600-q)=Ta b.steps (600-v))/\F=sF [1,10,11] fz [(12,.i k)]/\h=[.obj c [.i q]]/\m=b.steps.length-k) _ _ _ ⟨0,v,ob,ob,rfl,rfl,rfl,rfl⟩ (wk [1] (Y0 fl)) ?_)))))))))
 rintro m F h ⟨k,q,Y5,Zl,Zw,rfl,rfl,rfl⟩
 refine ar (Z0 1 (ie (aq (ZE ((k:Int)<(b.steps.length:Int)) (fun Zb=>?_) (fun Zb=>?_)))))
 ·refine ak (aq (ab 1 (ar ?_)))
  obtain ⟨x1,Z2⟩:=Zs b.steps k om
  have hss:=TO Z2
  have hkz:=U4 x1
  refine Zo (Zh none (k:Int) 5 (XW Z2)) (Z0 1 (iA [.i 0,.i 0,.i 0,nl,nl] fun b2=>Zz 0 b2 (X7 x1) (ie (aq (ar (Z3 3 [1] (ia ((q+1)) ((q)+(1)) (Z0 1 (Zz 1 c [.i (q+1)] (ie (ar (Z3 4 [0] (ie (ZE ((q+1)>600) (fun Zg=>?_) (fun Zg=>?_)))))))))))))))
  ·exact ar (Z0 1 (ie (Z9 (r1 [] (.inr ⟨rfl,rfl,(by rw [hbe,<-Zw,Y3 Z2,Ta,Zm om];omega)⟩)))))
  refine ak (ar (Z3 2 [1] (iw (Va x1.kids) (Z0 1 (ie (ab 2 (ZW (fun fz gz m F h=>∃(j:Nat) (j2:Int),(j<=x1.kids.length)/\(0<=j2/\j2<=600)/\(Tw (x1.kids.drop j) (600-j2)=Tw x1.kids (600-(q+1)))/\F=sF [1,10,11,12,26,27] fz [(28,.i j)]/\h=[.obj c [.i j2]]/\m=x1.kids.length-j) _ _ _ ⟨0,(q+1),ob,ob,rfl,rfl,rfl,rfl⟩ (wk [0] (Y0 fl)) ?_)))))))
  rintro m F h ⟨j,j2,Vl,Xt,Xo,rfl,rfl,rfl⟩
  refine ar (Z0 1 (ie (aq (ZE ((j:Int)<(x1.kids.length:Int)) (fun Zy=>?_) (fun Zy=>?_)))))
  ·refine ak (aq (ab 3 (ar ?_)))
   obtain ⟨x2,Zp⟩:=Zs x1.kids j om
   have hks:=U3 Zp
   have hle:=Hp.2 x2 (600-j2) om
   refine Zo (Zh none (j:Int) 2 (VK Zp)) (Z0 1 (iA [nl,.i 0] fun b3=>Zz 0 b3 (YS x2) (ie (ar (Z3 2 [0] (ic [1] (ih x2 c j2 ob ob) ?_))))))
   rintro _ _ (⟨rfl,rfl,Y2⟩|⟨rfl,rfl,Yj⟩)
   ·refine Z0 1 (ie (WB (ak (az (ZD j (Z0 1 (ie ?_)))))))
    have hdr:=Y3 Zp
    exact ZG ⟨j+1,(600-We x2 (600-j2)),ob,ob,(by rw [Y3 Zp,Tw,Za om] at Xo;rw [show 600-(600-We x2 (600-j2))=We x2 (600-j2) by omega];exact Xo),rfl,rfl,rfl⟩ (wk [0] (ZJ j fl))
   exact Z0 1 (ie (WC (ar (Z0 1 (ie (Z9 (r1 [] (.inr ⟨rfl,rfl,(by rw [hbe,<-Zw,Y3 Z2,Ta,Za om,Zm (by rw [EN,show (600-q-1:Int)=600-(q+1) by omega,<-Xo,Y3 Zp,Tw,Zm Yj];omega)];omega)⟩))))))))
  have hE:Tw x1.kids (600-(q+1))=600-j2:=by rw [<-Xo,YY om,Tw]
  refine ax 2 (az (ZD k (Z0 1 (ie ?_))))
  have hdr:=Y3 Z2
  exact ZG ⟨k+1,j2,ob,ob,(by rw [Y3 Z2,Ta,Za om,EN,show (600-q-1:Int)=600-(q+1) by omega,hE,Za om] at Zw;exact Zw),rfl,rfl,rfl⟩ (wk [0] (ZJ k fl))
 refine ax 0 (ar (Z0 1 (ie ?_)))
 have hF:We b (600-v)=600-q:=by rw [hbe,<-Zw,YY om,Ta]
 exact Z9 (r1 [0] (.inl ⟨rfl,rfl,om⟩) (eq:=(ro (ls:=[.i q]) (by rw [hF,show (600-(600-q):Int)=q by omega]) rz)))
theorem Z3i:∀(b:Z5) (c:Nat) (v:Int),(b.sz<=1000000000)->(0<=v/\v<=600)->Zi 63 [ZH b,.p c 0] [.obj c [.i v]] (fun r h=>(r=.b true/\h=[.obj c [.i (600-We b (600-v))]]/\0<=We b (600-v))∨(r=.b false/\h=[]/\We b (600-v)<0)):=by
 have key:∀m:Nat,∀(b:Z5) (c:Nat) (v:Int),(b.sz<=m)->(b.sz<=1000000000)->(0<=v/\v<=600)->Zi 63 [ZH b,.p c 0] [.obj c [.i v]] (fun r h=>(r=.b true/\h=[.obj c [.i (600-We b (600-v))]]/\0<=We b (600-v))∨(r=.b false/\h=[]/\We b (600-v)<0)):=by
  intro m
  induction m with
  | zero=>intro b c v h;have:=b.sz_pos;omega
  | succ m ih=>intro b c v h1 h2 h3;exact Z3j b c v h2 h3 fun b2 c2 v2 k1 k2=>ih b2 c2 v2 om om k2
 intro b c v h2 h3
 exact key b.sz b c v (YT _) h2 h3
theorem Z38 (b:Z5) (hb:b.sz<=1000000000:=by exact ob):Zi 22 [ZH b] [] (Y6 (.i (T0 b))):=by
 refine ZC 8 Tryz.func22 (ar (iA (YS b) fun b1=>Z0 1 (ie (ar (iA [.i 0] fun b2=>Zz 0 b2 [.i 0] (ie (aq (ar (Z3 1 [1] (ic [0] (Z3i b b2 0 ob ob) ?_))))))))))
 rintro _ _ (⟨rfl,rfl,Y2⟩|⟨rfl,rfl,Yj⟩)
 ·have h0:=Y2
  rw [show (600-0:Int)=600 from rfl] at h0
  exact Z0 1 (ie (WB (ak (ar (Z3 2 [0] (ie (Z9 (ZP (.i (600-We b (600-0))) (li (by rw [show (600-0:Int)=600 from rfl,T0,Za om]))))))))))
 have h0:=Yj
 rw [show (600-0:Int)=600 from rfl] at h0
 exact Z0 1 (ie (WC (ar (Z0 1 (ie (Z9 (ZP (.i (-1)) (li (by rw [T0,Zm h0])))))))))
theorem Z3w (ds:List Ze) (fs:List WA) (hz:Qj ds:=by exact ob) (hf:∀f∈fs,f.pms.length<=4194304/\f.lnt.length<=4194304) (hfl:fs.length<=4194304:=by exact ob):Zi 90 [Ya ds,C0 fs] [] (Y6 (.b (K1 ds fs))):=by
 have hzl:=hz.len
 refine ZC 102 Tryz.func90 (ar (Z0 1 (ie (aq (ar (Z0 1 (Zx [] (Z39 ds) (Xv 8 [0,1] [(16,.b ((!Wm ds)||(decide ((fs.length:Int)<1))))] (fun gz=>gz) ?_ (fun hj1=>?_)))))))))
 ·refine Xv 13 [0,1] [(21,.b (((!Wm ds)||(decide ((fs.length:Int)<1)))||(decide ((fs.length:Int)>4))))] (fun gz=>gz) ?_ (fun hj2=>?_)
  ·refine Z0 1 (ib (b:=(((!Wm ds)||(decide ((fs.length:Int)<1)))||(decide ((fs.length:Int)>4)))) 22 (fun Zf=>?_) (fun Zf=>?_))
   ·have Y2:((¬(Wm ds=true))∨((fs.length:Int)<1))∨((fs.length:Int)>4):=((Yn (Yn (Yv Iff.rfl) dq) dq)).1 Zf
    exact Z0 14 (ie (WC (ar (Z0 1 (ie (Z9 (ZP (.b false) (lb (Zbv (by assumption))))))))))
   have Yj:¬(((¬(Wm ds=true))∨((fs.length:Int)<1))∨((fs.length:Int)>4)):=Yf (Yn (Yn (Yv Iff.rfl) dq) dq) Zf
   refine Z0 1 ?_
   obtain ⟨x1,Z2⟩:=Zs fs 0 om
   refine Zo (Zh none 0 3 (BG Z2)) (Z0 2 (iw (Y7 x1.pms) (Z0 3 (ib (b:=(decide ((x1.pms.length:Int)>0))) 30 (fun ZF=>?_) (fun ZF=>?_)))))
   ·have YJ:(x1.pms.length:Int)>0:=(dq).1 ZF
    exact Z0 6 (ie (WC (ar (Z0 1 (ie (Z9 (ZP (.b false) (lb (Pt Z2 (.inl (by assumption)))))))))))
   have YR:¬((x1.pms.length:Int)>0):=Yf dq ZF
   refine Z0 1 (Zo (Zh none 0 3 (BG Z2)) (Z0 4 (ie (ac (x1.res != 0) Ye (fun Zb=>?_) (fun Zb=>?_)))))
   ·exact ar (Z0 1 (ie (Z9 (ZP (.b false) (lb (Pt Z2 (.inr Zb)))))))
   refine ak (aq (ar (Z0 1 (iw (Cx fs) (Z0 1 (ie (ab 0 (ZW (fun fz gz m F h=>∃(k:Nat),(k<=fs.length)/\(Qv ds.length (fs.drop k)=Qv ds.length fs)/\F=sF [0,37,38] fz [(39,.i k)]/\h=gz/\m=fs.length-k) _ _ _ ⟨0,ob,ob,rfl,rfl,rfl⟩ (wk [] (Y0 fl)) ?_))))))))
   rintro m F h ⟨k,Y5,Zl,rfl,rfl,rfl⟩
   refine ar (Z0 1 (ie (aq (ZE ((k:Int)<(fs.length:Int)) (fun Zg=>?_) (fun Zg=>?_)))))
   ·refine ak (aq (ab 1 (ar ?_)))
    obtain ⟨x2,Zp⟩:=Zs fs k om
    have hf2:=hf _ (ZY Zp)
    refine Zo (Zh none (k:Int) 3 (BG Zp)) (Z0 1 (iA [nl,nl,.i 0] fun b1=>Zz 0 b1 (MW x2) (ie (aq (ar (Z3 2 [0] (iw (Y7 x2.pms) (Xv 11 [0,6,37,38,39] [(53,.b ((decide ((x2.pms.length:Int)>3))||(!XP ds.length x2.pms)))] (fun gz=>gz) ?_ (fun hj3=>?_)))))))))
    ·refine X5 [0,6,37,38,39] [(60,.b (((decide ((x2.pms.length:Int)>3))||(!XP ds.length x2.pms))||(!(decide (0<=x2.res/\x2.res<=ds.length)))))] (fun gz=>gz) ?_ ?_
     ·refine Z0 1 (ib (b:=((decide ((x2.pms.length:Int)>3))||(!XP ds.length x2.pms))) 54 (fun Yx=>?_) (fun Yx=>?_))
      ·have X6:((x2.pms.length:Int)>3)∨(¬(XP ds.length x2.pms=true)):=((Yn dq (Yv Iff.rfl))).1 Yx
       exact Z0 6 (ie (wk [0] (Zq true Yx fl)))
      have XS:¬(((x2.pms.length:Int)>3)∨(¬(XP ds.length x2.pms=true))):=Yf (Yn dq (Yv Iff.rfl)) Yx
      exact Z3 3 [0] (Zx [] (EB ds x2.res) (Z0 2 (ie (wk [0] (Zq (!(decide (0<=x2.res/\x2.res<=ds.length))) Yx fl)))))
     refine ac (((decide ((x2.pms.length:Int)>3))||(!XP ds.length x2.pms))||(!(decide (0<=x2.res/\x2.res<=ds.length)))) (p:=(((x2.pms.length:Int)>3)∨(¬(XP ds.length x2.pms=true)))∨(¬(0<=x2.res/\x2.res<=ds.length))) (Yn (Yn dq (Yv Iff.rfl)) (Yv dq)) (fun Zy=>?_) (fun Zy=>?_)
     ·exact ar (Z0 1 (ie (Z9 (ZP (.b false) (lb (Fy (Fi Zp (Z8k Zy) Zl)))))))
     refine ak (ar (Z3 2 [0] (iw (Y7 x2.lnt) (Z0 1 (ie (ab 2 (ZW (fun fz gz m F h=>∃(j:Nat),(j<=x2.lnt.length)/\(Qt x2.pms (x2.lnt.drop j) (if j=0 then none else x2.lnt[j-1]?)=Kq x2.pms x2.lnt)/\F=sF [0,6,37,38,39,62,63] fz [(64,.i j)]/\h=gz/\m=x2.lnt.length-j) _ _ _ ⟨0,ob,(by rfl),rfl,rfl,rfl⟩ (wk [0] (Y0 fl)) ?_)))))))
     rintro m F h ⟨j,Vl,Xt,rfl,rfl,rfl⟩
     refine ar (Z0 1 (ie (aq (ZE ((j:Int)<(x2.lnt.length:Int)) (fun Y9=>?_) (fun Y9=>?_)))))
     ·refine ak (aq (ab 3 (ar (Z0 1 ?_))))
      obtain ⟨x3,YG⟩:=Zs x2.lnt j om
      refine Zo (Zh none (j:Int) 1 (ZX YG)) (Z0 3 (ie (ar (Xv 9 [0,6,7,8,37,38,39,62,63,64] [(77,.b ((decide (x3<0))||(decide (x3>=(x2.pms.length:Int)))))] (fun gz=>gz) ?_ (fun hj4=>?_)))))
      ·refine Z0 1 (ib (b:=((decide (x3<0))||(decide (x3>=(x2.pms.length:Int))))) 78 (fun YX=>?_) (fun YX=>?_))
       ·have Wq:(x3<0)∨(x3>=(x2.pms.length:Int)):=((Yn dq dq)).1 YX
        exact Z0 21 (ie (WC (ar (Z0 1 (ie (Z9 (ZP (.b false) (lb (Fy (Fi Zp (HR (Hr YG (by rintro ⟨q1,q2,q3⟩;first|omega|(rw [Vs] at q2;exact q2 (Yc some om))|(have:=q3 _ (by rw [Za om];exact UL);omega)) Xt)) Zl))))))))))
       have V6:¬((x3<0)∨(x3>=(x2.pms.length:Int))):=Yf (Yn dq dq) YX
       refine Z3 3 [0] ?_
       obtain ⟨x4,Vs⟩:=Zs x2.pms x3.toNat om
       refine Zo (Zh none x3 1 (ZX Vs)) (Z0 4 (ib (b:=(x4==0)) 86 (fun W6=>?_) (fun W6=>?_)))
       ·have Ve:x4=0:=(Zr).1 W6
        exact Z0 13 (ie (WC (ar (Z0 1 (ie (Z9 (ZP (.b false) (lb (Fy (Fi Zp (HR (Hr YG (by rintro ⟨q1,q2,q3⟩;first|omega|(rw [Vs] at q2;exact q2 (Yc some om))|(have:=q3 _ (by rw [Za om];exact UL);omega)) Xt)) Zl))))))))))
       have UK:¬(x4=0):=Yf Zr W6
       refine Z0 3 (ib (b:=(decide ((j:Int)>0))) 89 (fun Wx=>?_) (fun Wx=>?_))
       ·have UY:(j:Int)>0:=(dq).1 Wx
        refine Z3 4 [0] (ia (((j-1:Nat):Int)) (((j:Int))-(1)) ?_)
        obtain ⟨x5,UL⟩:=Zs x2.lnt (j-1) om
        refine Zo (Zh none ((j-1:Nat):Int) 1 (ZX UL)) (Z0 4 (ie (ZE (x3<=x5) (fun X0=>?_) (fun X0=>?_))))
        ·exact ar (Z0 1 (ie (Z9 (ZP (.b false) (lb (Fy (Fi Zp (HR (Hr YG (by rintro ⟨q1,q2,q3⟩;first|omega|(rw [Vs] at q2;exact q2 (Yc some om))|(have:=q3 _ (by rw [Za om];exact UL);omega)) Xt)) Zl)))))))
        refine ak (az (ZD j (Z0 1 (ie ?_))))
        have hdr:=Y3 YG
        exact ZG ⟨j+1,ob,(N2 YG ⟨by omega,(by rw [Vs];intro q;cases q;omega),fun p hp=>by first|(rw [Zm om] at hp;cases hp;done)|(rw [Za om,UL] at hp;cases hp;omega)⟩ Xt),rfl,rfl,rfl⟩ (wk [0] (ZJ j fl))
       have Uv:¬((j:Int)>0):=Yf dq Wx
       refine Z0 10 (ie (WB (ak (az (ZD j (Z0 1 (ie ?_)))))))
       have hdr:=Y3 YG
       exact ZG ⟨j+1,ob,(N2 YG ⟨by omega,(by rw [Vs];intro q;cases q;omega),fun p hp=>by first|(rw [Zm om] at hp;cases hp;done)|(rw [Za om,UL] at hp;cases hp;omega)⟩ Xt),rfl,rfl,rfl⟩ (wk [0] (ZJ j fl))
      refine Z0 3 (ib (b:=(decide (x3<0))) 71 (fun WR=>?_) (fun WR=>?_))
      ·have TI:x3<0:=(dq).1 WR
       exact Z0 6 (Yp (wk [0] (Zq true WR fl)) hj4)
      have Tt:¬(x3<0):=Yf dq WR
      exact Z3 3 [0] (iw (Y7 x2.pms) (Z0 2 (Yp (wk [0] (Zq (decide (x3>=(x2.pms.length:Int))) WR fl)) hj4)))
     have hL:Kq x2.pms x2.lnt=true:=by rw [<-Xt,YY om];rfl
     have hS:=Z8l Zy hL
     refine ax 2 (az (ZD k (Z0 1 (ie ?_))))
     have hdr:=Y3 Zp
     exact ZG ⟨k+1,ob,(Z94 Zp hS Zl),rfl,rfl,rfl⟩ (wk [] (ZJ k fl))
    refine Z0 2 (ib (b:=(decide ((x2.pms.length:Int)>3))) 47 (fun WD=>?_) (fun WD=>?_))
    ·have QM:(x2.pms.length:Int)>3:=(dq).1 WD
     exact Z0 6 (Yp (wk [0] (Zq true WD fl)) hj3)
    have QN:¬((x2.pms.length:Int)>3):=Yf dq WD
    exact Z3 3 [0] (Zx [] (Mu ds x2.pms) (Z0 2 (Yp (wk [0] (Zq (!XP ds.length x2.pms) WD fl)) hj3)))
   exact ax 0 (ar (Z0 1 (ie (Z9 (ZP (.b true) (lb (Zbw (by assumption) Z2 (by assumption) Zb (by rw [<-Zl,YY om];rfl))))))))
  refine Z0 1 (ib (b:=((!Wm ds)||(decide ((fs.length:Int)<1)))) 17 (fun WE=>?_) (fun WE=>?_))
  ·have Af:(¬(Wm ds=true))∨((fs.length:Int)<1):=((Yn (Yv Iff.rfl) dq)).1 WE
   exact Z0 4 (Yp (wk [] (Zq true WE fl)) hj2)
  have Kf:¬((¬(Wm ds=true))∨((fs.length:Int)<1)):=Yf (Yn (Yv Iff.rfl) dq) WE
  exact Z0 1 (iw (Cx fs) (Z0 2 (Yp (wk [] (Zq (decide ((fs.length:Int)>4)) WE fl)) hj2)))
 refine Z0 2 (ib (b:=(!Wm ds)) 12 (fun TG=>?_) (fun TG=>?_))
 ·have Mo:¬(Wm ds=true):=((Yv Iff.rfl)).1 TG
  exact Z0 4 (Yp (wk [] (Zq true TG fl)) hj1)
 have Mp:¬(¬(Wm ds=true)):=Yf (Yv Iff.rfl) TG
 exact Z0 1 (iw (Cx fs) (Z0 2 (Yp (wk [] (Zq (decide ((fs.length:Int)<1)) TG fl)) hj1)))
theorem Z3o (n:Zt) (hz:Um n:=by exact ob):Zi 54 [Y8 n] [] (fun r h=>(r=.tup [.agg [Ya n.decls,Th n],.b (Ux n)]/\h=[]/\n.routines.length<=4)∨(r=.tup [.agg [Ya [],C0 []],.b false]/\h=[]/\Ux n=false)):=by
 have hzl:=hz.len
 refine ZC 41 Tryz.func54 (ar (iA (Yz n) fun b1=>iA [nl,nl] fun b2=>Z0 1 (ie (aq (ar (Z3 2 [1] (iw (Vo n.routines) (Z0 1 (ie (ZE ((n.routines.length:Int)>4) (fun Zb=>?_) (fun Zb=>?_)))))))))))
 ·exact ar (Z0 1 (Zz 0 b2 [nl,nl] (Z0 1 (ie (Z9 (r3 [] [.agg [nl,nl],.b false] [0] [(b2,b2)] (.inr ⟨rfl,rfl,(by rw [N9,decide_eq_false om];rfl)⟩) (Zc.tup (.cons (Zc.agg (.cons (Zc.sl _ rfl) (.cons (Zc.sl _ rfl) .nil))) (.cons (lr _) .nil)))))))))
 refine ak (ar (Z3 3 [1] (iA [nl,nl] fun b3=>?_)))
 refine Zz 0 b3 [Ya n.decls,nl] (ie (aq (ar (Z3 2 [2] (iw (Vo n.routines) (Z0 1 (ie (ab 0 (AL 3 (ZW (fun fz gz m F h=>∃(k:Nat) (v:Value),(k<=n.routines.length)/\F=sF [1,2,4,16,17] fz [(18,.i k)]/\h=[.obj b3 [Ya n.decls,EV ((n.routines.take k).map XB) v],Zk gz 2,Zk gz 3,.tail v 3]/\m=n.routines.length-k) _ _ _ ⟨0,(.slice none 0 0),ob,rfl,rfl,rfl⟩ (wk [1,1,1,0] (Y0 fl)) ?_))))))))))
 rintro m F h ⟨k,v,Y5,rfl,rfl,rfl⟩
 refine ar (Z0 1 (ie (aq (ZE ((k:Int)<(n.routines.length:Int)) (fun Zg=>?_) (fun Zg=>?_)))))
 ·refine ak (aq (ab 1 (ar ?_)))
  obtain ⟨x1,Z2⟩:=Zs n.routines k om
  refine Zo (Zh none (k:Int) 5 (Wi Z2)) (Z0 1 (iA [nl,nl,.i 0,nl,.i 0] fun b4=>Zz 0 b4 (T9 x1) (ie (az (Z3 9 [1,0,0,0] (iL (UH [WA.mk x1.params x1.lent x1.result]) 1 3 fun v1=>ZM 0 [(31,C0 [WA.mk x1.params x1.lent x1.result])] (ip 5 (UH ((n.routines.take (k+1)).map XB)) (UH ((n.routines.take k).map XB)) (UH [WA.mk x1.params x1.lent x1.result]) v none 3 (Lo _) (Lo _) (SG _) (by simp<;>omega) (by rw [Wu Z2];simp [UH,XB]) fun v2=>Z0 1 (Zz 3 b3 [Ya n.decls,EV ((n.routines.take (k+1)).map XB) v2] (ie (az (ZD k (Z0 1 (ie ?_)))))))))))))
  have hdr:=Y3 Z2
  exact ZG ⟨k+1,v2,ob,rfl,rfl,rfl⟩ (wk [0,3,3,0] (ZJ k fl))
 refine ax 0 (aD 8 (BA 3 8 [0,1,2,3,4] [(39,C0 ((n.routines.take k).map XB))] [0,2,0] (Z8 5 (Yg 5 [] [0] [b3] (Z3w n.decls ((n.routines.take k).map XB) (hz:=hz.decls) (hf:=(by intro f hf;obtain ⟨r,h1,rfl⟩:=XD.1 hf;have:=TR h1;exact ⟨hz.params r this,hz.lent r this⟩))) (Z8 6 (YC 6 1 [] [] b2 [Ya n.decls,EV ((n.routines.take k).map XB) v] (Zj 0 1 [7] (de ?_))))))))
 have htk:n.routines.take k=n.routines:=WK om
 exact Z9 (r3 [] [.agg [Ya n.decls,EV ((n.routines.take k).map XB) v],.b (K1 n.decls ((n.routines.take k).map XB))] [0] [(b2,b2)] (.inl ⟨rfl,rfl,om⟩) (Zc.tup (.cons (Zc.agg (.cons (lr _) (.cons (Zc.sl _ (Yc UH (by rw [htk]))) .nil))) (.cons (lb (by rw [htk,N9,decide_eq_true (p:=n.routines.length<=4) om,Bool.true_and])) .nil))))
theorem Z3t (n:Zt) (t:Int) (hn:YZ n:=by exact ob):Zi 131 [.agg [Ya n.decls,Th n],.i t] [] (Y6 (QS ((ZT n.decls t).map (ZQ n.decls)))):=by
 have Xh:=hn.decls
 have hcl:=Hx Xh t
 refine ZC 26 Tryz.func131 (ar (iA [Ya n.decls,Th n] fun b1=>?_))
 refine Z0 1 (ie (ar (Z0 1 (ie (aq (ar (Z3 3 [0] (Zx [] (Z3h n.decls t) (io (.i (((ZT n.decls t).length:Nat):Int)) (.i (((Z7 (ZT n.decls t)).length:Nat):Int)) (li (by rw [Y7])) (Z0 1 (ie (ab 0 (AL 1 (ZW (fun fz gz m F h=>∃(k:Nat) (v:Value),(k<=(ZT n.decls t).length)/\F=sF [2,11,12] fz [(5,C2 (((ZT n.decls t).take k).map (ZQ n.decls)) v),(13,.i k)]/\h=[Zk gz 1,.tail v 1]/\m=(ZT n.decls t).length-k) _ _ _ ⟨0,(.slice none 0 0),ob,rfl,rfl,rfl⟩ (wk [1,0] (fc (x:=nl) (Zc.slh _ rfl) (Y0 fl))) ?_))))))))))))))
 rintro m F h ⟨k,v,Y5,rfl,rfl,rfl⟩
 refine ar (Z0 1 (ie (aq (ZE ((k:Int)<(((ZT n.decls t).length:Nat):Int)) (fun Zb=>?_) (fun Zb=>?_)))))
 ·refine ak (aq (ab 1 (ar ?_)))
  obtain ⟨x1,Z2⟩:=Zs (ZT n.decls t) k om
  refine Zo (Zh none (k:Int) 1 (ZX Z2)) (Z0 2 (ie (az (Z3 4 [0] (Zx [] (Z3k n.decls x1 (hc:=(by have:=RP Xh Z2;omega))) (iL (XX [ZQ n.decls x1]) 1 1 fun v1=>ZM 0 [(22,QS [ZQ n.decls x1])] (ip 2 (XX (((ZT n.decls t).take (k+1)).map (ZQ n.decls))) (XX (((ZT n.decls t).take k).map (ZQ n.decls))) (XX [ZQ n.decls x1]) v none 1 (A7 _) (A7 _) (E6 _) (by simp;omega) (by rw [Wu Z2];simp [XX]) fun v2=>Z0 1 (ie (az (ZD k (Z0 1 (ie ?_))))))))))))
  have hdr:=Y3 Z2
  exact ZG ⟨k+1,v2,ob,rfl,rfl,rfl⟩ (wk [2,0] (fr (ZJ k fl)))
 exact ax 0 (ar (Z0 2 (ie (Z9 (ZP (C2 (((ZT n.decls t).take k).map (ZQ n.decls)) v) (Zc.sl _ (Yc XX (by rw [WK om]))))))))
theorem Z3u (n:Zt) (op:Int) (num:Int) (ts:LI) (hn:YZ n:=by exact ob) (hl_ts:ts.length<=4294967296:=by exact ob) (hnum:-9223372036854775808<=num/\num<=9223372036854775807:=by exact ob):Zi 132 [.agg [Ya n.decls,Th n],.i op,.i num,Z6 ts] [] (fun r h=>∃(t:Int),r=.tup [.i t,.b ((Xk n op num ts).isSome)]/\h=[]/\∀x,Xk n op num ts=some x->t=x):=by
 have Xh:=hn.decls
 have hrl:=hn.len
 have hcfl:(ZQ n.decls num).length<=4294967296:=by have:=VI Xh num;omega
 have hdl:n.decls.length<=4294967296:=by have:=Xh.len;omega
 refine ZC 149 Tryz.func132 (ar (iA [Ya n.decls,Th n] fun b1=>Z0 2 (ie (ar (Z0 2 (ie (aq (ar (Z0 1 (ie (ab 0 (ar (Z0 2 (ie (ac (op==0) Zr (fun Zb=>?_) (fun Zb=>?_))))))))))))))))
 ·refine ar (Xv 6 [3] [(26,.b ((decide (num>=(-999)))&&(decide (num<=999))))] (fun gz=>gz) ?_ (fun hj1=>?_))
  ·refine Xv 11 [] [(31,.b (((decide (num>=(-999)))&&(decide (num<=999)))&&((ts.length:Int)==0)))] (fun gz=>gz) ?_ (fun hj2=>?_)
   ·refine Z0 2 (ie ?_)
    have hF:=sf0 (n:=n) (num:=num) (ts:=ts) Zb
    exact Z9 (r2 [] [.i 0,.b (((decide (num>=(-999)))&&(decide (num<=999)))&&((ts.length:Int)==0))] ⟨0,rfl,rfl,(At hF)⟩ (Zc.tup (.cons (lr _) (.cons (lb (As hF (by simp [*];try omega))) .nil))))
   refine Z0 1 (ib (b:=((decide (num>=(-999)))&&(decide (num<=999)))) 27 (fun Zf=>?_) (fun Zf=>?_))
   ·have Y2:(num>=(-999))/\(num<=999):=((YA dq dq)).1 Zf
    exact Z0 1 (iw (Y7 ts) (Z0 2 (Yp (wk [0] (Zq ((ts.length:Int)==0) Zf fl)) hj2)))
   have Yj:¬((num>=(-999))/\(num<=999)):=Yf (YA dq dq) Zf
   exact Z0 4 (Yp (wk [0] (Zq false Zf fl)) hj2)
  refine Z0 3 (ib (b:=(decide (num>=(-999)))) 23 (fun ZF=>?_) (fun ZF=>?_))
  ·have YJ:num>=(-999):=(dq).1 ZF
   exact Z0 3 (Yp (wk [0] (Zq (decide (num<=999)) ZF fl)) hj1)
  have YR:¬(num>=(-999)):=Yf dq ZF
  exact Z0 3 (Yp (wk [0] (Zq false ZF fl)) hj1)
 refine aq (ar (Z0 2 (ie (Xy (fun fz gz F h=>F=sF [1,2,3,4,11,18] fz [(32,.b ((op==1)||((op==2)||((op==3)||(op==4)))))]/\h=gz) ?_ ?_))))
 ·refine ac (op==1) Zr (fun Zg=>?_) (fun Zg=>?_)
  ·exact ak (ZO ⟨rfl,rfl⟩ (wk [0] (fc (x:=.b (op==1)) (lb (by first|rfl|(rw [Zm Zg])|(rw [Za Zg])|(simp [Zg];done)|(rw [X8];simp [Zg];done)|omega)) fl)))
  refine ar (Z0 2 (ie (ac (op==2) Zr (fun Zy=>?_) (fun Zy=>?_))))
  ·exact ak (ZO ⟨rfl,rfl⟩ (wk [0] (fc (x:=.b (op==2)) (lb (by first|rfl|(rw [Zm Zg])|(rw [Za Zg])|(simp [Zg,Zy];done)|(rw [X8];simp [Zg,Zy];done)|omega)) fl)))
  refine ar (Z0 2 (ie (ac (op==3) Zr (fun Y9=>?_) (fun Y9=>?_))))
  ·exact ak (ZO ⟨rfl,rfl⟩ (wk [0] (fc (x:=.b (op==3)) (lb (by first|rfl|(rw [Zm Zg])|(rw [Za Zg])|(simp [Zg,Zy,Y9];done)|(rw [X8];simp [Zg,Zy,Y9];done)|omega)) fl)))
  exact az (Z0 2 (ie (ZO ⟨rfl,rfl⟩ (wk [0] (fc (x:=.b (op==4)) (lb (by first|rfl|(rw [Zm Zg])|(rw [Za Zg])|(simp [Zg,Zy,Y9];done)|(rw [X8];simp [Zg,Zy,Y9];done)|omega)) fl)))))
 rintro F h ⟨rfl,rfl⟩
 refine ac ((op==1)||((op==2)||((op==3)||(op==4)))) (p:=(op=1)∨((op=2)∨((op=3)∨(op=4)))) (Yn Zr (Yn Zr (Yn Zr Zr))) (fun X0=>?_) (fun X0=>?_)
 ·refine az (iL (Z7 [0,0]) 2 1 fun v1=>Z0 1 (ie (ar (Xv 8 [] [(141,.i 0),(148,.b ((num==0)&&(decide (ts=[0,0]))))] (fun gz=>gz) ?_ (fun hj3=>?_)))))
  ·refine Z0 2 (ie ?_)
   have hF:=sf1 (n:=n) (num:=num) (ts:=ts) X0
   exact Z9 (r2 [] [.i 0,.b ((num==0)&&(decide (ts=[0,0])))] ⟨0,rfl,rfl,(At hF)⟩ (Zc.tup (.cons (lr _) (.cons (lb (As hF (by simp [*];try omega))) .nil))))
  refine Z0 4 (ib (b:=(num==0)) 144 (fun Yx=>?_) (fun Yx=>?_))
  ·have X6:num=0:=(Zr).1 Yx
   exact ZM 2 [(146,Z6 [0,0])] (Zx [] (Ds ts [0,0]) (Z0 1 (Yp (wk [0,0] (fr (Zq (decide (ts=[0,0])) Yx fl))) hj3)))
  have XS:¬(num=0):=Yf Zr Yx
  exact Z0 4 (Yp (wk [0,0] (fr (Zq false Yx fl))) hj3)
 refine ar (Z0 2 (ie (ac (op==5) Zr (fun X9=>?_) (fun X9=>?_))))
 ·refine az (iL (Z7 [0]) 1 1 fun v2=>Z0 1 (ie (ar (Xv 8 [] [(141,.i 0),(148,.b ((num==0)&&(decide (ts=[0]))))] (fun gz=>gz) ?_ (fun hj4=>?_)))))
  ·refine Z0 2 (ie ?_)
   have hF:=sf5 (n:=n) (num:=num) (ts:=ts) X9
   exact Z9 (r2 [] [.i 0,.b ((num==0)&&(decide (ts=[0])))] ⟨0,rfl,rfl,(At hF)⟩ (Zc.tup (.cons (lr _) (.cons (lb (As hF (by simp [*];try omega))) .nil))))
  refine Z0 4 (ib (b:=(num==0)) 144 (fun YX=>?_) (fun YX=>?_))
  ·have Wq:num=0:=(Zr).1 YX
   exact ZM 2 [(146,Z6 [0])] (Zx [] (Ds ts [0]) (Z0 1 (Yp (wk [0,0] (fr (Zq (decide (ts=[0])) YX fl))) hj4)))
  have V6:¬(num=0):=Yf Zr YX
  exact Z0 4 (Yp (wk [0,0] (fr (Zq false YX fl))) hj4)
 refine ar (Z0 2 (ie (ac (op==11) Zr (fun Vr=>?_) (fun Vr=>?_))))
 ·refine aq (ar (Z0 1 (iw (Y7 ts) (Z0 1 (ie (ac ((ts.length:Int) != 2) Ye (fun Vd=>?_) (fun Vd=>?_)))))))
  ·refine ar (Z0 2 (ie ?_))
   have hF:=Z91 (n:=n) (num:=num) Vr Vd
   exact Z9 (r2 [] [.i (-1),.b false] ⟨(-1),rfl,rfl,(Dr hF)⟩ (Zc.tup (.cons (lr _) (.cons (lb (Dq hF)) .nil))))
  refine ak (aD 12 (ZL 9 12 [0,1,2] [0] ?_))
  obtain ⟨x1,Z2⟩:=Zs ts 0 om
  refine dx 3 (Zh none 0 1 (ZX Z2)) (Zj 7 8 [4] (Ka (fun fz gz F h=>∃(b2:Nat),F=sF [2,3] fz [(12,.p b2 0),(13,.b (XA n.decls x1))]/\h=[.obj b2 (UN (V7 n.decls x1)),Zk gz 0]) ?_ ?_))
  ·refine V9 5 9 ?_ ?_
   ·exact Yg 5 [] [] [] (Ez n.decls x1) (Zj 3 6 [6,7,8] (Z8 9 (dA 9 [] [] [.i 0,.i 0,nl] fun b2=>Z8 10 (YC 10 0 [] [] b2 (UN (V7 n.decls x1)) (Zj 0 1 [11] (de (ZO ⟨b2,rfl,rfl⟩ (wk [0,0] fl))))))))
   exact dA 9 [0] [b1] [.i 0,.i 0,nl] fun b3=>Z8 5 (Yg 5 [] [] [] (Ez n.decls x1) (Zj 2 5 [6,7,8] (Z8 10 (YC 10 0 [] [] b3 (UN (V7 n.decls x1)) (Zj 0 1 [11] (de (ZO ⟨b3,rfl,rfl⟩ (wk [0,0] fl))))))))
  rintro F h ⟨b2,rfl,rfl⟩
  refine aD 17 (ZL 13 17 [0,1,2,3] [0] (db (b:=XA n.decls x1) 58 (fun W6=>?_) (fun W6=>?_)))
  ·have Ve:XA n.decls x1=true:=(Iff.rfl).1 W6
   refine Zj 12 13 [4] ?_
   obtain ⟨x2,Zp⟩:=Zs ts 1 om
   refine dx 5 (Zh none 1 1 (ZX Zp)) (ZL 4 11 [6,7,8,9,10,11,15] [0] (db (b:=(x2==((V7 n.decls x1).frm))) 66 (fun Wx=>?_) (fun Wx=>?_)))
   ·have UK:x2=((V7 n.decls x1).frm):=(Zr).1 Wx
    refine Zj 0 4 [12,13,14,16] (de ?_)
    have hF:=HV (n:=n) (num:=num) Vr Vd Z2 Zp
    exact Z9 (r2 [] [.i ((V7 n.decls x1).to_),.b (num==0)] ⟨(V7 n.decls x1).to_,rfl,rfl,(At hF)⟩ (Zc.tup (.cons (lr _) (.cons (lb (As hF (by simp [*];try omega))) .nil))))
   have UY:¬(x2=((V7 n.decls x1).frm)):=Yf Zr Wx
   refine Zj 0 4 [12,13,14,16] (de ?_)
   have hF:=HV (n:=n) (num:=num) Vr Vd Z2 Zp
   exact Z9 (r2 [] [.i ((V7 n.decls x1).to_),.b false] ⟨(V7 n.decls x1).to_,rfl,rfl,(At hF)⟩ (Zc.tup (.cons (lr _) (.cons (lb (As hF (by simp [*]))) .nil))))
  have Uv:¬(XA n.decls x1=true):=Yf Iff.rfl W6
  refine Zj 0 13 [4,5,6,7,8,9,10,11,12,13,14,15,16] (de ?_)
  have hF:=Z90 (n:=n) (num:=num) Vr Vd Z2 (by assumption)
  exact Z9 (r2 [] [.i ((V7 n.decls x1).to_),.b false] ⟨(V7 n.decls x1).to_,rfl,rfl,(Dr hF)⟩ (Zc.tup (.cons (lr _) (.cons (lb (Dq hF)) .nil))))
 refine ar (Z0 2 (ie (ac (op==6) Zr (fun VB=>?_) (fun VB=>?_))))
 ·refine ar (Z3 3 [0] (Zx [] (Mv n.decls num) (Z0 3 (iA [nl] fun b4=>Z0 1 (Zz 0 b4 [Z6 (ZQ n.decls num)] (ie (ar (Xv 9 [] [(79,.i (XL n.decls num)),(87,.b ((decide ((XL n.decls num)>=0))&&(decide (ts=(ZQ n.decls num)))))] (fun gz=>gz) ?_ (fun hj5=>?_)))))))))
  ·refine Z0 2 (ie ?_)
   have hF:=sf6 (n:=n) (num:=num) (ts:=ts) VB
   exact Z9 (r2 [] [.i (XL n.decls num),.b ((decide ((XL n.decls num)>=0))&&(decide (ts=(ZQ n.decls num))))] ⟨XL n.decls num,rfl,rfl,(At hF)⟩ (Zc.tup (.cons (lr _) (.cons (lb (As hF (by simp [*];try omega))) .nil))))
  refine Z0 4 (ib (b:=(decide ((XL n.decls num)>=0))) 82 (fun WR=>?_) (fun WR=>?_))
  ·have TI:(XL n.decls num)>=0:=(dq).1 WR
   exact Z3 3 [0] (Zx [] (Ds ts (ZQ n.decls num)) (Z0 1 (Yp (wk [0,0] (fr (Zq (decide (ts=(ZQ n.decls num))) WR fl))) hj5)))
  have Tt:¬((XL n.decls num)>=0):=Yf dq WR
  exact Z0 5 (Yp (wk [0,0] (fr (Zq false WR fl))) hj5)
 refine aq (ar (Z0 2 (ie (Xy (fun fz gz F h=>F=sF [1,2,3,4] fz [(88,.b ((op==9)||(op==10)))]/\h=gz) ?_ ?_))))
 ·refine ac (op==9) Zr (fun UJ=>?_) (fun UJ=>?_)
  ·exact ak (ZO ⟨rfl,rfl⟩ (wk [0] (fc (x:=.b (op==9)) (lb (by first|rfl|(rw [Zm UJ])|(rw [Za UJ])|(simp [UJ];done)|(rw [X8];simp [UJ];done)|omega)) fl)))
  exact az (Z0 2 (ie (ZO ⟨rfl,rfl⟩ (wk [0] (fc (x:=.b (op==10)) (lb (by first|rfl|(rw [Zm UJ])|(rw [Za UJ])|(simp [UJ];done)|(rw [X8];simp [UJ];done)|omega)) fl)))))
 rintro F h ⟨rfl,rfl⟩
 refine ac ((op==9)||(op==10)) (p:=(op=9)∨(op=10)) (Yn Zr Zr) (fun Kd=>?_) (fun Kd=>?_)
 ·refine aq (ar (X5 [1,2,3,4] [(99,.b ((decide (num<0))||(decide (num>=(((n.routines.map XB).length:Nat):Int)))))] (fun gz=>gz) ?_ ?_))
  ·refine Z0 3 (ib (b:=(decide (num<0))) 93 (fun WD=>?_) (fun WD=>?_))
   ·have QM:num<0:=(dq).1 WD
    exact Z0 6 (ie (wk [0] (Zq true WD fl)))
   have QN:¬(num<0):=Yf dq WD
   exact Z3 3 [0] (io (.i (((n.routines.map XB).length:Nat):Int)) (.i (((UH (n.routines.map XB)).length:Nat):Int)) (li (by rw [Cx])) (Z0 2 (ie (wk [0] (Zq (decide (num>=(((n.routines.map XB).length:Nat):Int))) WD fl)))))
  refine ac ((decide (num<0))||(decide (num>=(((n.routines.map XB).length:Nat):Int)))) (p:=(num<0)∨(num>=(((n.routines.map XB).length:Nat):Int))) (Yn dq dq) (fun T7=>?_) (fun T7=>?_)
  ·refine ar (Z0 2 (ie ?_))
   have hF:=Z92 (n:=n) (ts:=ts) Kd T7
   exact Z9 (r2 [] [.i (-1),.b false] ⟨(-1),rfl,rfl,(Dr hF)⟩ (Zc.tup (.cons (lr _) (.cons (lb (Dq hF)) .nil))))
  refine ak (aD 14 (ZL 11 14 [0,1,2] [0] ?_))
  obtain ⟨x3,YG⟩:=Zs (n.routines.map XB) num.toNat om
  obtain ⟨r,hr,hrx⟩:=Fh YG
  have hrp:=hn.params_at hr
  have hpx:x3.pms=r.params:=by rw [hrx];rfl
  have hpl:x3.pms.length<=3:=by rw [hpx];exact hrp
  refine dx 3 (Zh none num 3 (BG YG)) (ZL 5 10 [4,5,6,7,8] [0] (dx 9 (Zh none num 3 (BG YG)) (Zj 0 4 [10,11,12,13] (de (aq (ar (Z0 2 (ie (ac (op==9) Zr (fun QL=>?_) (fun QL=>?_))))))))))
  ·refine ar (Z0 3 (Zx [] (Ds ts x3.pms) (Z0 2 (ie ?_))))
   have hF:=sf9 (ts:=ts) QL T7 YG
   exact Z9 (r2 [] [.i x3.res,.b (decide (ts=x3.pms))] ⟨x3.res,rfl,rfl,(At hF)⟩ (Zc.tup (.cons (lr _) (.cons (lb (As hF (by simp [*];try omega))) .nil))))
  refine ak (ar (Z0 1 (iw (Y7 x3.pms) (ia (((x3.pms.length:Int)-1)) (((x3.pms.length:Int))-(1)) (Z0 1 (ie (aq (ar (Z0 2 (ie (ZE (((x3.pms.length:Int)-1)<0) (fun B5=>?_) (fun B5=>?_))))))))))))
  ·refine ar (Z0 2 (ie ?_))
   have hF:=Z8z (ts:=ts) (Kd.resolve_left QL) T7 YG B5
   exact Z9 (r2 [] [.i (-1),.b false] ⟨(-1),rfl,rfl,(Dr hF)⟩ (Zc.tup (.cons (lr _) (.cons (lb (Dq hF)) .nil))))
  refine ak (aD 9 (ZL 5 9 [0,1,2,3] [0] ?_))
  obtain ⟨x4,Vs⟩:=Zs x3.pms (((x3.pms.length:Int)-1).toNat) om
  refine dx 4 (Zh none ((x3.pms.length:Int)-1) 1 (ZX Vs)) (Zj 2 4 [5,6] (Z8 7 (Yg 7 [] [] [] (Z3a n.decls x4 x3.res) (Zj 0 1 [8] (de (ar (Xv 10 [] [(131,.i (VH n.decls x4 x3.res)),(140,.b ((decide ((VH n.decls x4 x3.res)>=0))&&(decide (ts=(x3.pms.take (((x3.pms.length:Int)-1).toNat))))))] (fun gz=>gz) ?_ (fun hj6=>?_))))))))
  ·refine Z0 2 (ie ?_)
   have hF:=Z8y (ts:=ts) (Kd.resolve_left QL) T7 YG B5 Vs
   exact Z9 (r2 [] [.i (VH n.decls x4 x3.res),.b ((decide ((VH n.decls x4 x3.res)>=0))&&(decide (ts=(x3.pms.take (((x3.pms.length:Int)-1).toNat)))))] ⟨VH n.decls x4 x3.res,rfl,rfl,(At hF)⟩ (Zc.tup (.cons (lr _) (.cons (lb (As hF (by rw [X8];simp))) .nil))))
  refine Z0 4 (ib (b:=(decide ((VH n.decls x4 x3.res)>=0))) 134 (fun WE=>?_) (fun WE=>?_))
  ·have Af:(VH n.decls x4 x3.res)>=0:=(dq).1 WE
   exact Z0 3 (Zo (Kl (es:=Z7 x3.pms) (hv:=none) (l:=0) (m:=((x3.pms.length:Int)-1)) (sz:=1) (es':=Z7 (x3.pms.take (((x3.pms.length:Int)-1).toNat))) kr om (by simp<;>omega) (by simp<;>omega) (Ys _) (by first|(simp only [VP,Vc,KJ,Jj];done)|(simp only [VP,Vc,KJ,Jj];rfl)|(simp [KJ,Jj];done))) (Zx [] (Ds ts (x3.pms.take (((x3.pms.length:Int)-1).toNat))) (Z0 1 (Yp (wk [0] (fr (Zq (decide (ts=(x3.pms.take (((x3.pms.length:Int)-1).toNat)))) WE fl))) hj6))))
  have Kf:¬((VH n.decls x4 x3.res)>=0):=Yf dq WE
  exact Z0 6 (Yp (wk [0] (fr (Zq false WE fl))) hj6)
 refine ar (Z0 2 (ie ?_))
 have hF:=sfd (n:=n) (num:=num) (ts:=ts) Zb X0 X9 Vr VB Kd
 exact Z9 (r2 [] [.i (-1),.b false] ⟨(-1),rfl,rfl,(Dr hF)⟩ (Zc.tup (.cons (lr _) (.cons (lb (Dq hF)) .nil))))
theorem Mw (n:Zt) (us:LI) (ks:List Z5) (ms:List LI) (hn:YZ n:=by exact ob) (hnn:∀t∈us,0<=t) (hk:0<ks.length:=by exact ob) (hl:ks.length=ms.length:=by exact ob) (hb:us.length+3+4*YQ ks<=1000000000:=by exact ob) (hr:UT ks:=by exact ob) (hm3:∀m∈ms,m.length<=3) (hmn:∀m∈ms,∀f∈m,0<=f) (ih:∀(b:Z5) (us:LI),(b.sz<=YQ ks)->(us.length+4*b.sz<=1000000000)->(b.rng)->(∀t∈us,0<=t)->Zi 56 [.agg [Ya n.decls,Th n],Z6 us,ZH b] [] (Y6 (.i (X2 n us b)))):Zi 130 [.agg [Ya n.decls,Th n],Z6 us,Xa ks,QS ms] [] (Y6 (.tup [.i (Ws n us ks ms true 0),.b (decide (0<=Ws n us ks ms true 0))])):=by
 have hkl:=IX ks
 refine ZC 45 Tryz.func130 (ar (iA [Ya n.decls,Th n] fun b1=>?_))
 refine Z0 2 (ie (ar (Z0 1 (ie (aq (ar (Z0 1 (iw (Va ks) (Z0 1 (ie (ab 0 (ZW (fun fz gz m F h=>∃(k:Nat) (t:Int),(k<=ks.length)/\(0<k->0<=t)/\(Ws n us (ks.drop k) (ms.drop k) (decide (k=0)) t=Ws n us ks ms true 0)/\F=sF [1,3,4,14,15] fz [(10,.i t),(16,.i k)]/\h=gz/\m=ks.length-k) _ _ _ ⟨0,(-1),ob,ob,(Z4r hk (-1)),rfl,rfl,rfl⟩ (wk [0] (fr (Y0 fl))) ?_))))))))))))
 rintro m F h ⟨k,t,Y5,Zl,Zw,rfl,rfl,rfl⟩
 refine ar (Z0 1 (ie (aq (ZE ((k:Int)<(ks.length:Int)) (fun Zb=>?_) (fun Zb=>?_)))))
 ·refine ak (aq (ab 1 (ar (Z0 1 ?_))))
  obtain ⟨x1,Z2⟩:=Zs ks k om
  have ZB:=IY Z2
  have hbr:=IW hr Z2
  refine Zo (Zh none (k:Int) 2 (VK Z2)) (Z0 1 (iA [nl,.i 0] fun b2=>Z0 1 (Zz 0 b2 (YS x1) (ie (aD 11 (ZL 7 11 [0,1,2,3] [1] ?_))))))
  obtain ⟨x2,Zp⟩:=Zs ms k om
  have hxl:=hm3 x2 (ZY Zp)
  have hxn:=hmn x2 (ZY Zp)
  refine dx 4 (Zh none (k:Int) 1 (E4 Zp)) (ZL 4 6 [5,8] [0] (Z8 6 (dL 6 [0,1] [b2,b1] (XX [us,x2]) 2 1 fun v1=>Yl 3 3 [] [(27,QS [us,x2])] (Z8 7 (dc 7 [] [0,1] [b2,b1] (Z96 [us,x2] (hf:=(by simp only [Dx,Ym];omega))) ?_)))))
  rintro _ _ ⟨v2,rfl,rfl⟩
  refine Yl 2 2 [] [(28,Z6 ([us,x2].flatten))] (Z8 9 (Yg 9 [] [] [] (ih x1 ([us,x2].flatten) ob (by simp only [Dx,Ym];omega) ob (by rw [Dx];exact N8 hnn hxn)) (Zj 0 1 [10] (de (aq (ar (X5 [1,3,4,13,14,15,16] [(41,.b ((decide ((X2 n ([us,x2].flatten) x1)<0))||((decide ((k:Int)>0))&&((X2 n ([us,x2].flatten) x1) != t))))] (fun gz=>gz) ?_ ?_)))))))
  ·refine Z0 3 (ib (b:=(decide ((X2 n ([us,x2].flatten) x1)<0))) 33 (fun Zf=>?_) (fun Zf=>?_))
   ·exact Z0 8 (ie (ZK 4 (Zq true Zf fl)))
   refine Z0 3 (ib (b:=(decide ((k:Int)>0))) 36 (fun ZF=>?_) (fun ZF=>?_))
   ·exact Z0 5 (ie (ZK 4 (Zq ((X2 n ([us,x2].flatten) x1) != t) (And.intro Zf ZF) fl)))
   exact Z0 5 (ie (ZK 4 (Zq false (And.intro Zf ZF) fl)))
  refine ac ((decide ((X2 n ([us,x2].flatten) x1)<0))||((decide ((k:Int)>0))&&((X2 n ([us,x2].flatten) x1) != t))) (p:=((X2 n ([us,x2].flatten) x1)<0)∨(((k:Int)>0)/\((X2 n ([us,x2].flatten) x1)≠t))) (Yn dq (YA dq Ye)) (fun Zg=>?_) (fun Zg=>?_)
  ·refine ar (Z0 2 (ie ?_))
   have hK:Ws n us ks ms true 0=-1:=by rw [<-Zw];rw [Dx] at Zg;exact MQ Z2 Zp Zg
   exact Z9 (r2 [] [.i (-1),.b false] ⟨rfl,rfl⟩ (Zc.tup (.cons (li (by rw [hK])) (.cons (lb (by rw [hK];rfl)) .nil))))
  exact ak (az (Z0 2 (ie (az (ZD k (Z0 1 (ie (ZG ⟨k+1,X2 n ([us,x2].flatten) x1,ob,(by intro _;omega),(by rw [Dx] at Zg ⊢;rw [<-Zw];exact (MS Z2 Zp Zg).symm),rfl,rfl,rfl⟩ (wk [3] (fr (ZJ k fl)))))))))))
 refine ax 0 (ar (Z0 3 (ie ?_)))
 have hK:Ws n us ks ms true 0=t:=by rw [<-Zw];exact MR om
 exact Z9 (r2 [] [.i t,.b true] ⟨rfl,rfl⟩ (Zc.tup (.cons (li (by rw [hK])) (.cons (lb (by rw [hK];exact (decide_eq_true (Zl om)).symm)) .nil))))
theorem Z3v (n:Zt) (us:LI) (s:Z4) (hn:YZ n) (hty:Bs n) (hnn:∀t∈us,0<=t) (hb:us.length+4*s.sz<=1000000000) (hr:s.rng) (ih:∀(b:Z5) (us:LI),(b.sz<s.sz)->(us.length+4*b.sz<=1000000000)->(b.rng)->(∀t∈us,0<=t)->Zi 56 [.agg [Ya n.decls,Th n],Z6 us,ZH b] [] (Y6 (.i (X2 n us b)))):Zi 93 [.agg [Ya n.decls,Th n],Z6 us,Yr s] [] (fun r h=>∃(t:Int),r=.tup [.i t,.b (decide (0<=Yb n us s))]/\h=[]/\(¬Yd s.op=true->0<=Yb n us s->t=Yb n us s)):=by
 have Xh:=hn.decls
 have hkz:=U4 s
 have haz:=Tl s
 have hse:=s.sz_eq
 rw [s.rng_eq] at hr
 obtain ⟨hnum,hkr⟩:=hr
 refine ZC 233 Tryz.func93 (ar (iA [Ya n.decls,Th n] fun b1=>iA (X7 s) fun b2=>Z0 2 (ie (ar (Z3 2 [0] (iw (Y7 s.args) (iM 0 s.args.length fun v1=>?_)))))))
 refine Z0 1 (ie (aq (ar (Z3 2 [1] (iw (Y7 s.args) (Z0 1 (ie (ab 0 (ZW (fun fz gz m F h=>∃(k:Nat) (ts:LI) (v:Value),(k<=s.args.length)/\(ts.length=k)/\(XQ us (s.args.take k)=some ts)/\F=sF [1,3,5,20,21] fz [(8,ZU ts v),(22,.i k)]/\h=[Zk gz 1,Zk gz 2,.tail v 1]/\m=s.args.length-k) _ _ _ ⟨0,[],v1,ob,ob,ob,rfl,rfl,rfl⟩ (wk [1,1,0] (fr (Y0 fl))) ?_)))))))))
 rintro m F h ⟨k,ts,v,Y5,Zl,Zw,rfl,rfl,rfl⟩
 refine ar (Z0 1 (ie (aq (ZE ((k:Int)<(s.args.length:Int)) (fun Zb=>?_) (fun Zb=>?_)))))
 ·refine ak (aq (ab 1 (ar ?_)))
  obtain ⟨x1,Z2⟩:=Zs s.args k om
  refine Zo (Zh none (k:Int) 1 (ZX Z2)) (Z0 2 (ie (aq (ar (X5 [1,3,5,8,10,20,21,22] [(33,.b ((decide (x1<0))||(decide (x1>=(us.length:Int)))))] (fun gz=>gz) ?_ ?_)))))
  ·refine Z0 3 (ib (b:=(decide (x1<0))) 28 (fun Zf=>?_) (fun Zf=>?_))
   ·have Y2:x1<0:=(dq).1 Zf
    exact Z0 5 (ie (ZK 3 (Zq true Zf fl)))
   have Yj:¬(x1<0):=Yf dq Zf
   exact Z0 2 (iw (Y7 us) (Z0 2 (ie (ZK 3 (Zq (decide (x1>=(us.length:Int))) Zf fl)))))
  refine ac ((decide (x1<0))||(decide (x1>=(us.length:Int)))) (p:=(x1<0)∨(x1>=(us.length:Int))) (Yn dq dq) (fun Zg=>?_) (fun Zg=>?_)
  ·refine ar (Z0 2 (ie ?_))
   have hS:Yb n us s=-1:=Zb4 (IF Z2 (Qm om))
   exact Z9 (r2 [] [.i (-1),.b false] ⟨(-1),rfl,rfl,(by intro _ h;rw [hS] at h;omega)⟩ (Zc.tup (.cons (lr _) (.cons (lb (by rw [hS];rfl)) .nil))))
  refine ak (az (Z0 3 ?_))
  obtain ⟨x2,Zp⟩:=Zs us x1.toNat om
  exact Zo (Zh none x1 1 (ZX Zp)) (Z0 1 (iL (Z7 [x2]) 1 1 fun v2=>ZM 0 [(39,Z6 [x2])] (ip 3 (Z7 (ts++[x2])) (Z7 ts) (Z7 [x2]) v none 1 (Ys _) (Ys _) (XN _) (by simp<;>omega) (by simp [XM,Z7]) fun v3=>Z0 1 (ie (az (ZD k (Z0 1 (ie (ZG ⟨k+1,(ts++[x2]),v3,ob,ob,(R6 Zw Z2 (by rw [TE om Zp])),rfl,rfl,rfl⟩ (wk [2,2,0] (fr (ZJ k fl))))))))))))
 refine ax 0 (aq (ar (X5 [1,3,5,8] [(70,.b ((s.into != 0)&&((s.op != 6)||((decide (s.into<1))||((decide (s.into>(us.length:Int)))||((gI us (s.into-1))==0))))))] (fun gz=>gz) ?_ ?_)))
 ·refine Z3 4 [0] (ib (b:=(s.into != 0)) 45 (fun ZF=>?_) (fun ZF=>?_))
  ·have YJ:s.into≠0:=(Ye).1 ZF
   refine Z3 4 [0] (ib (b:=(s.op != 6)) 49 (fun Yx=>?_) (fun Yx=>?_))
   ·have YR:s.op≠6:=(Ye).1 Yx
    exact Z0 21 (ie (ZK 3 (Zq true (And.intro ZF Yx) fl)))
   have X6:¬(s.op≠6):=Yf Ye Yx
   refine Z3 5 [0] (ib (b:=(decide (s.into<1))) 54 (fun YX=>?_) (fun YX=>?_))
   ·have XS:s.into<1:=(dq).1 YX
    exact Z0 16 (ie (ZK 3 (Zq true (And.intro ZF (And.intro Yx YX)) fl)))
   have Wq:¬(s.into<1):=Yf dq YX
   refine Z3 3 [0] (iw (Y7 us) (Z0 3 (ib (b:=(decide (s.into>(us.length:Int)))) 61 (fun W6=>?_) (fun W6=>?_))))
   ·have V6:s.into>(us.length:Int):=(dq).1 W6
    exact Z0 9 (ie (ZK 3 (Zq true (And.intro ZF (And.intro Yx (And.intro YX W6))) fl)))
   have Ve:¬(s.into>(us.length:Int)):=Yf dq W6
   exact Z3 3 [0] (ia ((s.into-1)) ((s.into)-(1)) (Zo (Ax (es:=Z7 us) (hv:=none) (j:=(s.into-1)) (sz:=1) (y:=.i (gI us (s.into-1))) kr om (ZX (LX om)) rfl) (Z0 4 (ie (ZK 3 (Zq ((gI us (s.into-1))==0) (And.intro ZF (And.intro Yx (And.intro YX W6))) fl))))))
  have UK:¬(s.into≠0):=Yf Ye ZF
  exact Z0 25 (ie (ZK 3 (Zq false ZF fl)))
 refine ac ((s.into != 0)&&((s.op != 6)||((decide (s.into<1))||((decide (s.into>(us.length:Int)))||((gI us (s.into-1))==0))))) (p:=(s.into≠0)/\((s.op≠6)∨((s.into<1)∨((s.into>(us.length:Int))∨((gI us (s.into-1))=0))))) (YA Ye (Yn Ye (Yn dq (Yn dq Zr)))) (fun Zy=>?_) (fun Zy=>?_)
 ·refine ar (Z0 2 (ie ?_))
  have hS:Yb n us s=-1:=Zb5 (Jz.1 Zy)
  exact Z9 (r2 [] [.i (-1),.b false] ⟨(-1),rfl,rfl,(by intro _ h;rw [hS] at h;omega)⟩ (Zc.tup (.cons (lr _) (.cons (lb (by rw [hS];rfl)) .nil))))
 refine ak (aq (ab 2 (ar (Z3 2 [0] (Zx [] (EA s.op) (Z0 1 (ie (ac (Yd s.op) Iff.rfl (fun Y9=>?_) (fun Y9=>?_)))))))))
 ·refine ar (Z0 1 (iw (Y7 ts) (Xv 9 [3,5,8] [(83,.b (((ts.length:Int)==1)&&((gI ts 0) != 0)))] (fun gz=>gz) ?_ (fun hj1=>?_))))
  ·refine Xv 14 [3,5,8] [(88,.b ((((ts.length:Int)==1)&&((gI ts 0) != 0))&&(s.num==0)))] (fun gz=>gz) ?_ (fun hj2=>?_)
   ·refine Xv 20 [3,5,8] [(94,.b (((((ts.length:Int)==1)&&((gI ts 0) != 0))&&(s.num==0))&&((s.kids.length:Int)==0)))] (fun gz=>gz) ?_ (fun hj3=>?_)
    ·refine Z0 1 (ie (aq (ar (X5 [3,8,11] [(105,.b ((((((ts.length:Int)==1)&&((gI ts 0) != 0))&&(s.num==0))&&((s.kids.length:Int)==0))&&((s.op==16)||(s.op==17))))] (fun gz=>gz) ?_ ?_))))
     ·refine Z0 2 (ib (b:=(((((ts.length:Int)==1)&&((gI ts 0) != 0))&&(s.num==0))&&((s.kids.length:Int)==0))) 96 (fun Wx=>?_) (fun Wx=>?_))
      ·have UY:((((ts.length:Int)=1)/\((gI ts 0)≠0))/\(s.num=0))/\((s.kids.length:Int)=0):=((YA (YA (YA Zr Ye) Zr) Zr)).1 Wx
       refine Z3 4 [0] (ib (b:=(s.op==16)) 100 (fun WR=>?_) (fun WR=>?_))
       ·have Uv:s.op=16:=(Zr).1 WR
        exact Z0 5 (ie (ZK 3 (Zq true (And.intro Wx WR) fl)))
       have TI:¬(s.op=16):=Yf Zr WR
       exact Z3 5 [0] (ie (ZK 3 (Zq (s.op==17) (And.intro Wx WR) fl)))
      have Tt:¬(((((ts.length:Int)=1)/\((gI ts 0)≠0))/\(s.num=0))/\((s.kids.length:Int)=0)):=Yf (YA (YA (YA Zr Ye) Zr) Zr) Wx
      exact Z0 9 (ie (ZK 3 (Zq false Wx fl)))
     refine ac ((((((ts.length:Int)==1)&&((gI ts 0) != 0))&&(s.num==0))&&((s.kids.length:Int)==0))&&((s.op==16)||(s.op==17))) (p:=(((((ts.length:Int)=1)/\((gI ts 0)≠0))/\(s.num=0))/\((s.kids.length:Int)=0))/\((s.op=16)∨(s.op=17))) (YA (YA (YA (YA Zr Ye) Zr) Zr) (Yn Zr Zr)) (fun X0=>?_) (fun X0=>?_)
     ·refine aD 12 (ZL 9 12 [0,1,2] [1] (dx 3 (Ax (es:=Z7 ts) (hv:=some v) (j:=0) (sz:=1) (y:=.i (gI ts 0)) kr om (ZX (Eh om)) rfl) (Zj 7 8 [4] (Ka (fun fz gz F h=>F=sF [] fz [(13,.b (XA n.decls (gI ts 0)))]/\h=gz) ?_ ?_))))
      ·refine V9 5 9 ?_ ?_
       ·exact Yg 5 [] [] [] (Ez n.decls (gI ts 0)) (Zj 3 6 [6,7,8] (Z8 9 (dA 9 [] [] [.i 0,.i 0,nl] fun b3=>Z8 10 (YC 10 0 [] [] b3 (UN (V7 n.decls (gI ts 0))) (Zj 0 1 [11] (de (ZO ⟨rfl,rfl⟩ (wk [1,1,1] fl))))))))
       exact dA 9 [1] [b1] [.i 0,.i 0,nl] fun b4=>Z8 5 (Yg 5 [] [] [] (Ez n.decls (gI ts 0)) (Zj 2 5 [6,7,8] (Z8 10 (YC 10 0 [] [] b4 (UN (V7 n.decls (gI ts 0))) (Zj 0 1 [11] (de (ZO ⟨rfl,rfl⟩ (wk [1,1,1] fl))))))))
      rintro F h ⟨rfl,rfl⟩
      refine az (Z0 3 (ie (ar (Z0 3 (ie ?_)))))
      have hS0:=Az (n:=n) hnn (JY Zw om) (fun q=>Zy (Jz.2 q))
      exact Z9 (r2 [] [.i (-1),.b (!XA n.decls (gI ts 0))] ⟨(-1),rfl,rfl,(fun q=>absurd Y9 q)⟩ (Zc.tup (.cons (lr _) (.cons (lb (Zam hS0 Y9 X0)) .nil))))
     refine ak (ar (Z0 3 (ie ?_)))
     have hS0:=Az (n:=n) hnn (JY Zw om) (fun q=>Zy (Jz.2 q))
     exact Z9 (r2 [] [.i (-1),.b (((((ts.length:Int)==1)&&((gI ts 0) != 0))&&(s.num==0))&&((s.kids.length:Int)==0))] ⟨(-1),rfl,rfl,(fun q=>absurd Y9 q)⟩ (Zc.tup (.cons (lr _) (.cons (lb (Zan hS0 Y9 X0)) .nil))))
    refine Z0 1 (ib (b:=((((ts.length:Int)==1)&&((gI ts 0) != 0))&&(s.num==0))) 89 (fun WD=>?_) (fun WD=>?_))
    ·have QM:(((ts.length:Int)=1)/\((gI ts 0)≠0))/\(s.num=0):=((YA (YA Zr Ye) Zr)).1 WD
     exact Z3 2 [0] (iw (Va s.kids) (Z0 2 (Yp (ZK 3 (Zq ((s.kids.length:Int)==0) WD fl)) hj3)))
    have QN:¬((((ts.length:Int)=1)/\((gI ts 0)≠0))/\(s.num=0)):=Yf (YA (YA Zr Ye) Zr) WD
    exact Z0 5 (Yp (ZK 3 (Zq false WD fl)) hj3)
   refine Z0 1 (ib (b:=(((ts.length:Int)==1)&&((gI ts 0) != 0))) 84 (fun WE=>?_) (fun WE=>?_))
   ·have Af:((ts.length:Int)=1)/\((gI ts 0)≠0):=((YA Zr Ye)).1 WE
    exact Z3 4 [0] (Yp (ZK 3 (Zq (s.num==0) WE fl)) hj2)
   have Kf:¬(((ts.length:Int)=1)/\((gI ts 0)≠0)):=Yf (YA Zr Ye) WE
   exact Z0 4 (Yp (ZK 3 (Zq false WE fl)) hj2)
  refine Z0 2 (ib (b:=((ts.length:Int)==1)) 78 (fun TG=>?_) (fun TG=>?_))
  ·have Mo:(ts.length:Int)=1:=(Zr).1 TG
   exact Z0 1 (Zo (Ax (es:=Z7 ts) (hv:=some v) (j:=0) (sz:=1) (y:=.i (gI ts 0)) kr om (ZX (Eh om)) rfl) (Z0 3 (Yp (ZK 3 (Zq ((gI ts 0) != 0) TG fl)) hj1)))
  have Mp:¬((ts.length:Int)=1):=Yf Zr TG
  exact Z0 5 (Yp (ZK 3 (Zq false TG fl)) hj1)
 refine ar (Z3 4 [0] (ie (ac (s.op==7) Zr (fun X9=>?_) (fun X9=>?_))))
 ·refine aq (ar (Z0 1 (iw (Y7 ts) (Xv 9 [1,3,5] [(130,.b (((ts.length:Int) != 1)||((gI ts 0) != 0)))] (fun gz=>gz) ?_ (fun hj4=>?_)))))
  ·refine Xv 14 [1,3,5] [(135,.b ((((ts.length:Int) != 1)||((gI ts 0) != 0))||(s.num != 0)))] (fun gz=>gz) ?_ (fun hj5=>?_)
   ·refine X5 [1,3,5] [(141,.b (((((ts.length:Int) != 1)||((gI ts 0) != 0))||(s.num != 0))||((s.kids.length:Int) != 2)))] (fun gz=>gz) ?_ ?_
    ·refine Z0 1 (ib (b:=((((ts.length:Int) != 1)||((gI ts 0) != 0))||(s.num != 0))) 136 (fun Jv=>?_) (fun Jv=>?_))
     ·have H3:(((ts.length:Int)≠1)∨((gI ts 0)≠0))∨(s.num≠0):=((Yn (Yn Ye Ye) Ye)).1 Jv
      exact Z0 5 (ie (ZK 3 (Zq true Jv fl)))
     have Z2j:¬((((ts.length:Int)≠1)∨((gI ts 0)≠0))∨(s.num≠0)):=Yf (Yn (Yn Ye Ye) Ye) Jv
     exact Z3 2 [0] (iw (Va s.kids) (Z0 2 (ie (ZK 3 (Zq ((s.kids.length:Int) != 2) Jv fl)))))
    refine ac (((((ts.length:Int) != 1)||((gI ts 0) != 0))||(s.num != 0))||((s.kids.length:Int) != 2)) (p:=((((ts.length:Int)≠1)∨((gI ts 0)≠0))∨(s.num≠0))∨((s.kids.length:Int)≠2)) (Yn (Yn (Yn Ye Ye) Ye) Ye) (fun Vr=>?_) (fun Vr=>?_)
    ·refine ar (Z0 2 (ie ?_))
     have hS0:=Az (n:=n) hnn (JY Zw om) (fun q=>Zy (Jz.2 q))
     have hS:=Zai hS0 Y9 X9 Vr
     exact Z9 (r2 [] [.i (-1),.b false] ⟨(-1),rfl,rfl,(by intro _ h;rw [hS] at h;omega)⟩ (Zc.tup (.cons (lr _) (.cons (lb (by rw [hS];rfl)) .nil))))
    refine ak (aD 10 (ZL 6 10 [0,1,2,3] [1,0] (Z8 4 (S0 4 [0,1] [b2,b1] 2 2 fun v4=>Yl 5 5 [] [(146,QS (List.replicate 2 []))] (Z8 5 (Yg 5 [] [] [] (Mw n us s.kids (List.replicate 2 []) (hnn:=hnn) (hm3:=(by intro m hm;first|(rw [FE hm];simp;done)|(obtain ⟨c,_,rfl⟩:=XD.1 hm;exact VI Xh c))) (hmn:=(by intro m hm f hf;first|(rw [FE hm] at hf;simp at hf;done)|(obtain ⟨c,_,rfl⟩:=XD.1 hm;exact hty.fields c f hf))) (ih:=(fun b us2 h1 h2 h3 h4=>ih b us2 om h2 h3 h4))) (Zj 0 4 [6,7,8,9] (de ?_))))))))
    have hS0:=Az (n:=n) hnn (JY Zw om) (fun q=>Zy (Jz.2 q))
    have hS:=Zaj hS0 Y9 X9 Vr
    exact Z9 (r2 [] [.i (Ws n us s.kids (List.replicate 2 []) true 0),.b (decide (0<=Ws n us s.kids (List.replicate 2 []) true 0))] ⟨Ws n us s.kids (List.replicate 2 []) true 0,rfl,rfl,(fun _ _=>hS.symm)⟩ (Zc.tup (.cons (lr _) (.cons (lb (by rw [hS])) .nil))))
   refine Z0 1 (ib (b:=(((ts.length:Int) != 1)||((gI ts 0) != 0))) 131 (fun Jw=>?_) (fun Jw=>?_))
   ·have Z2k:((ts.length:Int)≠1)∨((gI ts 0)≠0):=((Yn Ye Ye)).1 Jw
    exact Z0 4 (Yp (ZK 3 (Zq true Jw fl)) hj5)
   have Z2l:¬(((ts.length:Int)≠1)∨((gI ts 0)≠0)):=Yf (Yn Ye Ye) Jw
   exact Z3 4 [0] (Yp (ZK 3 (Zq (s.num != 0) Jw fl)) hj5)
  refine Z0 2 (ib (b:=((ts.length:Int) != 1)) 125 (fun CM=>?_) (fun CM=>?_))
  ·have Z2m:(ts.length:Int)≠1:=(Ye).1 CM
   exact Z0 5 (Yp (ZK 3 (Zq true CM fl)) hj4)
  have Z2n:¬((ts.length:Int)≠1):=Yf Ye CM
  exact Z0 1 (Zo (Ax (es:=Z7 ts) (hv:=some v) (j:=0) (sz:=1) (y:=.i (gI ts 0)) kr om (ZX (Eh om)) rfl) (Z0 3 (Yp (ZK 3 (Zq ((gI ts 0) != 0) CM fl)) hj4)))
 refine ar (Z3 4 [0] (ie (ac (s.op==8) Zr (fun Vd=>?_) (fun Vd=>?_))))
 ·refine ar (Z3 3 [1,0] (Zx [] (Z3t _ s.num) (Z0 1 (ie (aq (aD 24 (Zj 23 24 [0] (dw 1 (Y7 ts) (Jf [1,3,5,14] [(181,.b (((ts.length:Int) != 1)||(((gI ts 0) != s.num)||((((((ZT n.decls s.num).map (ZQ n.decls)).length:Nat):Int)==0)||((s.kids.length:Int) != ((((ZT n.decls s.num).map (ZQ n.decls)).length:Nat):Int))))))] (fun gz=>gz) ?_ ?_)))))))))
  ·refine Zj 20 22 [2,3] (db (b:=((ts.length:Int) != 1)) 161 (fun B3=>?_) (fun B3=>?_))
   ·have Z2o:(ts.length:Int)≠1:=(Ye).1 B3
    exact Zj 0 20 [4,5,6,7,8,9,10,11,12,13,14,15,16,17,18,19,20,21,22,23] (de (ZK 3 (Zq true B3 fl)))
   have Z2p:¬((ts.length:Int)≠1):=Yf Ye B3
   refine Zj 19 20 [4] (dx 5 (Ax (es:=Z7 ts) (hv:=some v) (j:=0) (sz:=1) (y:=.i (gI ts 0)) kr om (ZX (Eh om)) rfl) (ZL 12 18 [6,7,8,9,10,11] [0] (db (b:=((gI ts 0) != s.num)) 169 (fun BO=>?_) (fun BO=>?_))))
   ·have Z2q:(gI ts 0)≠s.num:=(Ye).1 BO
    exact Zj 0 12 [12,13,14,15,16,17,18,19,20,21,22,23] (de (ZK 3 (Zq true (And.intro B3 BO) fl)))
   have H4:¬((gI ts 0)≠s.num):=Yf Ye BO
   refine Zj 11 12 [12] (dn 13 (.i ((((ZT n.decls s.num).map (ZQ n.decls)).length:Nat):Int)) (.i (((XX ((ZT n.decls s.num).map (ZQ n.decls))).length:Nat):Int)) (li (by rw [E5])) (Zj 7 10 [14,15,16] (db (b:=(((((ZT n.decls s.num).map (ZQ n.decls)).length:Nat):Int)==0)) 174 (fun CN=>?_) (fun CN=>?_))))
   ·have H5:((((ZT n.decls s.num).map (ZQ n.decls)).length:Nat):Int)=0:=(Zr).1 CN
    exact Zj 0 7 [17,18,19,20,21,22,23] (de (ZK 3 (Zq true (And.intro B3 (And.intro BO CN)) fl)))
   have Mq:¬(((((ZT n.decls s.num).map (ZQ n.decls)).length:Nat):Int)=0):=Yf Zr CN
   exact ZL 5 7 [17,18] [0] (dw 19 (Va s.kids) (Zj 3 4 [20] (dn 21 (.i ((((ZT n.decls s.num).map (ZQ n.decls)).length:Nat):Int)) (.i (((XX ((ZT n.decls s.num).map (ZQ n.decls))).length:Nat):Int)) (li (by rw [E5])) (Zj 0 2 [22,23] (de (ZK 3 (Zq ((s.kids.length:Int) != ((((ZT n.decls s.num).map (ZQ n.decls)).length:Nat):Int)) (And.intro B3 (And.intro BO CN)) fl)))))))
  refine ac (((ts.length:Int) != 1)||(((gI ts 0) != s.num)||((((((ZT n.decls s.num).map (ZQ n.decls)).length:Nat):Int)==0)||((s.kids.length:Int) != ((((ZT n.decls s.num).map (ZQ n.decls)).length:Nat):Int))))) (p:=((ts.length:Int)≠1)∨(((gI ts 0)≠s.num)∨((((((ZT n.decls s.num).map (ZQ n.decls)).length:Nat):Int)=0)∨((s.kids.length:Int)≠((((ZT n.decls s.num).map (ZQ n.decls)).length:Nat):Int))))) (Yn Ye (Yn Ye (Yn Zr Ye))) (fun VB=>?_) (fun VB=>?_)
  ·refine ar (Z0 2 (ie ?_))
   have hS0:=Az (n:=n) hnn (JY Zw om) (fun q=>Zy (Jz.2 q))
   have hS:=Zak hS0 Y9 X9 Vd VB
   exact Z9 (r2 [] [.i (-1),.b false] ⟨(-1),rfl,rfl,(by intro _ h;rw [hS] at h;omega)⟩ (Zc.tup (.cons (lr _) (.cons (lb (by rw [hS];rfl)) .nil))))
  refine ak (ar (Z3 5 [1,0] (Zx [] (Mw n us s.kids ((ZT n.decls s.num).map (ZQ n.decls)) (hnn:=hnn) (hm3:=(by intro m hm;first|(rw [FE hm];simp;done)|(obtain ⟨c,_,rfl⟩:=XD.1 hm;exact VI Xh c))) (hmn:=(by intro m hm f hf;first|(rw [FE hm] at hf;simp at hf;done)|(obtain ⟨c,_,rfl⟩:=XD.1 hm;exact hty.fields c f hf))) (ih:=(fun b us2 h1 h2 h3 h4=>ih b us2 om h2 h3 h4))) (Z0 4 (ie ?_)))))
  have hS0:=Az (n:=n) hnn (JY Zw om) (fun q=>Zy (Jz.2 q))
  have hS:=Zal hS0 Y9 X9 Vd VB
  exact Z9 (r2 [] [.i (Ws n us s.kids ((ZT n.decls s.num).map (ZQ n.decls)) true 0),.b (decide (0<=Ws n us s.kids ((ZT n.decls s.num).map (ZQ n.decls)) true 0))] ⟨Ws n us s.kids ((ZT n.decls s.num).map (ZQ n.decls)) true 0,rfl,rfl,(fun _ _=>hS.symm)⟩ (Zc.tup (.cons (lr _) (.cons (lb (by rw [hS])) .nil))))
 refine ar (Z3 2 [0] (iw (Va s.kids) (Xv 33 [3,5,8] [(223,.b ((decide ((s.kids.length:Int)>0))||((s.op==10)&&((decide (s.num>=0))&&((decide (s.num<(((n.routines.map XB).length:Nat):Int)))&&(decide (((((Qe n s.num).lnt).length:Nat):Int)>0)))))))] (fun gz=>gz) ?_ (fun hj6=>?_))))
 ·refine Z0 1 (ie (ac ((decide ((s.kids.length:Int)>0))||((s.op==10)&&((decide (s.num>=0))&&((decide (s.num<(((n.routines.map XB).length:Nat):Int)))&&(decide (((((Qe n s.num).lnt).length:Nat):Int)>0)))))) (p:=((s.kids.length:Int)>0)∨((s.op=10)/\((s.num>=0)/\((s.num<(((n.routines.map XB).length:Nat):Int))/\(((((Qe n s.num).lnt).length:Nat):Int)>0))))) (Yn dq (YA Zr (YA dq (YA dq dq)))) (fun UJ=>?_) (fun UJ=>?_)))
  ·refine ar (Z0 2 (ie ?_))
   have hS0:=Az (n:=n) hnn (JY Zw om) (fun q=>Zy (Jz.2 q))
   have hS:=stB hS0 Y9 X9 Vd UJ
   exact Z9 (r2 [] [.i (-1),.b false] ⟨(-1),rfl,rfl,(by intro _ h;rw [hS] at h;omega)⟩ (Zc.tup (.cons (lr _) (.cons (lb (by rw [hS];rfl)) .nil))))
  refine ak (ar (Ty 6 [(229,Z6 ts)] [1,0,0] (ic [] (Z3u _ s.op s.num ts) ?_)))
  rintro _ _ ⟨t1,rfl,rfl,Ev⟩
  refine Z0 4 (ie ?_)
  have hS0:=Az (n:=n) hnn (JY Zw om) (fun q=>Zy (Jz.2 q))
  have hS:=stS hS0 Y9 X9 Vd UJ
  exact Z9 (r2 [] [.i t1,.b ((Xk n s.op s.num ts).isSome)] ⟨t1,rfl,rfl,(Zap hS Ev)⟩ (Zc.tup (.cons (lr _) (.cons (lb (Zao hty hS)) .nil))))
 refine Z0 2 (ib (b:=(decide ((s.kids.length:Int)>0))) 195 (fun Ad=>?_) (fun Ad=>?_))
 ·have Zcc:(s.kids.length:Int)>0:=(dq).1 Ad
  exact Z0 28 (Yp (ZK 3 (Zq true Ad fl)) hj6)
 have Zcd:¬((s.kids.length:Int)>0):=Yf dq Ad
 refine Z3 4 [0] (ib (b:=(s.op==10)) 199 (fun B4=>?_) (fun B4=>?_))
 ·have Zce:s.op=10:=(Zr).1 B4
  refine Z3 5 [0] (ib (b:=(decide (s.num>=0))) 204 (fun BP=>?_) (fun BP=>?_))
  ·have Zcf:s.num>=0:=(dq).1 BP
   refine Z3 4 [0,1] (io (.i (((n.routines.map XB).length:Nat):Int)) (.i (((UH (n.routines.map XB)).length:Nat):Int)) (li (by rw [Cx])) (Z0 3 (ib (b:=(decide (s.num<(((n.routines.map XB).length:Nat):Int)))) 212 (fun BQ=>?_) (fun BQ=>?_))))
   ·have Zcg:s.num<(((n.routines.map XB).length:Nat):Int):=(dq).1 BQ
    exact Z3 4 [1,0] (Zo (Ax (es:=UH (n.routines.map XB)) (hv:=none) (j:=s.num) (sz:=3) (y:=FQ (Qe n s.num)) kr om (BG (Z93 om)) rfl) (Z0 2 (io (.i ((((Qe n s.num).lnt).length:Nat):Int)) (.i (((Z7 ((Qe n s.num).lnt)).length:Nat):Int)) (li (by rw [Y7])) (Z0 3 (Yp (ZK 3 (Zq (decide (((((Qe n s.num).lnt).length:Nat):Int)>0)) (And.intro Ad (And.intro B4 (And.intro BP BQ))) fl)) hj6)))))
   have Zch:¬(s.num<(((n.routines.map XB).length:Nat):Int)):=Yf dq BQ
   exact Z0 11 (Yp (ZK 3 (Zq false (And.intro Ad (And.intro B4 (And.intro BP BQ))) fl)) hj6)
  have Zci:¬(s.num>=0):=Yf dq BP
  exact Z0 19 (Yp (ZK 3 (Zq false (And.intro Ad (And.intro B4 BP)) fl)) hj6)
 have Zcj:¬(s.op=10):=Yf Zr B4
 exact Z0 24 (Yp (ZK 3 (Zq false (And.intro Ad B4) fl)) hj6)
theorem Z3d (n:Zt) (us:LI) (b:Z5) (hn:YZ n) (hnn:∀t∈us,0<=t) (hb:us.length+4*b.sz<=1000000000) (hr:b.rng) (ih:∀(s:Z4) (us:LI),(s.sz<b.sz)->(us.length+4*s.sz<=1000000000)->(s.rng)->(∀t∈us,0<=t)->Zi 93 [.agg [Ya n.decls,Th n],Z6 us,Yr s] [] (fun r h=>∃(t:Int),r=.tup [.i t,.b (decide (0<=Yb n us s))]/\h=[]/\(¬Yd s.op=true->0<=Yb n us s->t=Yb n us s))):Zi 56 [.agg [Ya n.decls,Th n],Z6 us,ZH b] [] (Y6 (.i (X2 n us b))):=by
 have hbz:=WU b
 have hbe:=DN n us b
 rw [b.rng_eq] at hr
 refine ZC 54 Tryz.func56 (ar (iA [Ya n.decls,Th n] fun b1=>iA (YS b) fun b2=>Z0 1 (ie (ar (Z0 1 (ic [] (Cs us) ?_))))))
 rintro _ _ ⟨v1,rfl,rfl⟩
 refine Z0 1 (ie (aq (ar (Z3 2 [1] (iw (WQ b.steps) (Z0 1 (ie (ab 0 (ZW (fun fz gz m F h=>∃(k:Nat) (vs:LI) (v:Value),(k<=b.steps.length)/\(vs.length<=us.length+k)/\(∀t∈vs,0<=t)/\(V1 n (b.steps.drop k) vs=V1 n b.steps us)/\F=sF [3,5,15,16] fz [(7,ZU vs v),(17,.i k)]/\h=[Zk gz 1,Zk gz 2,.tail v 1]/\m=b.steps.length-k) _ _ _ ⟨0,us,v1,ob,ob,ob,ob,rfl,rfl,rfl⟩ (wk [1,1,0] (fr (Y0 fl))) ?_)))))))))
 rintro m F h ⟨k,vs,v,Y5,Zl,Zw,YB,rfl,rfl,rfl⟩
 refine ar (Z0 1 (ie (aq (ZE ((k:Int)<(b.steps.length:Int)) (fun Zb=>?_) (fun Zb=>?_)))))
 ·refine ak (aq (ab 1 (ar ?_)))
  obtain ⟨x1,Z2⟩:=Zs b.steps k om
  have hss:=Bi Z2
  have hsr:=OZ hr Z2
  refine Zo (Zh none (k:Int) 5 (XW Z2)) (Z0 1 (iA [.i 0,.i 0,.i 0,nl,nl] fun b3=>Zz 0 b3 (X7 x1) (ie (ar (Ty 3 [(23,Z6 vs)] [2,0] (ic [] (ih x1 vs ob ob ob ob) ?_))))))
  rintro _ _ ⟨t1,rfl,rfl,Y2⟩
  refine Z0 5 (ie (aq (ar (Z0 2 (ie (ac (!decide (0<=Yb n vs x1)) (p:=¬(decide (0<=Yb n vs x1)=true)) (Yv Iff.rfl) (fun Zg=>?_) (fun Zg=>?_)))))))
  ·exact ar (Z0 1 (ie (Z9 (ZP (.i (-1)) (li (by rw [hbe,<-YB,Zb7 Z2 (fun q=>Zg (decide_eq_true q)) rfl]))))))
  refine ak (ar (Z3 2 [0] (Zx [] (EA x1.op) (Z0 1 (ie (A4 (fun fz gz F h=>∃(w:Value),F=sF [3,5,15,16,17] fz [(7,ZU (if Yd x1.op=true then vs else vs++[t1]) w)]/\h=[Zk gz 1,Zk gz 2,.tail w 1]) (fun _ _=>rfl) ?_ ?_))))))
  ·refine ac (!Yd x1.op) (p:=¬(Yd x1.op=true)) (Yv Iff.rfl) (fun Zy=>?_) (fun Zy=>?_)
   ·exact az (Z0 2 (iL (Z7 [t1]) 1 1 fun v2=>ZM 0 [(36,Z6 [t1])] (ip 4 (Z7 (vs++[t1])) (Z7 vs) (Z7 [t1]) v none 1 (Ys _) (Ys _) (XN _) (by simp<;>omega) (by simp [XM,Z7]) fun v3=>Z0 1 (ie (ZO ⟨v3,rfl,rfl⟩ (wk [3,3,0] (fc (x:=ZU (vs++[t1]) v3) (Zc.slh _ (Yc Z7 (by first|rfl|(rw [Zm Zy])|(rw [Za Zy])|(simp [Zy];done)|(rw [X8];simp [Zy];done)|omega))) fl)))))))
   exact ak (ZO ⟨v,rfl,rfl⟩ (wk [1,1,1] (fc (x:=ZU vs v) (Zc.slh _ (Yc Z7 (by first|rfl|(rw [Zm Zy])|(rw [Za Zy])|(simp [Zy];done)|(rw [X8];simp [Zy];done)|omega))) fl)))
  rintro F h ⟨w,rfl,rfl⟩
  refine az (ZD k (Z0 1 (ie ?_)))
  have h0:0<=Yb n vs x1:=of_decide_eq_true (XT.1 Zg)
  exact ZG ⟨k+1,(if Yd x1.op=true then vs else vs++[t1]),w,ob,(by split<;>(try simp)<;>omega),(Z5r Zw (fun q=>by rw [Y2 q h0];exact h0)),(Zb6 Z2 h0 Y2 YB),rfl,rfl,rfl⟩ (ZK 3 (fr (ZJ k fl)))
 refine ax 0 (aq (ar (X5 [5,7] [(48,.b ((decide (b.result<0))||(decide (b.result>=(vs.length:Int)))))] (fun gz=>gz) ?_ ?_)))
 ·refine Z3 4 [0] (ib (b:=(decide (b.result<0))) 42 (fun Zf=>?_) (fun Zf=>?_))
  ·exact Z0 6 (ie (ZK 3 (Zq true Zf fl)))
  exact Z3 3 [0] (iw (Y7 vs) (Z0 2 (ie (ZK 3 (Zq (decide (b.result>=(vs.length:Int))) Zf fl)))))
 refine ac ((decide (b.result<0))||(decide (b.result>=(vs.length:Int)))) (p:=(b.result<0)∨(b.result>=(vs.length:Int))) (Yn dq dq) (fun Y9=>?_) (fun Y9=>?_)
 ·exact ar (Z0 1 (ie (Z9 (ZP (.i (-1)) (li (by rw [hbe,<-YB,YY om];show _=(Xi vs b.result).getD (-1);rw [Qm om];rfl))))))
 refine ak (ar (Z3 3 [0] ?_))
 obtain ⟨x2,Zp⟩:=Zs vs b.result.toNat om
 exact Zo (Zh (some v) b.result 1 (ZX Zp)) (Z0 2 (ie (Z9 (ZP (.i x2) (li (by rw [hbe,<-YB,YY om];show _=(Xi vs b.result).getD (-1);rw [TE om Zp];rfl))))))
theorem Z3b (n:Zt) (hn:YZ n) (hty:Bs n) (m:Nat):∀(b:Z5) (us:LI),(b.sz<=m)->(us.length+4*b.sz<=1000000000)->(b.rng)->(∀t∈us,0<=t)->Zi 56 [.agg [Ya n.decls,Th n],Z6 us,ZH b] [] (Y6 (.i (X2 n us b))):=by
 induction m with
 | zero=>intro b us h;have:=b.sz_pos;omega
 | succ m ih=>intro b us h1 h2 h3 h4;exact Z3d n us b hn h4 h2 h3 fun s us2 k1 k2 k3 k4=>Z3v n us2 s hn hty k4 k2 k3 fun b2 us3 q1 q2 q3 q4=>ih b2 us3 om q2 q3 q4
theorem Z3c (n:Zt) (us:LI) (b:Z5) (hn:YZ n) (hty:Bs n) (hnn:∀t∈us,0<=t) (hb:us.length+4*b.sz<=1000000000) (hr:b.rng):Zi 56 [.agg [Ya n.decls,Th n],Z6 us,ZH b] [] (Y6 (.i (X2 n us b))):=
 Z3b n hn hty b.sz b us (YT _) hb hr hnn
theorem Mt (n:Zt) (hz:Um n:=by exact ob) (hr:∀r∈n.routines,r.body.rng):Zi 19 [Y8 n] [] (Y6 (.b (Wg n))):=by
 have hzl:=hz.len
 refine ZC 37 Tryz.func19 (ar (iA (Yz n) fun b1=>Z0 1 (ie (ar (Z3 1 [0] (ic [] (Z3o n) ?_))))))
 rintro _ _ (⟨rfl,rfl,Y2⟩|⟨rfl,rfl,Yj⟩)
 ·refine Z0 3 (iA [nl,nl] fun b2=>Zz 0 b2 [Ya n.decls,Th n] (Z0 1 (ie (aq (ar (Z0 2 (ie (ac (!Ux n) (p:=¬(Ux n=true)) (Yv Iff.rfl) (fun Zb=>?_) (fun Zb=>?_)))))))))
  ·exact ar (Z0 1 (ie (Z9 (ZP (.b false) (lb (by rw [Wg,UR.2 Zb];rfl))))))
  have hsg:Ux n=true:=by simpa using Zb
  have hok:=Hw hz hsg
  have hty:=Z5s hsg
  refine ak (aq (ar (Z3 2 [1] (iw (Vo n.routines) (Z0 1 (ie (ab 0 (ZW (fun fz gz m F h=>∃(k:Nat),(k<=n.routines.length)/\(Qb n (n.routines.drop k)=Qb n n.routines)/\F=sF [3,15,16] fz [(17,.i k)]/\h=[Zk gz 0]/\m=n.routines.length-k) _ _ _ ⟨0,ob,ob,rfl,rfl,rfl⟩ (wk [0] (Y0 fl)) ?_))))))))
  rintro m F h ⟨k,Y5,Zl,rfl,rfl,rfl⟩
  refine ar (Z0 1 (ie (aq (ZE ((k:Int)<(n.routines.length:Int)) (fun Zg=>?_) (fun Zg=>?_)))))
  ·refine ak (aq (ab 1 (ar ?_)))
   obtain ⟨x1,Z2⟩:=Zs n.routines k om
   have hrm:=ZY Z2
   have ZB:=hz.body _ hrm
   have hps:=hok.params_at Z2
   refine Zo (Zh none (k:Int) 5 (Wi Z2)) (Z0 1 (iA [nl,nl,.i 0,nl,.i 0] fun b3=>Zz 0 b3 (T9 x1) (ie (aD 15 (ZL 13 15 [0,1] [0] (Z8 2 (Yg 2 [] [] [] (Z38 x1.body) (Jf [3,15,16,17] [(35,.b ((decide ((T0 x1.body)<0))||((X2 n x1.params x1.body) != x1.result)))] (fun gz=>gz) ?_ ?_))))))))
   ·refine Zj 10 12 [3,4] (db (b:=(decide ((T0 x1.body)<0))) 25 (fun Zf=>?_) (fun Zf=>?_))
    ·have YJ:(T0 x1.body)<0:=(dq).1 Zf
     exact Zj 0 10 [5,6,7,8,9,10,11,12,13,14] (de (wk [0,0] (Zq true Zf fl)))
    have YR:¬((T0 x1.body)<0):=Yf dq Zf
    exact ZL 3 10 [5,6,7,8,9,11,12] [1,0,0,0] (Z8 10 (Yg 10 [] [0] [b3] (Z3c n x1.params x1.body ob hty (hty.params _ hrm) ob (hr _ hrm)) (Zj 0 2 [13,14] (de (wk [0,0] (Zq ((X2 n x1.params x1.body) != x1.result) Zf fl))))))
   refine ac ((decide ((T0 x1.body)<0))||((X2 n x1.params x1.body) != x1.result)) (p:=((T0 x1.body)<0)∨((X2 n x1.params x1.body)≠x1.result)) (Yn dq Ye) (fun Zy=>?_) (fun Zy=>?_)
   ·refine ar (Z0 1 (ie ?_))
    rw [Y3 Z2] at Zl
    exact Z9 (ZP (.b false) (lb (by clear Z2;first|rfl|omega|grind [Qb,Wg])))
   refine ak (az (ZD k (Z0 1 (ie ?_))))
   have hdr:=Y3 Z2
   exact ZG ⟨k+1,ob,(by rw [hdr] at Zl;clear hdr Z2;grind [Qb]),rfl,rfl,rfl⟩ (wk [1] (ZJ k fl))
  refine ax 0 (ar (Z0 1 (ie ?_)))
  try rw [YY (xs:=n.routines) (k:=k) om] at Zl
  exact Z9 (ZP (.b true) (lb (by first|rfl|omega|grind [Qb,Wg])))
 exact Z0 3 (iA [nl,nl] fun b4=>Zz 0 b4 [Ya [],C0 []] (Z0 1 (ie (aq (ar (Z0 2 (ie (WC (ar (Z0 1 (ie (Z9 (ZP (.b false) (lb (by rw [Wg,‹Ux n=false›];rfl)))))))))))))))
open Go.Proofs
open Go.Proofs
abbrev Mem:=Nat->Nat->Option Value
abbrev AH:=Nat × Nat
def upd (m:Mem) (a:AH) (z:Int):Mem:=fun g o=>if g=a.1/\o=a.2 then some (.int .i64 z) else m g o
def wr (m:Mem):List AH->Int->Mem
 | [],_=>m
 | a::r,k=>wr (upd m a k) r (k+1)
def Eu (m:Mem):List AH->Int->Prop
 | [],_=>True
 | a::r,k=>m a.1 a.2=some (.int .i64 k)/\Eu m r (k+1)
def MA (m:Mem) (a:AH):Prop:=∃z,m a.1 a.2=some (.int .i64 z)
structure Kp (m m':Mem):Prop where
 i:∀{a:AH},MA m a->MA m' a
 h:∀{g o:Nat} {v:Value},m g o=some v->(∀z,v≠.int .i64 z)->m' g o=some v
section
variable {P:Program} {n:Nat} {ops:Array Oper} {B:Fr->List Res->Prop} {k:Nat} {F:Fr} {h h2:List Res}
end
section
variable {m m':Mem} {B:List Nat}
end
section
variable {m:Mem} {B:List Nat} {g:Nat}
end
section
variable {m:Mem} {B:List Nat}
end
def Zn (g lo hi:Nat) (X:List Nat) (a:AH):Prop:=(a.1=g/\lo<=a.2/\a.2<hi)∨a.1∈X
structure Nd (g lo hi:Nat) (X:List Nat) (as1:List AH):Prop where
 nd:(X.Nodup/\g∉X)->as1.Nodup
 zn:∀a∈as1,Zn g lo hi X a
section
variable {m:Mem} {B:List Nat}
end
def GB (B:List Nat):Y4:=fun b _=>b∈B
section
variable {w:World} {G:Y4} {B:List Nat}
end
section
variable {w:World} {G:Y4} {B:List Nat}
def Mn:Value->Hd
 | .slice a l c=>⟨a,l,c⟩
 | _=>⟨none,0,0⟩
abbrev av (y:Iv):AV:=.agg [.h (Mn y.dv),.h (Mn y.rv)]
end
def PD (B:List Nat) (m:Mem) (x:AV) (u:Value):Prop:=
 ∀w:World,(∀b∈B,∃cs e,w.heap[b]? = some (.cells cs e (0,0))/\∀o,cs[o]? = m b o)->RV w (GB B) x u
inductive Ck (bs:List Res):List AV->List AV->Prop
 | nil:Ck bs [] []
 | same {x as1 xs} (t:Ck bs as1 xs):Ck bs (x::as1) (x::xs)
 | gen {B m x a u as1 xs} (h:Res.own B m∈bs) (hr:PD B m x u) (ha:∀w G v,RV w G a v->v=u) (t:Ck bs as1 xs):Ck bs (a::as1) (x::xs)
section
variable {P:Program} {n:Nat} {ops:Array Oper} {B:Fr->List Res->Prop} {k:Nat} {F:Fr} {h:List Res}
def IU (P:Program) (ops:Array Oper) (F:Fr) (k:Nat):Option (Bool × Bool):=
 match (ZA ops k).op with
 | .binOp .neq t x y _=>match P.underlying t with
  | some .bool=>match F.ev x,F.ev y with
   | .val (.bool a),.val (.bool b)=>some (a,b)
   | _,_=>none
  | _=>none
 | _=>none
theorem Z4i (a b:Bool) (hb:IU P ops F k=some (a,b):=by kernel_rfl):Xm P (ZA ops k) F h [] (.b (a != b)):=by
 unfold IU at hb
 generalize hoo:ZA ops k=o at hb
 obtain ⟨dst,op,type,pos,after,guard⟩:=o
 cases op<;>simp only at hb<;>try (cases hb)
 rename_i bop t x y yt
 cases bop<;>simp only at hb<;>try (cases hb)
 split at hb
 ·rename_i ht
  split at hb
  ·rename_i a' b' h1 h2
   cases hb
   intro n w G ac hF hh
   have v1:=hF.ev x
   have v2:=hF.ev y
   rw [h1] at v1
   rw [h2] at v2
   have v1:=v1.val_inv
   have v2:=v2.val_inv
   refine ⟨_,.val,fun w' _ _=>?_⟩
   simp only [execOp,v1,v2]
   have he:(Op.equalIn (9999+1) t (.bool a) (.bool b)).run P w'=.ok (a==b) w':=by
    rw [Op.equalIn]
    simp [Sem.run_bind,Vi ht]
   refine WT ?_
   simp only [eqGuard,binOp,Op.equal,Op.maxDepth]
   have he2:(Op.equalIn 10000 t (.bool a) (.bool b)).run P w'=.ok (a==b) w':=he
   simp [Sem.run_bind,he2,bne]
  ·cases hb
 ·cases hb
end
end Go.Abs
section
namespace Go.Abs
section
variable {P:Program} {n:Nat} {ops:Array Oper} {B:Fr->List Res->Prop} {k:Nat} {F:Fr} {h:List Res}
def IV (P:Program) (ops:Array Oper) (F:Fr) (k:Nat):Option (Bool × Bool):=
 match (ZA ops k).op with
 | .binOp .eql t x y _=>match P.underlying t with
  | some .bool=>match F.ev x,F.ev y with
   | .val (.bool a),.val (.bool b)=>some (a,b)
   | _,_=>none
  | _=>none
 | _=>none
theorem MC (a b:Bool) (hb:IV P ops F k=some (a,b):=by kernel_rfl):Xm P (ZA ops k) F h [] (.b (a==b)):=by
 unfold IV at hb
 generalize hoo:ZA ops k=o at hb
 obtain ⟨dst,op,type,pos,after,guard⟩:=o
 cases op<;>simp only at hb<;>try (cases hb)
 rename_i bop t x y yt
 cases bop<;>simp only at hb<;>try (cases hb)
 split at hb
 ·rename_i ht
  split at hb
  ·rename_i a' b' h1 h2
   cases hb
   intro n w G ac hF hh
   have v1:=hF.ev x
   have v2:=hF.ev y
   rw [h1] at v1
   rw [h2] at v2
   have v1:=v1.val_inv
   have v2:=v2.val_inv
   refine ⟨_,.val,fun w' _ _=>?_⟩
   simp only [execOp,v1,v2]
   have he:(Op.equalIn (9999+1) t (.bool a) (.bool b)).run P w'=.ok (a==b) w':=by
    rw [Op.equalIn]
    simp [Sem.run_bind,Vi ht]
   refine WT ?_
   simp only [eqGuard,binOp,Op.equal,Op.maxDepth]
   have he2:(Op.equalIn 10000 t (.bool a) (.bool b)).run P w'=.ok (a==b) w':=he
   simp [Sem.run_bind,he2]
  ·cases hb
 ·cases hb
end
end Go.Abs
namespace Go.Abs
end Go.Abs
namespace Go.Abs
theorem Wb.alone {P:Program} {f:FuncId} {as1:List AV} {h0:List Res} {R:AV->List Res->Prop} {r0:AV} (H:Wb P f as1 h0 R) (hR:∀r h,R r h->Zc r r0):Wb P f as1 h0 (fun r h=>r=r0/\h=[]):=by
 intro w G vs hv hh
 refine (H w G vs hv hh).mono ?_
 rintro e w' ⟨u,r,h',G',he,hq,hr,hh',hx⟩
 exact ⟨_,_,[],G',he,⟨rfl,rfl⟩,hR _ _ hq _ _ _ hr,hh'.sub (List.nil_sublist _),hx.sub' (List.nil_sublist _)⟩
end Go.Abs
end
namespace Go.Abs
open Go.Proofs
theorem Z9t (b:Z5) (hz:b.sz<=1000000000) (ih:∀(b2:Z5),(b2.sz<=1000000000)->(b2.sz<b.sz)->Zi 104 [ZH b2] [] (Y6 (.b (WH b2)))):Zi 104 [ZH b] [] (Y6 (.b (WH b))):=by
 have hbz:=WU b
 have hbe:=b.sz_eq
 refine ZC 50 Tryz.func104 (ar (iA (YS b) fun b1=>?_))
 refine Z0 1 (ie (aq (ar (Z0 1 (ie (ab 0 (ZW (fun fz gz m F h=>∃(k:Nat),(k<=b.steps.length)/\(Vv (b.steps.drop k)=Vv b.steps)/\F=sF [1] fz [(3,.i k)]/\h=gz/\m=b.steps.length-k) _ _ _ ⟨0,ob,rfl,rfl,rfl,rfl⟩ (wk [0] (Y0 fl)) ?_)))))))
 rintro m F h ⟨k,Y5,Zl,rfl,rfl,rfl⟩
 refine aq (ar (Z3 3 [0] (iw (WQ b.steps) (Z0 1 (ie (ZE ((k:Int)<(b.steps.length:Int)) (fun Zb=>?_) (fun Zb=>?_)))))))
 ·refine ak (aq (ab 1 (aq (ar (Z3 3 [0] ?_)))))
  obtain ⟨x1,Z2⟩:=Zs b.steps k om
  have Xf:=TO Z2
  have hkz:=U4 x1
  refine Zo (Zh none (k:Int) 5 (XW Z2)) (Z0 2 (Zx [] (I4 x1.op) (X5 [1,3] [(27,.b (Yd x1.op||(x1.into != 0)))] (fun gz=>gz) ?_ ?_)))
  ·refine Z0 1 (ib (b:=Yd x1.op) 19 (fun Zf=>?_) (fun Zf=>?_))
   ·exact Z0 8 (ie (wk [0] (Zq true Zf fl)))
   exact Z3 3 [0] (Zo (Zh none (k:Int) 5 (XW Z2)) (Z0 4 (ie (wk [0] (Zq (x1.into != 0) Zf fl)))))
  refine ac (Yd x1.op||(x1.into != 0)) (p:=(Yd x1.op=true)∨(x1.into≠0)) (Yn Iff.rfl Ye) (fun Zg=>?_) (fun Zg=>?_)
  ·exact ar (Z0 1 (ie (Z9 (ZP (.b false) (lb (by rw [F3];exact Z6x Z2 Zg Zl))))))
  refine ak (ar (Z0 1 (ie (ab 2 (ZW (fun fz gz m F h=>∃(j:Nat),(j<=x1.kids.length)/\(Vg (x1.kids.drop j)=Vg x1.kids)/\F=sF [1,3] fz [(4,.i j)]/\h=gz/\m=x1.kids.length-j) _ _ _ ⟨0,ob,rfl,rfl,rfl,rfl⟩ (wk [0] (Y0 fl)) ?_)))))
  rintro m F h ⟨j,Vl,Xt,rfl,rfl,rfl⟩
  refine aq (ar (Z3 4 [0] (Zo (Zh none (k:Int) 5 (XW Z2)) (Z0 2 (iw (Va x1.kids) (Z0 1 (ie (ZE ((j:Int)<(x1.kids.length:Int)) (fun Zy=>?_) (fun Zy=>?_)))))))))
  ·refine ak (aq (ab 3 (ar (Z3 3 [0] (Zo (Zh none (k:Int) 5 (XW Z2)) (Z0 3 ?_))))))
   obtain ⟨x2,Zp⟩:=Zs x1.kids j om
   have hks:=U3 Zp
   refine Zo (Zh none (j:Int) 2 (VK Zp)) (Z0 1 (Zx [] (ih x2 ob ob) (Z0 1 (ie (ac (!WH x2) (p:=¬(WH x2=true)) (Yv Iff.rfl) (fun Y9=>?_) (fun Y9=>?_))))))
   ·exact ar (Z0 1 (ie (Z9 (ZP (.b false) (lb (by rw [F3];exact Z6y Z2 (Z6u Zp Y9 Xt) Zl))))))
   exact ak (az (Z0 1 (ZD j (Z0 1 (ie (ZG ⟨j+1,ob,(Z6w Zp (XT.1 Y9) Xt),rfl,rfl,rfl⟩ (wk [0] (ZJ j fl))))))))
  exact ax 2 (az (Z0 1 (ZD k (Z0 1 (ie (ZG ⟨k+1,ob,(Z70 Z2 Zg (Z6v om Xt) Zl),rfl,rfl,rfl⟩ (wk [0] (ZJ k fl))))))))
 exact ax 0 (ar (Z0 1 (ie (Z9 (ZP (.b true) (lb (by rw [F3];exact Z6z om Zl)))))))
theorem Z9r (k:Nat):∀(b2:Z5),(b2.sz<=1000000000)->(b2.sz<k)->Zi 104 [ZH b2] [] (Y6 (.b (WH b2))):=by
 induction k with
 | zero=>intro b _ h;omega
 | succ k ih=>intro b h1 h2;exact Z9t b h1 fun b2 k1 k2=>ih b2 k1 om
theorem Z9s (b:Z5) (hz:b.sz<=1000000000:=by exact ob):Zi 104 [ZH b] [] (Y6 (.b (WH b))):=Z9r (b.sz+1) b hz om
theorem Z9o (n:Zt) (hz:Um n:=by exact ob):Zi 70 [Y8 n] [] (Y6 (.b (VD n))):=by
 have hzl:=hz.len
 refine ZC 22 Tryz.func70 (ar (iA (Yz n) fun b1=>Z0 1 (ie (aq (ar (Z3 1 [0] (Zx [] (OX n) (Z0 1 (ie (ac (!Wg n) (p:=¬(Wg n=true)) (Yv Iff.rfl) (fun Zb=>?_) (fun Zb=>?_)))))))))))
 ·exact ar (Z0 1 (ie (Z9 (ZP (.b false) (lb (by rw [VD,UR.2 Zb];rfl))))))
 refine ak (aq (ar (Z0 1 (ie (ab 0 (ZW (fun fz gz m F h=>∃(k:Nat),(k<=n.routines.length)/\(Uy (n.routines.drop k)=Uy n.routines)/\F=sF [1] fz [(3,.i k)]/\h=gz/\m=n.routines.length-k) _ _ _ ⟨0,ob,rfl,rfl,rfl,rfl⟩ (wk [0] (Y0 fl)) ?_))))))
 rintro m F h ⟨k,Y5,Zl,rfl,rfl,rfl⟩
 refine aq (ar (Z3 3 [0] (iw (Vo n.routines) (Z0 1 (ie (ZE ((k:Int)<(n.routines.length:Int)) (fun Zg=>?_) (fun Zg=>?_)))))))
 ·refine ak (aq (ab 1 (ar (Z3 3 [0] ?_))))
  obtain ⟨x1,Z2⟩:=Zs n.routines k om
  have hrm:=ZY Z2
  have hbz:=hz.body _ hrm
  refine Zo (Zh none (k:Int) 5 (Wi Z2)) (Z0 2 (Zx [] (Z9s x1.body) (Z0 1 (ie (ac (!WH x1.body) (p:=¬(WH x1.body=true)) (Yv Iff.rfl) (fun Zy=>?_) (fun Zy=>?_))))))
  ·exact ar (Z0 1 (ie (Z9 (ZP (.b false) (lb (by rw [VD,XT.1 Zb,Bool.true_and];exact NK Z2 Zy Zl))))))
  exact ak (az (Z0 1 (ZD k (Z0 1 (ie (ZG ⟨k+1,ob,(NO Z2 (XT.1 Zy) Zl),rfl,rfl,rfl⟩ (wk [0] (ZJ k fl))))))))
 exact ax 0 (ar (Z0 1 (ie (Z9 (ZP (.b true) (lb (by rw [VD,XT.1 Zb,Bool.true_and];exact NM om Zl)))))))
theorem OI (n:Zt) (hz:Um n:=by exact ob):Zi 33 [Y8 n] [] (Y6 (.b (VD n))):=by
 exact ZC 5 Tryz.func33 (ar (iA (Yz n) fun b1=>Z0 1 (ie (ar (Z3 1 [0] (Zx [] (Z9o n) (Z0 1 (ie (Z9 (Ft))))))))))
theorem Z3s (s:Z4) (cc:Nat) (v:Bool) :Zi 103 [Yr s,.p cc 0] [.obj cc [.b v]] (fun r h=>h=[.obj cc [.b ((v&&(!Yd s.op))&&(s.into==0))]]):=by
 refine ZC 15 Tryz.func103 (ar (iA (X7 s) fun b1=>ie (az (Xv 7 [1,2] [(9,.b (v&&(!Yd s.op)))] (fun gz=>gz) ?_ (fun hj1=>?_)))))
 ·refine Xv 12 [1] [(14,.b ((v&&(!Yd s.op))&&(s.into==0)))] (fun gz=>gz) ?_ (fun hj2=>?_)
  ·exact Zz 1 cc [.b ((v&&(!Yd s.op))&&(s.into==0))] (ie (r2 [0] [] rfl (lr _)))
  refine Z0 1 (ib (b:=(v&&(!Yd s.op))) 10 (fun Zf=>?_) (fun Zf=>?_))
  ·exact Z3 4 [0] (Yp (wk [0,0] (Zq (s.into==0) Zf fl)) hj2)
  exact Z0 4 (Yp (wk [0,0] (Zq false Zf fl)) hj2)
 refine Z3 2 [1] (ib (b:=v) 4 (fun ZF=>?_) (fun ZF=>?_))
 ·exact Z3 2 [0] (Zx [] (EA s.op) (Z0 2 (Yp (wk [0,0] (Zq (!Yd s.op) ZF fl)) hj1)))
 exact Z0 5 (Yp (wk [0,0] (Zq false ZF fl)) hj1)
theorem Z3z (b:Z5) (cc:Nat) (v:Bool) (hz:b.sz<=1000000000) (ih:∀(b2:Z5) (cc:Nat) (v2:Bool),(b2.sz<=1000000000)->(b2.sz<b.sz)->Zi 64 [ZH b2,.val (.func (.func 103) #[] #[.pointer (some ⟨cc,0,none⟩)])] [.obj cc [.b v2]] (fun r h=>h=[.obj cc [.b (v2&&WH b2)]])):Zi 64 [ZH b,.val (.func (.func 103) #[] #[.pointer (some ⟨cc,0,none⟩)])] [.obj cc [.b v]] (fun r h=>h=[.obj cc [.b (v&&WH b)]]):=by
 have hbz:=WU b
 have hbe:=b.sz_eq
 refine ZC 30 Tryz.func64 (ar (iA (YS b) fun b1=>?_))
 refine ie (ar (Z3 2 [0] (iw (WQ b.steps) (Z0 1 (ie (ab 0 (ZW (fun fz gz m F h=>∃(k:Nat) (u:Bool),(k<=b.steps.length)/\((u&&Vv (b.steps.drop k))=(v&&Vv b.steps))/\F=sF [1,9,10] fz [(11,.i k)]/\h=[.obj cc [.b u]]/\m=b.steps.length-k) _ _ _ ⟨0,v,ob,rfl,rfl,rfl,rfl⟩ (wk [1] (Y0 fl)) ?_)))))))
 rintro m F h ⟨k,u,Y5,Zl,rfl,rfl,rfl⟩
 refine ar (Z0 1 (ie (aq (ZE ((k:Int)<(b.steps.length:Int)) (fun Zb=>?_) (fun Zb=>?_)))))
 ·refine ak (aq (ab 1 (ar ?_)))
  obtain ⟨x1,Z2⟩:=Zs b.steps k om
  have Xf:=TO Z2
  have hkz:=U4 x1
  refine Zo (Zh none (k:Int) 5 (XW Z2)) (Z0 1 (iA [.i 0,.i 0,.i 0,nl,nl] fun b2=>Zz 0 b2 (X7 x1) (ie (ar (Z3 2 [0] (ic [1] (Z3s x1 cc u) ?_))))))
  rintro _ _ rfl
  refine ie (ar (Z3 2 [1] (iw (Va x1.kids) (Z0 1 (ie (ab 2 (ZW (fun fz gz m F h=>∃(j:Nat) (w:Bool),(j<=x1.kids.length)/\((w&&Vg (x1.kids.drop j))=(((u&&(!Yd x1.op))&&(x1.into==0))&&Vg x1.kids))/\F=sF [1,9,10,11,19,20] fz [(21,.i j)]/\h=[.obj cc [.b w]]/\m=x1.kids.length-j) _ _ _ ⟨0,((u&&(!Yd x1.op))&&(x1.into==0)),ob,rfl,rfl,rfl,rfl⟩ (wk [0] (Y0 fl)) ?_)))))))
  rintro m F h ⟨j,w,Vl,Xt,rfl,rfl,rfl⟩
  refine ar (Z0 1 (ie (aq (ZE ((j:Int)<(x1.kids.length:Int)) (fun Zg=>?_) (fun Zg=>?_)))))
  ·refine ak (aq (ab 3 (ar ?_)))
   obtain ⟨x2,Zp⟩:=Zs x1.kids j om
   have hks:=U3 Zp
   refine Zo (Zh none (j:Int) 2 (VK Zp)) (Z0 1 (iA [nl,.i 0] fun b3=>Zz 0 b3 (YS x2) (ie (az (Z3 2 [0] (ic [1] (ih x2 cc w ob ob) ?_))))))
   rintro _ _ rfl
   exact ie (az (ZD j (Z0 1 (ie (ZG ⟨j+1,(w&&WH x2),ob,(Z6t Zp Xt),rfl,rfl,rfl⟩ (wk [0] (ZJ j fl)))))))
  have hKe:=Z6s om Xt
  exact ax 2 (az (ZD k (Z0 1 (ie (ZG ⟨k+1,w,ob,(by have h:=Z6q Z2 Zl;rw [HA,<-Bool.and_assoc,<-Bool.and_assoc,<-hKe] at h;exact h),rfl,rfl,rfl⟩ (wk [0] (ZJ k fl)))))))
 exact ax 0 (r2 [0] [] rfl (lr _) (eq:=(ro (ls:=[.b u]) (by rw [F3,<-Z6p om Zl]) rz)))
theorem Z3x (k:Nat):∀(b2:Z5) (cc:Nat) (v2:Bool),(b2.sz<=1000000000)->(b2.sz<k)->Zi 64 [ZH b2,.val (.func (.func 103) #[] #[.pointer (some ⟨cc,0,none⟩)])] [.obj cc [.b v2]] (fun r h=>h=[.obj cc [.b (v2&&WH b2)]]):=by
 induction k with
 | zero=>intro b cc v _ h;omega
 | succ k ih=>intro b cc v h1 h2;exact Z3z b cc v h1 fun b2 cc2 v2 k1 k2=>ih b2 cc2 v2 k1 om
theorem Z3y (b:Z5) (cc:Nat) (v:Bool) (hz:b.sz<=1000000000:=by exact ob):Zi 64 [ZH b,.val (.func (.func 103) #[] #[.pointer (some ⟨cc,0,none⟩)])] [.obj cc [.b v]] (fun r h=>h=[.obj cc [.b (v&&WH b)]]):=Z3x (b.sz+1) b cc v hz om
theorem Z3l (b:Z5) (hz:b.sz<=1000000000:=by exact ob):Zi 69 [ZH b] [] (Y6 (.b (WH b))):=by
 refine ZC 8 Tryz.func69 (ar (iA (YS b) fun b1=>Z0 1 (ie (ar (iA [.b false] fun b2=>Zz 0 b2 [.b true] (ie (ar (Z3 2 [1] (ic [0] (Z3y b b2 true) ?_)))))))))
 rintro _ _ rfl
 exact ie (ar (Z3 2 [0] (ie (Z9 (ZP (.b (true&&WH b)) (lb (by rw [Bool.true_and])))))))
theorem Z35 (n:Zt) (hz:Um n:=by exact ob) (hr:∀r∈n.routines,r.body.rng):Zi 32 [Y8 n] [] (Y6 (.b (VD n))):=by
 have hzl:=hz.len
 refine ZC 20 Tryz.func32 (ar (iA (Yz n) fun b1=>Z0 1 (ie (aq (ar (Z3 1 [0] (Zx [] (Mt n (hr:=hr)) (Z0 1 (ie (ac (!Wg n) (p:=¬(Wg n=true)) (Yv Iff.rfl) (fun Zb=>?_) (fun Zb=>?_)))))))))))
 ·exact ar (Z0 1 (ie (Z9 (ZP (.b false) (lb (by rw [VD,UR.2 Zb];rfl))))))
 refine ak (aq (ar (Z3 2 [0] (iw (Vo n.routines) (Z0 1 (ie (ab 0 (ZW (fun fz gz m F h=>∃(k:Nat),(k<=n.routines.length)/\(Uy (n.routines.drop k)=Uy n.routines)/\F=sF [9,10] fz [(11,.i k)]/\h=[]/\m=n.routines.length-k) _ _ _ ⟨0,ob,rfl,rfl,rfl,rfl⟩ (wk [] (Y0 fl)) ?_))))))))
 rintro m F h ⟨k,Y5,Zl,rfl,rfl,rfl⟩
 refine ar (Z0 1 (ie (aq (ZE ((k:Int)<(n.routines.length:Int)) (fun Zg=>?_) (fun Zg=>?_)))))
 ·refine ak (aq (ab 1 (ar ?_)))
  obtain ⟨x1,Z2⟩:=Zs n.routines k om
  have hrm:=ZY Z2
  have hbz:=hz.body _ hrm
  refine Zo (Zh none (k:Int) 5 (Wi Z2)) (Z0 1 (iA [nl,nl,.i 0,nl,.i 0] fun b2=>Zz 0 b2 (T9 x1) (ie (ar (Z3 2 [0] (Zx [] (Z3l x1.body) (Z0 1 (ie (ac (!WH x1.body) (p:=¬(WH x1.body=true)) (Yv Iff.rfl) (fun Zy=>?_) (fun Zy=>?_))))))))))
  ·exact ar (Z0 1 (ie (Z9 (ZP (.b false) (lb (by rw [VD,XT.1 Zb,Bool.true_and];exact NK Z2 Zy Zl))))))
  exact ak (az (ZD k (Z0 1 (ie (ZG ⟨k+1,ob,(NO Z2 (XT.1 Zy) Zl),rfl,rfl,rfl⟩ (wk [] (ZJ k fl)))))))
 exact ax 0 (ar (Z0 1 (ie (Z9 (ZP (.b true) (lb (by rw [VD,XT.1 Zb,Bool.true_and];exact NM om Zl)))))))
theorem EK (xs:LI) (ys:LI) (hxl:xs.length<=1000000000:=by exact ob) (hyl:ys.length<=1000000000:=by exact ob):Zi 27 [Z6 xs,Z6 ys] [] (Y6 (.b (decide (xs=ys)))):=by
 refine ZC 26 Tryz.func27 (ar (Z0 1 (ie (aq (ar (Z0 1 (iw (Y7 xs) (Z0 1 (iw (Y7 ys) (Z0 1 (ie (ac ((xs.length:Int) != (ys.length:Int)) Ye (fun Zb=>?_) (fun Zb=>?_)))))))))))))
 ·exact ar (Z0 1 (ie (Z9 (ZP (.b false) (lb (decide_eq_false (fun z=>Zb (by rw [z]))).symm)))))
 refine ak (aq (ar (Z0 1 (ie (ab 0 (ZW (fun fz gz m F h=>∃(k:Nat),(k<=xs.length)/\(∀i,i<k->xs[i]? = ys[i]?)/\F=sF [0,1] fz [(5,.i k)]/\h=gz/\m=xs.length-k) _ _ _ ⟨0,ob,(fun i h=>absurd h om),rfl,rfl,rfl⟩ (wk [] (Y0 fl)) ?_))))))
 rintro m F h ⟨k,Y5,Zl,rfl,rfl,rfl⟩
 refine aq (ar (Z0 2 (iw (Y7 xs) (Z0 1 (ie (ZE ((k:Int)<(xs.length:Int)) (fun Zg=>?_) (fun Zg=>?_)))))))
 ·refine ak (aq (ab 1 (aD 9 (Zj 7 9 [0,1] ?_))))
  obtain ⟨x1,Z2⟩:=Zs xs k om
  refine dx 2 (Zh none (k:Int) 1 (ZX Z2)) (Zj 3 6 [3,4,5] ?_)
  obtain ⟨x2,Zp⟩:=Zs ys k om
  refine dx 6 (Zh none (k:Int) 1 (ZX Zp)) (Zj 0 2 [7,8] (de (ac (x1 != x2) Ye (fun Zy=>?_) (fun Zy=>?_))))
  ·exact ar (Z0 1 (ie (Z9 (ZP (.b false) (lb (decide_eq_false (fun z=>Zy (by rw [z,Zp] at Z2;cases Z2;rfl))).symm)))))
  exact ak (az (Z0 1 (ZD k (Z0 1 (ie (ZG ⟨k+1,ob,(fun i h=>(Nat.lt_succ_iff_lt_or_eq.1 h).elim (Zl i) (fun z=>by rw [z,Z2,Zp,XT.1 Zy])),rfl,rfl,rfl⟩ (wk [] (ZJ k fl))))))))
 exact ax 0 (ar (Z0 1 (ie (Z9 (ZP (.b true) (lb (decide_eq_true (SQ om (fun i hi=>Zl i om))).symm))))))
theorem Z0j (rd:Nat) (bs:LI) (p:Nat) (ZB:∀z∈bs,0<=z/\z<=255) (hp:p+147500000<=1000000000:=by exact ob):Zi 68 [.p rd 0] [Yi rd bs p] (fun r h=>∃(n2:Zt) (p2:Nat),r=Y8 n2/\h=[Yi rd bs p2]/\ZS n2 7330632 11/\p<=p2/\p2<=p+147500000):=by
 refine ZC 12 Tryz.func68 (ar (iA [nl,nl] fun b1=>ie (aq (ar (Z0 1 (ic [1] (XG rd bs p 12 (ZB:=ob)) ?_))))))
 rintro _ _ ⟨k1,rfl,rfl,Y2⟩
 refine Z0 1 (ie (ac (k1==0) Zr (fun Zb=>?_) (fun Zb=>?_)))
 ·refine ar (Z0 1 (ic [0] (M2 rd bs (p+1) (ZB:=ob)) ?_))
  rintro _ _ ⟨n21,p21,rfl,rfl,Yj⟩
  have haf:=Yj
  exact Zz 1 b1 (Yz n21) (ie (Z9 (r3 [1] [Y8 n21] [0] [(b1,b1)] ⟨n21,p21,rfl,rfl,(by first|exact ⟨haf.1,by omega,by omega⟩|exact ⟨hsf.1,by omega,by omega⟩)⟩ (lr _))))
 refine ak (ar (Z0 2 (ic [0] (GV rd bs (p+1) (ZB:=ob)) ?_)))
 rintro _ _ ⟨n1,p22,rfl,rfl,YJ⟩
 have hpf:=((FO.zn YJ.1).le (show 181<=7330630 by omega)).zs
 refine ic [0] (GW rd bs p22 n1 20 7330630 10 (ZB:=ob) (hzn:=hpf)) ?_
 rintro _ _ ⟨n22,p23,rfl,rfl,YR⟩
 have hsf:=YR
 exact Zz 1 b1 (Yz n22) (ie (Z9 (r3 [1] [Y8 n22] [0] [(b1,b1)] ⟨n22,p23,rfl,rfl,(by first|exact ⟨haf.1,by omega,by omega⟩|exact ⟨hsf.1,by omega,by omega⟩)⟩ (lr _))))
theorem Z0h (code:LI) (hcl:code.length<=1048576:=by exact ob) (hcb:∀z∈code,0<=z/\z<=255):Zi 31 [VF code] [] (fun r h=>∃(n2:Zt),r=Y8 n2/\h=[]/\ZS n2 7330632 11):=by
 refine ZC 13 Tryz.func31 (ar (iA [nl,nl] fun b1=>ie (ar (Z0 1 (ic [] (Z1r code (hc:=hcb)) ?_)))))
 rintro _ _ ⟨rd1,bs1,rfl,rfl,Y2⟩
 have hnr:=Y2
 refine Z0 1 (ie (aq (ar (Z0 1 (ic [0] (XG rd1 bs1 0 2 (ZB:=hnr)) ?_)))))
 rintro _ _ ⟨k1,rfl,rfl,Yj⟩
 refine Z0 1 (ie (ac (k1==0) Zr (fun Zb=>?_) (fun Zb=>?_)))
 ·refine ar (Z0 1 (ic [0] (M2 rd1 bs1 (0+1) (ZB:=hnr)) ?_))
  rintro _ _ ⟨n21,p21,rfl,rfl,YJ⟩
  have haf:=YJ
  exact Zz 1 b1 (Yz n21) (ie (Z9 (r3 [] [Y8 n21] [0] [(b1,b1)] ⟨n21,rfl,rfl,(by first|exact haf.1|exact hap.1)⟩ (lr _))))
 refine ak (ar (Z0 1 (ic [0] (Z0j rd1 bs1 (0+1) (ZB:=hnr)) ?_)))
 rintro _ _ ⟨n22,p22,rfl,rfl,YR⟩
 have hap:=YR
 exact Zz 1 b1 (Yz n22) (ie (Z9 (r3 [] [Y8 n22] [0] [(b1,b1)] ⟨n22,rfl,rfl,(by first|exact haf.1|exact hap.1)⟩ (lr _))))
theorem Rv (ds:List Ze) (hl_ds:ds.length<=4294967296:=by exact ob):Zi 149 [Ya ds] [] (fun r h=>∃(v:Hd),r=.h v/\h=[rK v 3 (Zd (Yo ds))]):=by
 refine ZC 8 Tryz.func149 (ar (Z0 1 (ie (aq (ar (Z0 1 (iN (Yo ds) (fun hz1=>?_) ?_)))))))
 ·have hz1:=Sv hz1
  refine ie (WC (ar (Z0 1 (ie (K7 (Ig (k:=3)) ?_)))))
  subst hz1
  exact Z9 (r2 [0] [nl] ⟨hN,rfl,rfl⟩ (Zc.hd (v:=hN)) (eq:=(rr (ls:=[]) rfl rz)))
 exact ie (WB (ak (ar (BS 3 fun g1=>Z0 1 (H6 0 g1 3 (Yo ds) none (Qq _) (by simp<;>omega) fun v1=>Z0 1 (ie (Z9 (r1 [0] ⟨v1,rfl,rfl⟩))))))))
theorem Ru (cs:List Y1) (hl_cs:cs.length<=4294967296:=by exact ob):Zi 150 [Qu cs] [] (fun r h=>∃(v:Hd),r=.h v/\h=[rK v 1 (Zd (Xn cs))]):=by
 refine ZC 8 Tryz.func150 (ar (Z0 1 (ie (aq (ar (Z0 1 (iN (Xn cs) (fun hz1=>?_) ?_)))))))
 ·have hz1:=Ss hz1
  refine ie (WC (ar (Z0 1 (ie (K7 (Ig (k:=1)) ?_)))))
  subst hz1
  exact Z9 (r2 [0] [nl] ⟨hN,rfl,rfl⟩ (Zc.hd (v:=hN)) (eq:=(rr (ls:=[]) rfl rz)))
 exact ie (WB (ak (ar (BS 1 fun g1=>Z0 1 (H6 0 g1 1 (Xn cs) none (Cw _) (by simp<;>omega) fun v1=>Z0 1 (ie (Z9 (r1 [0] ⟨v1,rfl,rfl⟩))))))))
theorem Z3e (ds:List Ze) (hd:W4 ds):Zi 111 [Ya ds] [] (fun r h=>∃(ys:List WP) (w:Value),r=Z5y ys w/\h=[.many (TH ys),.tail w 3]/\ys.map WP.er=ds):=by
 have hdl:=hd.len
 refine ZC 46 Tryz.func111 (ar (Z0 1 (ie (ar (Z0 1 (ic [] (Rv ds) ?_))))))
 rintro _ _ ⟨v1,rfl,rfl⟩
 refine Z0 1 (ie (aq (ar (Z0 1 (Zo (MG 0 ds.length v1 3 (Zd (Yo ds)) (by rw [LK])) (Z0 1 (ie (ab 0 (K7 (tB [] [] [] (TH []) (by simp [CU,CP,En,Eo,Er,Es,Em,Q2,Q1,CT,BR,Ts,TH,Jy,CQ,CR,CS,Ep])) (ZW (fun fz gz m F h=>∃(k:Nat) (v:Hd) (ys:List WP),(k<=ds.length)/\(ys.map WP.er=ds.take k)/\(ys.length=k)/\F=sF [11] fz [(3,.h v),(10,.h v),(12,.i k)]/\h=[rK v 3 (Zd (WG ys++Yo (ds.drop k))),.many (TH ys)]/\m=ds.length-k) _ _ _ ⟨0,v1,[],ob,rfl,rfl,rfl,rfl,rfl⟩ (wk [1,0] (fw (Y0 fl)) (e:=(rr (ls:=Zd (Yo ds)) (by rfl) (rc rz)))) ?_))))))))))
 rintro m F h ⟨k,v,ys,Y5,Zl,Zw,rfl,rfl,rfl⟩
 refine ar (Z0 1 (ie (aq (ZE ((k:Int)<(ds.length:Int)) (fun Zb=>?_) (fun Zb=>?_)))))
 ·obtain ⟨x1,Z2⟩:=Zs ds k om
  have hcl:=hd.cons_at Z2
  refine MD 0 ds.length (v:=v) (Od Zw Y5) om (fun g1 c1 he1=>?_)
  subst he1
  refine ak (aq (ab 1 (ar (Z0 1 (Zo (XH g1 ds.length c1 k 3 (k:Int)) (VE (WF 0 g1 ds.length c1 3 (k*3) (Zd (WG ys++Yo (ds.drop k))) (UN x1) 122 (Jb x1) (by rw [Oe Z2];exact HN (by rw [AZ,Zw]))) (iA [.i 0,.i 0,nl] fun b1=>Z0 1 (Zz 0 b1 (UN x1) (ie (ar (Z3 4 [0] (ic [] (Ru x1.cons) ?_))))))))))))
  rintro _ _ ⟨v2,rfl,rfl⟩
  refine Zo (XH g1 ds.length c1 k 3 (k:Int)) (Z0 1 (BT 2 g1 ds.length c1 3 (k*3+2) [.h v2] (Zd (WG ys++Yo (ds.drop k))) (Zd (WG ys)++([.i x1.frm,.i x1.to_,.h v2]++Zd (Yo (ds.drop (k+1))))) (by rw [Od Zw Y5];simp;omega) (by rw [Oe Z2];exact Z80 (by rw [AZ,Zw])) (ie (ar (Z3 2 [2] (iw (Vz x1.cons) (Z0 1 (ie (ab 2 (K7 (tB [] [] [] (Ts []) (by simp [CU,CP,En,Eo,Er,Es,Em,Q2,Q1,CT,BR,Ts,TH,Jy,CQ,CR,CS,Ep])) (ZW (fun fz gz m F h=>∃(j:Nat) (u:Hd) (zs:List WO),(j<=x1.cons.length)/\(zs.map WO.er=x1.cons.take j)/\(zs.length=j)/\F=sF [3,4,10,11,12,25,26] fz [(27,.i j)]/\h=[Zk gz 4,rK u 1 (Zd (VA zs++Xn (x1.cons.drop j))),.row (.slice (some ⟨g1,0,none⟩) ds.length c1) 3 (Zd (WG ys)++([.i x1.frm,.i x1.to_,.h u]++Zd (Yo (ds.drop (k+1))))),.many (Ts zs)]/\m=x1.cons.length-j) _ _ _ ⟨0,v2,[],ob,rfl,rfl,rfl,rfl,rfl⟩ (wk [4,2,1,0] (Y0 fl) (e:=(rc (rr (ls:=Zd (Xn x1.cons)) (by rfl) (rc (rc rz)))))) ?_)))))))))))
  rintro m F h ⟨j,u,zs,Vl,Xt,Xo,rfl,rfl,rfl⟩
  refine ar (Z0 1 (ie (aq (ZE ((j:Int)<(x1.cons.length:Int)) (fun Zg=>?_) (fun Zg=>?_)))))
  ·obtain ⟨x2,Zp⟩:=Zs x1.cons j om
   have hfl:=hd.fields_at Z2 Zp
   refine MD 1 x1.cons.length (v:=u) (Oc Xo Vl) om (fun g2 c2 he2=>?_)
   subst he2
   refine ak (aq (ab 3 (ar (Z0 1 (Zo (Zh none (j:Int) 1 (Ji Zp)) (Z0 1 (iA [nl] fun b2=>Z0 1 (Zz 0 b2 (BX x2) (ie (aE 12 (Zj 10 12 [0,1] (dx 2 (XH g1 ds.length c1 k 3 (k:Int)) (Zj 8 9 [3] (VJ 4 (WF 3 g1 ds.length c1 3 (k*3+2) (Zd (WG ys)++([.i x1.frm,.i x1.to_,.h ⟨some ⟨g2,0,none⟩,x1.cons.length,c2⟩]++Zd (Yo (ds.drop (k+1))))) [.h ⟨some ⟨g2,0,none⟩,x1.cons.length,c2⟩] 120 (.ms g2 0 x1.cons.length c2) (Z81 (by rw [AZ,Zw]))) (ZL 4 7 [5,6,7] [0] (Z8 8 (dc 8 [] [2] [g1] (Cs x2.fields) ?_)))))))))))))))))
   rintro _ _ ⟨v3,rfl,rfl⟩
   exact dx 9 (XH g2 x1.cons.length c2 j 1 (j:Int)) (Zj 1 2 [10] (Z8 11 (A5 11 3 [] [] g2 x1.cons.length c2 1 (j*1) [ZU x2.fields v3] (Zd (VA zs++Xn (x1.cons.drop j))) (Zd (VA zs)++([ZU x2.fields v3]++Zd (Xn (x1.cons.drop (j+1))))) (by rw [Oc Xo Vl];simp;omega) (by rw [Z7x Zp];exact Dn (by rw [LL,Xo,K5]) rfl) (DZ (tB [5,1] [.many (Ts zs),.tail v3 1] (Ts zs++((v3,1)::[])) (Ts (zs++[WO.mk x2.fields v3])) (by simp [CU,CP,En,Eo,Er,Es,Em,Q2,Q1,CT,BR,Ts,TH,Jy,CQ,CR,CS,Ep])) (de (az (ZD j (Z0 1 (ie (ZG ⟨j+1,⟨some ⟨g2,0,none⟩,x1.cons.length,c2⟩,(zs++[WO.mk x2.fields v3]),ob,(by rw [List.map_append,Xt,Wu Zp];rfl),(by simp [Xo]),rfl,rfl,rfl⟩ (wk [3,1,2,0] (ZJ j fl) (e:=(rc (rr (ls:=(Zd (VA zs)++([ZU x2.fields v3]++Zd (Xn (x1.cons.drop (j+1)))))) Z7w (rr (ls:=(Zd (WG ys)++([.i x1.frm,.i x1.to_,.h ⟨some ⟨g2,0,none⟩,x1.cons.length,c2⟩]++Zd (Yo (ds.drop (k+1)))))) ob (rc rz))))))))))))))))
  refine K7 (Cd 1 u.v 1 (Zd (VA zs++Xn (x1.cons.drop j))) (Zd (VA zs)) (Z7v om)) (K7 (Zb9 0 1 (k*3+2) u.v (.slice (some ⟨g1,0,none⟩) ds.length c1) 1 3 (VA zs) (Zd (WG ys)++([.i x1.frm,.i x1.to_,.h u]++Zd (Yo (ds.drop (k+1))))) (Lm _) (by rw [DD (by rw [AZ];omega),AZ,Zw];simp)) ?_)
  exact K7 (Cd 0 (.slice (some ⟨g1,0,none⟩) ds.length c1) 3 (List.set ((Zd (WG ys)++([.i x1.frm,.i x1.to_,.h u]++Zd (Yo (ds.drop (k+1))))):List AV) (k*3+2) (Da zs u.v)) (Zd (WG ys)++([.i x1.frm,.i x1.to_,Da zs u.v]++Zd (Yo (ds.drop (k+1))))) (Z82 (by rw [AZ,Zw]))) (K7 (tB [2,2,1] [.many (TH ys),.many (Ts zs),.tail u.v 1] (TH ys++(Ts zs++((u.v,1)::[]))) (TH (ys++[WP.mk x1.frm x1.to_ zs u.v])) (by simp [CU,CP,En,Eo,Er,Es,Em,Q2,Q1,CT,BR,Ts,TH,Jy,CQ,CR,CS,Ep])) (ax 2 (az (ZD k (Z0 1 (ie (ZG ⟨k+1,(⟨some ⟨g1,0,none⟩,ds.length,c1⟩:Hd),(ys++[WP.mk x1.frm x1.to_ zs u.v]),ob,(by rw [List.map_append,Zl,Wu Z2,PB (Xt.trans (WK om))]),(by simp [Zw]),rfl,rfl,rfl⟩ (wk [1,0] (fw (ZJ k fl)) (e:=(rr (ls:=(Zd (WG ys)++([.i x1.frm,.i x1.to_,Da zs u.v]++Zd (Yo (ds.drop (k+1)))))) Z7z (rc rz)))))))))))
 exact ax 0 (ar (Z0 2 (ie (K7 (Cd 0 v.v 3 (Zd (WG ys++Yo (ds.drop k))) (Zd (WG ys)) (Z7y om)) (MF 2 0 (v:=v) (WG ys) (Ln _) (Z9 (r1 [1,0] ⟨ys,v.v,rfl,rfl,(by rw [Zl,WK om])⟩)))))))
theorem Z3f (ds:List Ze) (hd:W4 ds:=by exact ob):Zi 111 [Ya ds] [] (Y6 (Ya ds)):=((Z3e ds hd).alone fun r h ⟨ys,w,e1,_,e3⟩=>by rw [e1,<-e3];exact Zc.els _ (SV ys))
theorem Z40 (s:Z4) (ks:List Z5) (hl:s.sz<=1000000000:=by exact ob):Zi 151 [Yr s,Xa ks] [] (Y6 (.agg [.i s.op,.i s.num,.i s.into,Z6 s.args,Xa ks])):=by
 have hal:=Tl s
 refine ZC 12 Tryz.func151 (ar (iA (X7 s) fun b1=>iA [.i 0,.i 0,.i 0,nl,nl] fun b2=>ie (ar (Z3 2 [1] (ic [] (Cs s.args) ?_)))))
 rintro _ _ ⟨v1,rfl,rfl⟩
 exact Z0 2 (Zz 2 b1 [.i s.op,.i s.num,.i s.into,ZU s.args v1,Xa s.kids] (Z0 1 (Zz 0 b1 [.i s.op,.i s.num,.i s.into,ZU s.args v1,Xa ks] (ie (ar (Z3 1 [0] (Zz 2 b2 [.i s.op,.i s.num,.i s.into,ZU s.args v1,Xa ks] (ie (Z9 (r3 [] [.agg [.i s.op,.i s.num,.i s.into,ZU s.args v1,Xa ks]] [0] [(b2,b2)] ⟨rfl,rfl⟩ (Zc.agg (.cons (lr _) (.cons (lr _) (.cons (lr _) (.cons (Zc.forget _ _) (.cons (lr _) .nil))))))))))))))))
theorem Z3n (z:Nat) (s:Z4) (hz:s.sz<=z+1:=by exact ob) (hl:s.sz<=1000000000:=by exact ob) (ih:∀(b2:Z5),(b2.sz<=z)->(b2.sz<=1000000000)->Zi 78 [ZH b2] [] (Y6 (ZH (XI b2)))):Zi 112 [Yr s,.val (.func (.func 78) #[] #[])] [] (Y6 (.agg [.i s.op,.i s.num,.i s.into,Z6 s.args,Xa (WI s.kids)])):=by
 have hkz:=U4 s
 refine ZC 25 Tryz.func112 (ar (iA (X7 s) fun b1=>iA [.i 0,.i 0,.i 0,nl,nl] fun b2=>?_))
 refine ie (ar (Z0 1 (ie (aq (ar (Z3 2 [1] (iw (Va s.kids) (Z0 1 (ie (ab 0 (AL 2 (ZW (fun fz gz m F h=>∃(k:Nat) (ks:List Z5) (u:Value),(k<=s.kids.length)/\(ks.length=k)/\(ks++WI (s.kids.drop k)=WI s.kids)/\F=sF [1,2,4,9,10] fz [(5,Uf ks u),(11,.i k)]/\h=[Zk gz 1,Zk gz 2,.tail u 2]/\m=s.kids.length-k) _ _ _ ⟨0,[],(.slice none 0 0),ob,ob,ob,rfl,rfl,rfl⟩ (wk [1,1,0] (fc (x:=nl) (Zc.slh _ (by first|rfl|(subst_vars;rfl))) (Y0 fl))) ?_))))))))))))
 rintro m F h ⟨k,ks,u,Y5,Zl,Zw,rfl,rfl,rfl⟩
 refine ar (Z0 1 (ie (aq (ZE ((k:Int)<(s.kids.length:Int)) (fun Zb=>?_) (fun Zb=>?_)))))
 ·refine ak (aq (ab 1 (ar ?_)))
  obtain ⟨x1,Z2⟩:=Zs s.kids k om
  have hks:=U3 Z2
  exact Zo (Zh none (k:Int) 2 (VK Z2)) (Z0 1 (iA [nl,.i 0] fun b3=>Zz 0 b3 (YS x1) (ie (az (Z3 3 [0] (Zx [] (ih x1 ob ob) (iL [ZH (XI x1)] 1 2 fun v1=>ZM 0 [(19,.sl [ZH (XI x1)] none)] (ip 4 (Yt (ks++[XI x1])) (Yt ks) [ZH (XI x1)] u none 2 (UV _) (Tb rfl) rfl (by simp<;>omega) (by simp [KG,Uc]) fun v2=>Z0 1 (ie (az (ZD k (Z0 1 (ie (ZG ⟨k+1,(ks++[XI x1]),v2,ob,(by rw [Ym,Zl];rfl),(Z7d Z2 Zw),rfl,rfl,rfl⟩ (wk [3,3,0] (fr (ZJ k fl)))))))))))))))))
 exact ax 0 (ar (Ty 2 [(23,Xa ks)] [1] (Zx [] (Z40 s ks) (Zz 0 b2 [.i s.op,.i s.num,.i s.into,Z6 s.args,Xa ks] (ie (Z9 (r3 [] [.agg [.i s.op,.i s.num,.i s.into,Z6 s.args,Xa ks]] [0] [(b2,b2)] ⟨rfl,rfl⟩ (Zc.agg (.cons (lr _) (.cons (lr _) (.cons (lr _) (.cons (lr _) (.cons (Zc.sl _ (Yc Yt (Z7c om Zw))) .nil)))))))))))))
theorem Z3p (z:Nat) (b:Z5) (hz:b.sz<=z+1:=by exact ob) (hl:b.sz<=1000000000:=by exact ob) (ih:∀(b2:Z5),(b2.sz<=z)->(b2.sz<=1000000000)->Zi 78 [ZH b2] [] (Y6 (ZH (XI b2)))):Zi 78 [ZH b] [] (Y6 (ZH (XI b))):=by
 have hbz:=WU b
 refine ZC 31 Tryz.func78 (ar (iA (YS b) fun b1=>iA [nl,.i 0] fun b2=>ie (ar (Z3 3 [1] (iA [nl,.i 0] fun b3=>?_)))))
 refine Zz 0 b3 [nl,.i b.result] (ie (aq (ar (Z3 2 [2] (iw (WQ b.steps) (Z0 1 (ie (ab 0 (AL 5 (ZW (fun fz gz m F h=>∃(k:Nat) (xs:List Z4) (v:Value),(k<=b.steps.length)/\(xs.length<=k)/\(xs++Vh (b.steps.drop k)=Vh b.steps)/\F=sF [2,3,10,11] fz [(12,.i k)]/\h=[.obj b3 [YH xs v,.i b.result],Zk gz 2,.tail v 5]/\m=b.steps.length-k) _ _ _ ⟨0,[],(.slice none 0 0),ob,ob,ob,rfl,rfl,rfl⟩ (wk [1,1,0] (Y0 fl)) ?_))))))))))
 rintro m F h ⟨k,xs,v,Y5,Zl,Zw,rfl,rfl,rfl⟩
 refine ar (Z0 1 (ie (aq (ZE ((k:Int)<(b.steps.length:Int)) (fun Zb=>?_) (fun Zb=>?_)))))
 ·refine ak (aq (ab 1 (ar ?_)))
  obtain ⟨x1,Z2⟩:=Zs b.steps k om
  have Xf:=TO Z2
  refine Zo (Zh none (k:Int) 5 (XW Z2)) (Z0 1 (iA [.i 0,.i 0,.i 0,nl,nl] fun b4=>Zz 0 b4 (X7 x1) (ie (ar (Z3 2 [0] (Zx [] (EA x1.op) (Z0 1 (ie (ac (!Yd x1.op) (p:=¬(Yd x1.op=true)) (Yv Iff.rfl) (fun Zg=>?_) (fun Zg=>?_))))))))))
  ·exact ar (Z3 1 [0] (Zx [] (Z3n z x1 (ih:=ih)) (Zz 0 b4 [.i x1.op,.i x1.num,.i x1.into,Z6 x1.args,Xa (WI x1.kids)] (ie (ar (Z0 1 (Zz 0 b4 [.i x1.op,.i x1.num,.i 0,Z6 x1.args,Xa (WI x1.kids)] (ie (az (Z3 3 [1,0] (iL [Yr (Z4.mk x1.op x1.num 0 x1.args (WI x1.kids))] 1 5 fun v1=>ZM 0 [(26,.sl [Yr (Z4.mk x1.op x1.num 0 x1.args (WI x1.kids))] none)] (ip 4 (Zu (xs++[Z4.mk x1.op x1.num 0 x1.args (WI x1.kids)])) (Zu xs) [Yr (Z4.mk x1.op x1.num 0 x1.args (WI x1.kids))] v none 5 (YW _) (Tb rfl) rfl (by simp<;>omega) (by simp [Wj,WX]) fun v2=>Z0 1 (Zz 3 b3 [YH (xs++[Z4.mk x1.op x1.num 0 x1.args (WI x1.kids)]) v2,.i b.result] (ie (az (ZD k (Z0 1 (ie (ZG ⟨k+1,(xs++[Z4.mk x1.op x1.num 0 x1.args (WI x1.kids)]),v2,ob,(by simp;omega),(Z79 Z2 Zg Zw),rfl,rfl,rfl⟩ (wk [0,3,0] (ZJ k fl)))))))))))))))))))))
  exact ak (az (ZD k (Z0 1 (ie (ZG ⟨k+1,xs,v,ob,ob,(Z7b Z2 (XT.1 Zg) Zw),rfl,rfl,rfl⟩ (wk [1,1,1] (ZJ k fl)))))))
 exact ax 0 (ar (Z3 1 [0] (Zz 1 b2 [YH xs v,.i b.result] (ie (Z9 (r3 [] [.agg [YH xs v,.i b.result]] [0] [(b2,b2)] ⟨rfl,rfl⟩ (Zc.agg (.cons (Zc.sl _ (Yc Zu (by rw [Z74];exact Z78 om Zw))) (.cons (li (by rw [Z73])) .nil)))))))))
theorem Z3q (m:Nat):∀(b2:Z5),(b2.sz<=m)->(b2.sz<=1000000000)->Zi 78 [ZH b2] [] (Y6 (ZH (XI b2))):=by
 induction m with
 | zero=>intro b h;have:=b.sz_pos;omega
 | succ m ih=>intro b h1 h2;exact Z3p m b h1 h2 ih
theorem Z3r (b:Z5) (hl:b.sz<=1000000000:=by exact ob):Zi 78 [ZH b] [] (Y6 (ZH (XI b))):=Z3q b.sz b (YT _) hl
theorem Z37 (rt:ZZ) (b:Z5) (hl:b.sz<=1000000000:=by exact ob):Zi 77 [TT rt,ZH b] [] (Y6 (ZH (XI b))):=by
 exact ZC 7 Tryz.func77 (ar (iA (T9 rt) fun b1=>iA (YS b) fun b2=>iA [nl,.i 0] fun b3=>ie (ar (Z3 1 [1] (Zx [] (Z3r b) (Zz 0 b3 (YS (XI b)) (ie (Z9 (r3 [] [ZH (XI b)] [0] [(b3,b3)] ⟨rfl,rfl⟩ (lr _))))))))))
theorem Z3m (n:Zt) (hn:YZ n:=by exact ob) (hz:Um n:=by exact ob):Zi 76 [Y8 n,.val (.func (.func 77) #[] #[])] [] (Y6 (Y8 (Ao n))):=by
 have hzl:=hz.len
 refine ZC 40 Tryz.func76 (ar (iA (Yz n) fun b1=>iA [nl,nl] fun b2=>ie (ar (Z3 2 [1] (Zx [] (Z3f n.decls (hd:=hn.decls)) (Z0 1 (iA [nl,nl] fun b3=>?_)))))))
 refine Zz 0 b3 [Ya n.decls,nl] (ie (aq (ar (Z3 2 [2] (iw (Vo n.routines) (Z0 1 (ie (ab 0 (AL 5 (ZW (fun fz gz m F h=>∃(k:Nat) (xs:List ZZ) (v:Value),(k<=n.routines.length)/\(xs=(n.routines.take k).map Ki)/\(xs.length=k)/\F=sF [1,4,5,13,14] fz [(15,.i k)]/\h=[.obj b3 [Ya n.decls,XZ xs v],Zk gz 2,.tail v 5]/\m=n.routines.length-k) _ _ _ ⟨0,[],(.slice none 0 0),ob,rfl,ob,rfl,rfl,rfl⟩ (wk [1,1,0] (Y0 fl)) ?_))))))))))
 rintro m F h ⟨k,xs,v,Y5,Zl,Zw,rfl,rfl,rfl⟩
 refine ar (Z0 1 (ie (aq (ZE ((k:Int)<(n.routines.length:Int)) (fun Zb=>?_) (fun Zb=>?_)))))
 ·refine ak (aq (ab 1 (ar ?_)))
  obtain ⟨x1,Z2⟩:=Zs n.routines k om
  have hrm:=ZY Z2
  have hbz:=hz.body _ hrm
  have hpl:=hz.params _ hrm
  have hll:=hz.lent _ hrm
  refine Zo (Zh none (k:Int) 5 (Wi Z2)) (Z0 1 (iA [nl,nl,.i 0,nl,.i 0] fun b4=>Zz 0 b4 (T9 x1) (ie (aE 20 (ZL 8 20 [0,1,2,3,5,6,8,9,10,11,12,13] [1,0,0,0,0,0] (Z8 4 (dc 4 [] [0,0,0,0,1] [b4,b4,b4,b4,b3] (Cs x1.params) ?_)))))))
  rintro _ _ ⟨v1,rfl,rfl⟩
  refine Z8 7 (dc 7 [] [0,0,0,1] [b4,b4,b4,b3] (Cs x1.lent) ?_)
  rintro _ _ ⟨v2,rfl,rfl⟩
  exact Z8 14 (Yg 14 [] [0,1] [b4,b3] (Z37 x1 x1.body) (Yl 4 5 [15] [(34,.agg [Z6 x1.params,Z6 x1.lent,.i x1.result,Wt ((XI x1.body).steps),.i ((XI x1.body).result)])] (Z8 16 (dL 16 [1] [b3] (Yw [ZZ.mk x1.params x1.lent x1.result (Z5.mk ((XI x1.body).steps) ((XI x1.body).result))]) 1 5 fun v3=>Yl 3 3 [] [(35,Q6 [ZZ.mk x1.params x1.lent x1.result (Z5.mk ((XI x1.body).steps) ((XI x1.body).result))])] (Z8 17 (dp 17 6 [] [] (Yw (xs++[ZZ.mk x1.params x1.lent x1.result (Z5.mk ((XI x1.body).steps) ((XI x1.body).result))])) (Yw xs) (Yw [ZZ.mk x1.params x1.lent x1.result (Z5.mk ((XI x1.body).steps) ((XI x1.body).result))]) v none 5 (VR _) (VR _) (Jk _) (by simp<;>omega) (by simp [A8,Yw]) fun v4=>Zj 1 2 [18] (Z8 19 (YC 19 5 [] [] b3 [Ya n.decls,XZ (xs++[ZZ.mk x1.params x1.lent x1.result (Z5.mk ((XI x1.body).steps) ((XI x1.body).result))]) v4] (de (az (ZD k (Z0 1 (ie (ZG ⟨k+1,(xs++[ZZ.mk x1.params x1.lent x1.result (Z5.mk ((XI x1.body).steps) ((XI x1.body).result))]),v4,ob,(by rw [show Z5.mk (XI x1.body).steps (XI x1.body).result=XI x1.body by cases XI x1.body;rfl,Zl,Wu Z2,List.map_append];rfl),(by rw [Ym,Zw];rfl),rfl,rfl,rfl⟩ (wk [0,5,0] (ZJ k fl))))))))))))))))
 exact ax 0 (ar (Z3 1 [0] (Zz 1 b2 [Ya n.decls,XZ xs v] (ie (Z9 (r3 [] [.agg [Ya n.decls,XZ xs v]] [0] [(b2,b2)] ⟨rfl,rfl⟩ (Zc.agg (.cons (Zc.sl _ (Yc Yo (by rfl))) (.cons (Zc.sl _ (Yc Yw (by rw [Zl,WK om];rfl))) .nil)))))))))
theorem Z36 (n:Zt) (hz:Um n:=by exact ob) (hr:∀r∈n.routines,r.body.rng):Zi 39 [Y8 n] [] (Y6 (.tup [Y8 (KY n),.b (Wg n)])):=by
 refine ZC 10 Tryz.func39 (ar (iA (Yz n) fun b1=>iA [nl,nl] fun b2=>Z0 1 (ie (aq (ar (Z3 1 [1] (Zx [] (Mt n (hr:=hr)) (Z0 1 (ie (ac (!Wg n) (p:=¬(Wg n=true)) (Yv Iff.rfl) (fun Zb=>?_) (fun Zb=>?_)))))))))))
 ·exact ar (Z0 1 (Zz 0 b2 [nl,nl] (Z0 1 (ie (Z9 (r3 [] [.agg [nl,nl],.b false] [0] [(b2,b2)] ⟨rfl,rfl⟩ (Zc.tup (.cons (Zc.agg (.cons (Zc.sl _ (by rw [F4 Zb];rfl)) (.cons (Zc.sl _ (by rw [F4 Zb];rfl)) .nil))) (.cons (lb (UR.2 Zb).symm) .nil)))))))))
 have hV:Wg n=true:=XT.1 Zb
 obtain ⟨hn,hvt⟩:=Pr hz hV
 exact ak (ar (Z3 1 [1] (Zx [] (Z3m n) (Zz 0 b2 (Yz (Ao n)) (Z0 1 (ie (Z9 (r3 [] [Y8 (Ao n),.b true] [0] [(b2,b2)] ⟨rfl,rfl⟩ (Zc.tup (.cons (Zc.agg (.cons (Zc.sl _ (Yc Yo (by rw [Dj (XT.1 Zb)]))) (.cons (Zc.sl _ (Yc Yw (by rw [Dj (XT.1 Zb)]))) .nil))) (.cons (lb (XT.1 Zb).symm) .nil)))))))))))
theorem Z4w (ds:List Ze) (es:List Ze) (hd:Qj ds:=by exact ob) (he:Qj es:=by exact ob):Zi 80 [Ya ds,Ya es] [] (Y6 (.b (decide (ds=es)))):=by
 have hdl:=hd.len
 have hel:=he.len
 refine ZC 87 Tryz.func80 (ar (Z0 1 (ie (aq (ar (Z0 1 (iw (Vn ds) (Z0 1 (iw (Vn es) (Z0 1 (ie (ac ((ds.length:Int) != (es.length:Int)) Ye (fun Zb=>?_) (fun Zb=>?_)))))))))))))
 ·exact ar (Z0 1 (ie (Z9 (ZP (.b false) (lb (decide_eq_false (fun z=>Zb (by rw [z]))).symm)))))
 refine ak (aq (ar (Z0 1 (ie (ab 0 (ZW (fun fz gz m F h=>∃(k:Nat),(k<=ds.length)/\(∀i,i<k->ds[i]? = es[i]?)/\F=sF [0,1] fz [(5,.i k)]/\h=gz/\m=ds.length-k) _ _ _ ⟨0,ob,Dy,rfl,rfl,rfl⟩ (wk [] (Y0 fl)) ?_))))))
 rintro m F h ⟨k,Y5,Zl,rfl,rfl,rfl⟩
 refine aq (ar (Z0 2 (iw (Vn ds) (Z0 1 (ie (ZE ((k:Int)<(ds.length:Int)) (fun Zg=>?_) (fun Zg=>?_)))))))
 ·refine ak (aq (ab 1 (aq (aD 39 (Zj 37 39 [0,1] ?_)))))
  obtain ⟨x1,Z2⟩:=Zs ds k om
  have hcl:=hd.cons_at Z2
  refine dx 2 (Zh none (k:Int) 3 (Wd Z2)) (Zj 32 36 [3,4,5,6] ?_)
  obtain ⟨x2,Zp⟩:=Zs es k om
  refine dx 7 (Zh none (k:Int) 3 (Wd Zp)) (Jf [0,1,5] [(56,.b ((x1.frm != x2.frm)||((x1.to_ != x2.to_)||((x1.cons.length:Int) != (x2.cons.length:Int)))))] (fun gz=>gz) ?_ ?_)
  ·refine Zj 27 31 [8,9,10,11] (db (b:=(x1.frm != x2.frm)) 29 (fun Zf=>?_) (fun Zf=>?_))
   ·exact Zj 0 27 [12,13,14,15,16,17,18,19,20,21,22,23,24,25,26,27,28,29,30,31,32,33,34,35,36,37,38] (de (wk [] (Zq true Zf fl)))
   refine Zj 25 27 [12,13] (dx 14 (Zh none (k:Int) 3 (Wd Z2)) (Zj 20 24 [15,16,17,18] (dx 19 (Zh none (k:Int) 3 (Wd Zp)) (Zj 14 19 [20,21,22,23,24] (db (b:=(x1.to_ != x2.to_)) 42 (fun ZF=>?_) (fun ZF=>?_))))))
   ·exact Zj 0 14 [25,26,27,28,29,30,31,32,33,34,35,36,37,38] (de (wk [] (Zq true (And.intro Zf ZF) fl)))
   exact Zj 12 14 [25,26] (dx 27 (Zh none (k:Int) 3 (Wd Z2)) (Zj 9 11 [28,29] (dw 30 (Vz x1.cons) (Zj 6 8 [31,32] (dx 33 (Zh none (k:Int) 3 (Wd Zp)) (Zj 3 5 [34,35] (dw 36 (Vz x2.cons) (Zj 0 2 [37,38] (de (wk [] (Zq ((x1.cons.length:Int) != (x2.cons.length:Int)) (And.intro Zf ZF) fl)))))))))))
  refine ac ((x1.frm != x2.frm)||((x1.to_ != x2.to_)||((x1.cons.length:Int) != (x2.cons.length:Int)))) (p:=(x1.frm≠x2.frm)∨((x1.to_≠x2.to_)∨((x1.cons.length:Int)≠(x2.cons.length:Int)))) (Yn Ye (Yn Ye Ye)) (fun Zy=>?_) (fun Zy=>?_)
  ·exact ar (Z0 1 (ie (Z9 (ZP (.b false) (lb (decide_eq_false (Bv Z2 Zp (fun z=>by rw [z] at Zy;simp at Zy))).symm)))))
  simp only [not_or,ne_eq,XT,decide_eq_true_eq] at Zy
  obtain ⟨hq1,hq2,hq3⟩:=Zy
  refine ak (ar (Z0 1 (ie (ab 2 (ZW (fun fz gz m F h=>∃(j:Nat),(j<=x1.cons.length)/\(∀i,i<j->x1.cons[i]? = x2.cons[i]?)/\F=sF [0,1,5] fz [(6,.i j)]/\h=gz/\m=x1.cons.length-j) _ _ _ ⟨0,ob,Dy,rfl,rfl,rfl⟩ (wk [] (Y0 fl)) ?_)))))
  rintro m F h ⟨j,Vl,Xt,rfl,rfl,rfl⟩
  refine aq (ar (Z0 3 (Zo (Zh none (k:Int) 3 (Wd Z2)) (Z0 2 (iw (Vz x1.cons) (Z0 1 (ie (ZE ((j:Int)<(x1.cons.length:Int)) (fun Y9=>?_) (fun Y9=>?_)))))))))
  ·refine ak (aq (ab 3 (aD 20 (Zj 18 20 [0,1] (dx 2 (Zh none (k:Int) 3 (Wd Z2)) (Zj 14 17 [3,4,5] ?_))))))
   obtain ⟨x3,YG⟩:=Zs x1.cons j om
   refine dx 6 (Zh none (j:Int) 1 (Ji YG)) (Zj 9 13 [7,8,9,10] (dx 11 (Zh none (k:Int) 3 (Wd Zp)) (Zj 5 8 [12,13,14] ?_)))
   obtain ⟨x4,Vs⟩:=Zs x2.cons j om
   refine dx 15 (Zh none (j:Int) 1 (Ji Vs)) (Zj 2 4 [16,17] (Z8 18 (Yg 18 [] [] [] (EK x3.fields x4.fields (hxl:=(WL (hd.fields_at Z2 YG) (by decide))) (hyl:=(WL (he.fields_at Zp Vs) (by decide)))) (Zj 0 1 [19] (de (ac (!(decide (x3.fields=x4.fields))) (p:=¬(x3.fields=x4.fields)) (Yv dq) (fun X0=>?_) (fun X0=>?_)))))))
   ·exact ar (Z0 1 (ie (Z9 (ZP (.b false) (lb (decide_eq_false (Bv Z2 Zp (fun z=>Bv YG Vs (fun w=>X0 (Yc Y1.fields w)) (Yc Ze.cons z)))).symm)))))
   exact ak (az (Z0 1 (ZD j (Z0 1 (ie (ZG ⟨j+1,ob,(Dz Xt YG Vs (Y1.ext1 (XT.1 X0))),rfl,rfl,rfl⟩ (wk [] (ZJ j fl))))))))
  have hE:=Cz (xs:=x1.cons) (ys:=x2.cons) om (fun i hi=>Xt i om)
  exact ax 2 (az (Z0 1 (ZD k (Z0 1 (ie (ZG ⟨k+1,ob,(Dz Zl Z2 Zp (Ze.ext3 hq1 hq2 hE)),rfl,rfl,rfl⟩ (wk [] (ZJ k fl))))))))
 exact ax 0 (ar (Z0 1 (ie (Z9 (ZP (.b true) (lb (decide_eq_true (Cz om (fun i hi=>Zl i om))).symm))))))
theorem Z4y (z:Nat) (s:Z4) (t:Z4) (hz:s.sz<=z+1:=by exact ob) (hs:s.sz<=1000000000:=by exact ob) (ht:t.sz<=1000000000:=by exact ob) (ih:∀(a2:Z5) (b2:Z5),(a2.sz<=z)->(a2.sz<=1000000000)->(b2.sz<=1000000000)->Zi 81 [ZH a2,ZH b2] [] (Y6 (.b (decide (a2=b2))))):Zi 116 [Yr s,Yr t] [] (Y6 (.b (decide (s=t)))):=by
 have hsa:=Tl s
 have hta:=Tl t
 have hsk:=U4 s
 have htk:=U4 t
 refine ZC 61 Tryz.func116 (ar (iA (X7 s) fun b1=>iA (X7 t) fun b2=>Z0 1 (ie (aq (ar (Xv 12 [2,3] [(17,.b ((s.op != t.op)||(s.num != t.num)))] (fun gz=>gz) ?_ (fun hj1=>?_)))))))
 ·refine Xv 19 [2,3] [(24,.b (((s.op != t.op)||(s.num != t.num))||(s.into != t.into)))] (fun gz=>gz) ?_ (fun hj2=>?_)
  ·refine Xv 27 [2,3] [(32,.b ((((s.op != t.op)||(s.num != t.num))||(s.into != t.into))||(!(decide (s.args=t.args)))))] (fun gz=>gz) ?_ (fun hj3=>?_)
   ·refine X5 [2,3] [(41,.b (((((s.op != t.op)||(s.num != t.num))||(s.into != t.into))||(!(decide (s.args=t.args))))||((s.kids.length:Int) != (t.kids.length:Int))))] (fun gz=>gz) ?_ ?_
    ·refine Z0 1 (ib (b:=((((s.op != t.op)||(s.num != t.num))||(s.into != t.into))||(!(decide (s.args=t.args))))) 33 (fun Zf=>?_) (fun Zf=>?_))
     ·exact Z0 8 (ie (wk [0,0] (Zq true Zf fl)))
     exact Z3 2 [1] (iw (Va s.kids) (Z3 2 [0] (iw (Va t.kids) (Z0 2 (ie (wk [0,0] (Zq ((s.kids.length:Int) != (t.kids.length:Int)) Zf fl)))))))
    refine ac (((((s.op != t.op)||(s.num != t.num))||(s.into != t.into))||(!(decide (s.args=t.args))))||((s.kids.length:Int) != (t.kids.length:Int))) (p:=((((s.op≠t.op)∨(s.num≠t.num))∨(s.into≠t.into))∨(¬(s.args=t.args)))∨((s.kids.length:Int)≠(t.kids.length:Int))) (Yn (Yn (Yn (Yn Ye Ye) Ye) (Yv dq)) Ye) (fun Zb=>?_) (fun Zb=>?_)
    ·exact ar (Z0 1 (ie (Z9 (ZP (.b false) (lb (decide_eq_false (fun z=>by rw [z] at Zb;simp at Zb)).symm)))))
    simp only [not_or,ne_eq,XT,decide_eq_true_eq] at Zb
    obtain ⟨⟨⟨⟨hq1,hq2⟩,hq3⟩,hq4⟩,hq5⟩:=Zb
    refine ak (aq (ar (Z0 1 (ie (ab 0 (ZW (fun fz gz m F h=>∃(k:Nat),(k<=s.kids.length)/\(∀i,i<k->s.kids[i]? = t.kids[i]?)/\F=sF [2,3] fz [(5,.i k)]/\h=gz/\m=s.kids.length-k) _ _ _ ⟨0,ob,Dy,rfl,rfl,rfl⟩ (wk [0,0] (Y0 fl)) ?_))))))
    rintro m F h ⟨k,Y5,Zl,rfl,rfl,rfl⟩
    refine aq (ar (Z3 3 [1] (iw (Va s.kids) (Z0 1 (ie (ZE ((k:Int)<(s.kids.length:Int)) (fun Zg=>?_) (fun Zg=>?_)))))))
    ·refine ak (aq (ab 1 (aD 12 (ZL 9 12 [0,1,2] [1] ?_))))
     obtain ⟨x1,Z2⟩:=Zs s.kids k om
     have hk1:=U3 Z2
     refine dx 3 (Zh none (k:Int) 2 (VK Z2)) (ZL 4 8 [4,5,6,7] [0] ?_)
     obtain ⟨x2,Zp⟩:=Zs t.kids k om
     have hk2:=U3 Zp
     refine dx 8 (Zh none (k:Int) 2 (VK Zp)) (Zj 2 3 [9] (Z8 10 (Yg 10 [] [] [] (ih x1 x2 ob ob ob) (Zj 0 1 [11] (de (ac (!(decide (x1=x2))) (p:=¬(x1=x2)) (Yv dq) (fun Zy=>?_) (fun Zy=>?_)))))))
     ·exact ar (Z0 1 (ie (Z9 (ZP (.b false) (lb (decide_eq_false (fun z=>Bv Z2 Zp Zy (Yc Z4.kids z))).symm)))))
     exact ak (az (Z0 1 (ZD k (Z0 1 (ie (ZG ⟨k+1,ob,(Dz Zl Z2 Zp (XT.1 Zy)),rfl,rfl,rfl⟩ (wk [0,0] (ZJ k fl))))))))
    exact ax 0 (ar (Z0 1 (ie (Z9 (ZP (.b true) (lb (decide_eq_true (Z4.ext4 hq1 hq2 hq3 hq4 (Cz om (fun i hi=>Zl i om)))).symm))))))
   refine Z0 1 (ib (b:=(((s.op != t.op)||(s.num != t.num))||(s.into != t.into))) 25 (fun ZF=>?_) (fun ZF=>?_))
   ·exact Z0 7 (Yp (wk [0,0] (Zq true ZF fl)) hj3)
   exact Z3 4 [1,0] (Zx [] (EK s.args t.args) (Z0 2 (Yp (wk [0,0] (Zq (!(decide (s.args=t.args))) ZF fl)) hj3)))
  refine Z0 1 (ib (b:=((s.op != t.op)||(s.num != t.num))) 18 (fun Yx=>?_) (fun Yx=>?_))
  ·exact Z0 6 (Yp (wk [0,0] (Zq true Yx fl)) hj2)
  exact Z3 6 [1,0] (Yp (wk [0,0] (Zq (s.into != t.into) Yx fl)) hj2)
 refine Z3 6 [1,0] (ib (b:=(s.op != t.op)) 11 (fun YX=>?_) (fun YX=>?_))
 ·exact Z0 6 (Yp (wk [0,0] (Zq true YX fl)) hj1)
 exact Z3 6 [1,0] (Yp (wk [0,0] (Zq (s.num != t.num) YX fl)) hj1)
theorem Z4u (z:Nat) (a:Z5) (b:Z5) (hz:a.sz<=z+1:=by exact ob) (ha:a.sz<=1000000000:=by exact ob) (hb:b.sz<=1000000000:=by exact ob) (ih:∀(a2:Z5) (b2:Z5),(a2.sz<=z)->(a2.sz<=1000000000)->(b2.sz<=1000000000)->Zi 81 [ZH a2,ZH b2] [] (Y6 (.b (decide (a2=b2))))):Zi 81 [ZH a,ZH b] [] (Y6 (.b (decide (a=b)))):=by
 have hsa:=WU a
 have hsb:=WU b
 refine ZC 39 Tryz.func81 (ar (iA (YS a) fun b1=>iA (YS b) fun b2=>Z0 1 (ie (aq (ar (X5 [2,3] [(19,.b ((a.result != b.result)||((a.steps.length:Int) != (b.steps.length:Int))))] (fun gz=>gz) ?_ ?_))))))
 ·refine Z3 6 [1,0] (ib (b:=(a.result != b.result)) 11 (fun Zf=>?_) (fun Zf=>?_))
  ·exact Z0 8 (ie (wk [0,0] (Zq true Zf fl)))
  exact Z3 2 [1] (iw (WQ a.steps) (Z3 2 [0] (iw (WQ b.steps) (Z0 2 (ie (wk [0,0] (Zq ((a.steps.length:Int) != (b.steps.length:Int)) Zf fl)))))))
 refine ac ((a.result != b.result)||((a.steps.length:Int) != (b.steps.length:Int))) (p:=(a.result≠b.result)∨((a.steps.length:Int)≠(b.steps.length:Int))) (Yn Ye Ye) (fun Zb=>?_) (fun Zb=>?_)
 ·exact ar (Z0 1 (ie (Z9 (ZP (.b false) (lb (decide_eq_false (fun z=>by rw [z] at Zb;simp at Zb)).symm)))))
 simp only [not_or,ne_eq,XT,decide_eq_true_eq] at Zb
 obtain ⟨hq1,hq2⟩:=Zb
 refine ak (aq (ar (Z0 1 (ie (ab 0 (ZW (fun fz gz m F h=>∃(k:Nat),(k<=a.steps.length)/\(∀i,i<k->a.steps[i]? = b.steps[i]?)/\F=sF [2,3] fz [(5,.i k)]/\h=gz/\m=a.steps.length-k) _ _ _ ⟨0,ob,Dy,rfl,rfl,rfl⟩ (wk [0,0] (Y0 fl)) ?_))))))
 rintro m F h ⟨k,Y5,Zl,rfl,rfl,rfl⟩
 refine aq (ar (Z3 3 [1] (iw (WQ a.steps) (Z0 1 (ie (ZE ((k:Int)<(a.steps.length:Int)) (fun Zg=>?_) (fun Zg=>?_)))))))
 ·refine ak (aq (ab 1 (aD 12 (ZL 9 12 [0,1,2] [1] ?_))))
  obtain ⟨x1,Z2⟩:=Zs a.steps k om
  have hk1:=TO Z2
  refine dx 3 (Zh none (k:Int) 5 (XW Z2)) (ZL 4 8 [4,5,6,7] [0] ?_)
  obtain ⟨x2,Zp⟩:=Zs b.steps k om
  have hk2:=TO Zp
  refine dx 8 (Zh none (k:Int) 5 (XW Zp)) (Zj 2 3 [9] (Z8 10 (Yg 10 [] [] [] (Z4y z x1 x2 (ih:=ih)) (Zj 0 1 [11] (de (ac (!(decide (x1=x2))) (p:=¬(x1=x2)) (Yv dq) (fun Zy=>?_) (fun Zy=>?_)))))))
  ·exact ar (Z0 1 (ie (Z9 (ZP (.b false) (lb (decide_eq_false (fun z=>Bv Z2 Zp Zy (Yc Z5.steps z))).symm)))))
  exact ak (az (Z0 1 (ZD k (Z0 1 (ie (ZG ⟨k+1,ob,(Dz Zl Z2 Zp (XT.1 Zy)),rfl,rfl,rfl⟩ (wk [0,0] (ZJ k fl))))))))
 exact ax 0 (ar (Z0 1 (ie (Z9 (ZP (.b true) (lb (decide_eq_true (Z5.ext2 (Cz om (fun i hi=>Zl i om)) hq1)).symm))))))
theorem Z4v (m:Nat):∀(a2:Z5) (b2:Z5),(a2.sz<=m)->(a2.sz<=1000000000)->(b2.sz<=1000000000)->Zi 81 [ZH a2,ZH b2] [] (Y6 (.b (decide (a2=b2)))):=by
 induction m with
 | zero=>intro a b h;have:=a.sz_pos;omega
 | succ m ih=>intro a b h1 h2 h3;exact Z4u m a b h1 h2 h3 ih
theorem Z4t (a:Z5) (b:Z5) (ha:a.sz<=1000000000:=by exact ob) (hb:b.sz<=1000000000:=by exact ob):Zi 81 [ZH a,ZH b] [] (Y6 (.b (decide (a=b)))):=Z4v a.sz a b (YT _) ha hb
theorem Z4x (n:Zt) (t:Zt) (hn:Um n:=by exact ob) (ht:Um t:=by exact ob):Zi 41 [Y8 n,Y8 t] [] (Y6 (.b (decide (n=t)))):=by
 have hnl:=hn.len
 have htl:=ht.len
 refine ZC 69 Tryz.func41 (ar (iA (Yz n) fun b1=>iA (Yz t) fun b2=>Z0 1 (ie (aq (ar (Z3 4 [1,0] (Zx [] (Z4w n.decls t.decls (hd:=hn.decls) (he:=ht.decls)) (X5 [2,3] [(22,.b ((!(decide (n.decls=t.decls)))||((n.routines.length:Int) != (t.routines.length:Int))))] (fun gz=>gz) ?_ ?_))))))))
 ·refine Z0 2 (ib (b:=(!(decide (n.decls=t.decls)))) 14 (fun Zf=>?_) (fun Zf=>?_))
  ·exact Z0 8 (ie (wk [0,0] (Zq true Zf fl)))
  exact Z3 2 [1] (iw (Vo n.routines) (Z3 2 [0] (iw (Vo t.routines) (Z0 2 (ie (wk [0,0] (Zq ((n.routines.length:Int) != (t.routines.length:Int)) Zf fl)))))))
 refine ac ((!(decide (n.decls=t.decls)))||((n.routines.length:Int) != (t.routines.length:Int))) (p:=(¬(n.decls=t.decls))∨((n.routines.length:Int)≠(t.routines.length:Int))) (Yn (Yv dq) Ye) (fun Zb=>?_) (fun Zb=>?_)
 ·exact ar (Z0 1 (ie (Z9 (ZP (.b false) (lb (decide_eq_false (fun z=>by rw [z] at Zb;simp at Zb)).symm)))))
 simp only [not_or,ne_eq,XT,decide_eq_true_eq] at Zb
 obtain ⟨hq1,hq2⟩:=Zb
 refine ak (aq (ar (Z0 1 (ie (ab 0 (ZW (fun fz gz m F h=>∃(k:Nat),(k<=n.routines.length)/\(∀i,i<k->n.routines[i]? = t.routines[i]?)/\F=sF [2,3] fz [(5,.i k)]/\h=gz/\m=n.routines.length-k) _ _ _ ⟨0,ob,Dy,rfl,rfl,rfl⟩ (wk [0,0] (Y0 fl)) ?_))))))
 rintro m F h ⟨k,Y5,Zl,rfl,rfl,rfl⟩
 refine aq (ar (Z3 3 [1] (iw (Vo n.routines) (Z0 1 (ie (ZE ((k:Int)<(n.routines.length:Int)) (fun Zg=>?_) (fun Zg=>?_)))))))
 ·refine ak (aq (ab 1 (ar (Z3 3 [1] ?_))))
  obtain ⟨x1,Z2⟩:=Zs n.routines k om
  have hm1:=ZY Z2
  have ha1:=hn.params _ hm1
  have ha2:=hn.lent _ hm1
  have ha3:=hn.body _ hm1
  refine Zo (Zh none (k:Int) 5 (Wi Z2)) (Z0 1 (iA [nl,nl,.i 0,nl,.i 0] fun b3=>Zz 0 b3 (T9 x1) (ie (ar (Z3 3 [1] ?_)))))
  obtain ⟨x2,Zp⟩:=Zs t.routines k om
  have hm2:=ZY Zp
  have ha4:=ht.params _ hm2
  have ha5:=ht.lent _ hm2
  have ha6:=ht.body _ hm2
  refine Zo (Zh none (k:Int) 5 (Wi Zp)) (Z0 1 (iA [nl,nl,.i 0,nl,.i 0] fun b4=>Zz 0 b4 (T9 x2) (ie (ar (Z3 4 [1,0] (Zx [] (EK x1.params x2.params) (Xv 14 [2,3,5,6,7] [(53,.b ((!(decide (x1.params=x2.params)))||(!(decide (x1.lent=x2.lent)))))] (fun gz=>gz) ?_ (fun hj1=>?_))))))))
  ·refine Xv 21 [2,3,5,6,7] [(60,.b (((!(decide (x1.params=x2.params)))||(!(decide (x1.lent=x2.lent))))||(x1.result != x2.result)))] (fun gz=>gz) ?_ (fun hj2=>?_)
   ·refine X5 [2,3,5] [(68,.b ((((!(decide (x1.params=x2.params)))||(!(decide (x1.lent=x2.lent))))||(x1.result != x2.result))||(!(decide (x1.body=x2.body)))))] (fun gz=>gz) ?_ ?_
    ·refine Z0 1 (ib (b:=(((!(decide (x1.params=x2.params)))||(!(decide (x1.lent=x2.lent))))||(x1.result != x2.result))) 61 (fun ZF=>?_) (fun ZF=>?_))
     ·exact Z0 7 (ie (ZK 4 (Zq true ZF fl)))
     exact Z3 4 [1,0] (Zx [] (Z4t x1.body x2.body) (Z0 2 (ie (ZK 4 (Zq (!(decide (x1.body=x2.body))) ZF fl)))))
    refine ac ((((!(decide (x1.params=x2.params)))||(!(decide (x1.lent=x2.lent))))||(x1.result != x2.result))||(!(decide (x1.body=x2.body)))) (p:=(((¬(x1.params=x2.params))∨(¬(x1.lent=x2.lent)))∨(x1.result≠x2.result))∨(¬(x1.body=x2.body))) (Yn (Yn (Yn (Yv dq) (Yv dq)) Ye) (Yv dq)) (fun Zy=>?_) (fun Zy=>?_)
    ·exact ar (Z0 1 (ie (Z9 (ZP (.b false) (lb (decide_eq_false (fun z=>Bv Z2 Zp (fun w=>by rw [w] at Zy;simp at Zy) (Yc Zt.routines z))).symm)))))
    simp only [not_or,ne_eq,XT,decide_eq_true_eq] at Zy
    obtain ⟨⟨⟨hw1,hw2⟩,hw3⟩,hw4⟩:=Zy
    exact ak (az (Z0 1 (ZD k (Z0 1 (ie (ZG ⟨k+1,ob,(Dz Zl Z2 Zp (ZZ.ext4 hw1 hw2 hw3 hw4)),rfl,rfl,rfl⟩ (wk [2,2] (ZJ k fl))))))))
   refine Z0 1 (ib (b:=((!(decide (x1.params=x2.params)))||(!(decide (x1.lent=x2.lent))))) 54 (fun Yx=>?_) (fun Yx=>?_))
   ·exact Z0 6 (Yp (ZK 4 (Zq true Yx fl)) hj2)
   exact Z3 6 [1,0] (Yp (ZK 4 (Zq (x1.result != x2.result) Yx fl)) hj2)
  refine Z0 2 (ib (b:=(!(decide (x1.params=x2.params)))) 46 (fun YX=>?_) (fun YX=>?_))
  ·exact Z0 7 (Yp (ZK 4 (Zq true YX fl)) hj1)
  exact Z3 4 [1,0] (Zx [] (EK x1.lent x2.lent) (Z0 2 (Yp (ZK 4 (Zq (!(decide (x1.lent=x2.lent))) YX fl)) hj1)))
 exact ax 0 (ar (Z0 1 (ie (Z9 (ZP (.b true) (lb (decide_eq_true (Zt.ext2 hq1 (Cz om (fun i hi=>Zl i om)))).symm))))))
theorem Z4s (code:LI) (hcb:∀z∈code,0<=z/\z<=255):Zi 12 [VF code] [] (Y6 (.b true)):=by
 refine ZC 36 Tryz.func12 (ar (Z0 1 (ie (aq (ar (Z0 1 (iw (QJ code) (Z0 1 (ie (ZE ((code.length:Int)>1048576) (fun Zb=>?_) (fun Zb=>?_)))))))))))
 ·exact ar (Z0 1 (ie (Z9 (Ft))))
 have hcl:code.length<=1048576:=by omega
 refine ak (ar (Z0 1 (ic [] (Z0h code (hcl:=hcl) (hcb:=hcb)) ?_)))
 rintro _ _ ⟨n21,rfl,rfl,Y2⟩
 have hzs:=Y2
 have hzn:=hzs.sz om om
 have hpz:=Z72 hzn
 have hrn:∀r∈n21.routines,r.body.rng:=fun r hr=>(hzs.rt r hr).2.2.2
 have hpr:=Z71 hrn
 refine iA [nl,nl] fun b1=>Zz 0 b1 (Yz n21) (ie (ar (Z3 1 [0] (Zx [] (Z35 n21 (hr:=hrn)) (Z0 1 (ie (aq (ar (Z3 2 [0] (Zx [] (OI n21) (Zo (Z4i (VD n21) (VD n21)) (ie (ac ((VD n21) != (VD n21)) Ye (fun Zg=>?_) (fun Zg=>?_))))))))))))))
 ·exact ar (Z3 2 [0] (Zx [] (OI n21) (Zo (MC (VD n21) (VD n21)) (Z0 1 (ie (Z9 (ZP (.b ((VD n21)==(VD n21))) (lb (by simp)))))))))
 refine ak (ar (Z3 1 [0] (Zx [] (Z36 n21 (hr:=hrn)) (Z0 3 (iA [nl,nl] fun b2=>Zz 0 b2 (Yz (KY n21)) (Z0 1 (ie (aq (ar (Z0 2 (ie (ac (!(Wg n21)) (p:=¬((Wg n21)=true)) (Yv Iff.rfl) (fun Zy=>?_) (fun Zy=>?_)))))))))))))
 ·exact ar (Z0 3 (ie (Z9 (ZP (.b (!VD n21)) (lb (by rw [Z4b Zy];rfl))))))
 exact ak (ar (Z3 3 [0,1] (Zx [] (Z4x (KY n21) n21 (hn:=hpz) (ht:=hzn)) (Zo (MC (VD n21) (decide ((KY n21)=n21))) (Z0 1 (ie (Z9 (ZP (.b ((VD n21)==(decide ((KY n21)=n21)))) (lb (by rw [Z4a (XT.1 Zy)];simp))))))))))
end Go.Abs
section
namespace Go.Proofs.YthllacimcjakdaaGreat.fnIsPlain
open Go.ChangeShapes Go.WideShapes Go.ChangeAt Go.RowKit Go.Abs
theorem own:ownKnob Tryz.prog.godebug=none:=by kernel_rfl
theorem kids:Kids Tryz.prog (·<Tryz.prog.types.size):=kids_rows kr kr
theorem Z0g:∀t e,t<Tryz.prog.types.size->Tryz.prog.underlying t=some (.slice e)->0<Tryz.prog.cellsOf e:=slices_full_of Tryz.prog kr
theorem Oq {w w':World} {G G':Y4} {h':List Res} (hx:YO w G [] w' G' h'):∀b,b<w.heap.size->w'.heap[b]? = w.heap[b]?:=
 fun b hb=>(hx.same b hb).eq fun o ⟨r,hr,_⟩=>by cases hr
theorem Rs {w w':World} {b o:Nat} (h:w'.heap[b]? = w.heap[b]?):w'.cell? ⟨b,o,none⟩=w.cell? ⟨b,o,none⟩:=by simp [World.cell?,h]
theorem Z5i {t:Nat} (h:Nat.blt t Tryz.prog.types.size=true):t<Tryz.prog.types.size:=Nat.le_of_ble_eq_true h
set_option maxRecDepth 100000 in
theorem RQ (H:Type) (enc:TypeId × Value->H) (W:World) (base:Nat) (args:Array Value) (ds gs:List (DataW H)) (before:List MemPlace) (hval:∀(j:Nat) t v,Tryz.f12.params[j]? = some t->args[j]? = some v->Value.okWide Tryz.prog W .any base t v)
  (hW:DataW.Whole enc Tryz.prog Tryz.f12.params.toList Rows.fnIsPlainSpec.vars false W args.toList ds gs before) :
  Calls Tryz.prog 12 args W fun e W'=>∃v,e=.returned v/\Rows.fnIsPlainSpec.post enc Tryz.prog Tryz.f12 false true false false W args v W':=by
 have hW':=hW
 obtain ⟨p,q,hA0,hV,rfl,hfz,hnd⟩:=hW
 have hA:DataW.TrodAll enc Tryz.prog W 0 (fun _=>true) true Tryz.f12.params.toList args.toList ds p:=hA0
 rw [Tryz.params12] at hA
 obtain ⟨v0,vs0,d0,ds0,p0,q0,hargs,rfl,rfl,h0,r0⟩:=trodAll_cons hA
 obtain ⟨rfl,rfl,rfl⟩:=trodAll_nil r0
 obtain rfl:args=#[v0]:=by cases args;simp_all
 obtain ⟨rfl,rfl⟩:=trodVars_none hV
 obtain ⟨fuel,htr⟩:=h0
 obtain ⟨qa,ql,qc,rfl⟩:=okWide_slice Tryz.underlying22 (hval 0 22 v0 kr rfl)
 obtain ⟨v1,code,hv1,hrv,hcb⟩:=Z7g htr
 have hv1:[Value.slice qa ql qc]=[v1]:=hv1
 cases hv1
 have hh:Yq W (GA W) []:=⟨(fun r hr=>by cases hr),List.Pairwise.nil,(fun r hr=>by cases hr),fun b o hg=>hg⟩
 refine (Z4s code hcb W (GA W) [.slice qa ql qc] (.cons hrv .nil) hh).mono ?_
 rintro e W' ⟨v,r,h',G',rfl,⟨rfl,rfl⟩,hv,hh',hx⟩
 have hvb:=hv.val_inv
 subst hvb
 refine ⟨_,rfl,[d0],[],p0++[]++[],[],p0++[],[],hW',?_,?_,rfl,?_,(fun h=>by cases h)⟩
 ·exact trodAll_cons_mk (shut_bool Tryz.underlying4 _) trodAll_mk0
 ·have Eu:∀b,b<W.heap.size->W'.heap[b]? = W.heap[b]?:=Oq hx
  have hlt:=hW'.lt
  have hcar:DataW.TrodAll enc Tryz.prog W' 0 (fun _=>true) true Tryz.f12.params.toList [.slice qa ql qc] [d0] (p0++[]):=by
   rw [Tryz.params12]
   refine ⟨p0,[],⟨fuel,DataW.trod_carry fuel 22 _ _ htr fun y hy=>?_⟩,rfl,rfl⟩
   have hyl:=hlt y (by simpa using hy)
   cases y with
   | cell b o=>exact Rs (Eu b hyl)
   | map b=>exact Eu b hyl
  exact DataW.TrodAll.respare kids Z0g (by rw [Tryz.params12];intro t ht;rw [List.mem_singleton.1 ht];exact Z5i kr) hcar (fun y hy=>by have:=hlt y (by simpa using hy);simpa using this)
 ·refine ⟨hx.os,hx.output,fun i hi=>?_⟩
  rw [Oq hx i hi]
  cases W.heap[i]? with
  | none=>rfl
  | some o=>cases o<;>first | rfl | exact ⟨rfl,rfl,rfl,fun _ _=>rfl⟩ | exact .inr ⟨rfl,rfl⟩
set_option maxRecDepth 100000 in
theorem Z5e (os:Os) (started:os.Started) (H:Type) (enc:TypeId × Value->H) (F:Stop.Interp) :
  ReturnsInHanded {} Tryz.checked os 12 .any ((Rows.OpenSpec.upto Rows.fnIsPlainSpec).pre6 enc Tryz.prog Tryz.f12 Rows.fnIsPlainUptoRow.domain false) (((Rows.OpenSpec.upto Rows.fnIsPlainSpec).at F).post enc Tryz.prog Tryz.f12 false true false false):=by
 refine returnsInHanded_of_cond (C:=Tryz.checked) (s:=Rows.OpenSpec.upto Rows.fnIsPlainSpec) (k:=Rows.uptoSmall) rfl own started kr Tryz.func12
  (OpenSpec.witness (enc:=enc) (C:=Tryz.checked) (s:=Rows.OpenSpec.upto Rows.fnIsPlainSpec) (k:=Rows.uptoSmall) rfl false ⟨#[],#[.slice none 0 0],[]⟩ 8 kr kr kr
   (x:=([.nil],[],[])) kr rfl kr) ?_
 intro W base args ds gs before hval hW _ hk _
 exact RQ H enc W base args ds gs before hval hW
theorem PU {a b:Bool} (ha:a=true) (hb:b=true):(a&&b)=true:=by rw [ha,hb];rfl
set_option maxHeartbeats 4000000 in
theorem Rw:joinedFacts Tryz.pinned.checked.prog 12 Tryz.f12 (Rows.OpenSpec.upto Rows.fnIsPlainSpec).bare Rows.fnIsPlainUptoRow=true:=by
 unfold joinedFacts
 iterate 31 refine PU ?_ (by as_aux_lemma=>kernel_rfl)
 as_aux_lemma=>kernel_rfl
theorem Z6m:Rows.fnIsPlainUptoRow.holds Tryz.pinned (Rows.OpenSpec.upto Rows.fnIsPlainSpec):=
 OpenClaim.holds_of_cond 12 Tryz.f12 rfl rfl rfl rfl rfl rfl rfl ⟨rfl,rfl,rfl,rfl,rfl⟩ rfl rfl rfl rfl rfl (by as_aux_lemma=>kernel_rfl) Tryz.func12 Rw
  (of_decide_eq_true kr) (by unfold Func.isWrapper;first|(rw [if_pos (by decide +kernel)];kernel_rfl)|(rw [if_neg (by decide +kernel)];exact ⟨rfl,rfl⟩))
  (fun os started H enc _ F=>Z5e os started H enc F)
theorem proved:Rows.FnIsPlainUptoSaid:=
 Z6m
#print axioms proved
end Go.Proofs.YthllacimcjakdaaGreat.fnIsPlain
end
