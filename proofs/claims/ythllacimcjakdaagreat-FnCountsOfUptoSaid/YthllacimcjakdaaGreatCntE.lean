/-
  FnCountsOfUptoSaid: the law FnCountsOf returns true at every argument of bulk at most 1048576, and the argument reads behind the call as it read before.
-/
import Derived.Test.YthllacimcjakdaaGreatCntD
import Derived.Test.YthllacimcjakdaaGreatRows
import Derived.WalkKit
import Derived.ProofKit
import Derived.OpenShut
import Derived.JoinedCond
import Derived.ReadAgain
set_option linter.all false
set_option linter.unusedVariables false
set_option linter.unusedSimpArgs false
set_option linter.unusedSectionVars false
set_option maxRecDepth 10000
set_option maxHeartbeats 4000000
namespace Go.Abs
open Go.Proofs
theorem Z16 (rd:Nat) (bs:LI) (p:Nat) (xs:LI) (Zz:∀z∈bs,0<=z/\z<=255) (hp:p+3<=1000000000:=by exact ob) (hl:xs.length<=1000000:=by exact ob):Zk 52 [.p rd 0,Z2 xs] [Yd rd bs p] (fun r h=>∃(zs:LI) (p2:Nat),r=Z2 zs/\h=[Yd rd bs p2]/\zs.length<=xs.length+1/\p<=p2/\p2<=p+3):=by
 refine ZE 32 Tryz.func52 (ar (Z0 1 (ie (ar (Z0 1 (ic [] (Js xs) ?_))))))
 rintro _ _ ⟨v1,rfl,rfl⟩
 refine Z0 1 (ie (aq (ar (Z0 1 (Zm (Jv 0 v1 xs) (Z0 2 (ib (b:=(decide ((xs.length:Int)>0))) 11 (fun Zd=>?_) (fun Zd=>?_))))))))
 ·have Y1:(xs.length:Int)>0:=(dq).1 Zd
  refine Z0 1 (ic [1] (XG rd bs p 2 (Zz:=ob)) ?_)
  rintro _ _ ⟨k1,rfl,rfl,Yi⟩
  refine Z0 2 (ie (ac (k1==0) Zp (fun Zb=>?_) (fun Zb=>?_)))
  ·refine ar (Z0 3 (Zm (Jv 1 v1 xs) (ic [0] (KH rd bs (p+1) xs.length (Zz:=ob)) ?_)))
   rintro _ _ ⟨Yr,rfl,rfl,YM⟩
   refine Z0 1 (iL (Z7 [0,1,-1,7,1000,1001]) 6 1 fun v2=>ZP 0 [(22,Z2 [0,1,-1,7,1000,1001])] (ic [1] (Vp rd bs ((p+1)+1) [0,1,-1,7,1000,1001] (Zz:=ob)) ?_))
   rintro _ _ ⟨z1,rfl,rfl,YW⟩
   exact Zm (V0 2 v1 xs (Yr:Int) Yr) (Gs 2 v1 xs Yr z1 (ie (ar (Z0 2 (ie (Dd 4 0 (v:=v1) (xs:=(xs.set Yr z1)) (Za (r2 [1] [ZJ (xs.set Yr z1) v1.v] ⟨(xs.set Yr z1),((p+1)+1)+1,rfl,rfl,⟨by simp,by omega,by omega⟩⟩ (Zc.forget _ _)))))))))
  refine ak (ar (Z0 2 (iL (Z7 [0,1,2,-1,1000]) 5 1 fun v3=>ZP 0 [(28,Z2 [0,1,2,-1,1000])] (ic [1] (Vp rd bs (p+1) [0,1,2,-1,1000] (Zz:=ob)) ?_))))
  rintro _ _ ⟨z2,rfl,rfl,X5⟩
  exact iL (Z7 [z2]) 1 1 fun v4=>ZP 0 [(30,Z2 [z2])] (KI 3 v1 xs [z2] none fun v5=>Z0 1 (ie (Dd 4 0 (v:=v5) (xs:=(xs++[z2])) (Za (r2 [2] [ZJ (xs++[z2]) v5.v] ⟨(xs++[z2]),(p+1)+1,rfl,rfl,⟨by simp,by omega,by omega⟩⟩ (Zc.forget _ _))))))
 have XQ:¬((xs.length:Int)>0):=Yg dq Zd
 refine Z0 4 (ie (WI (ak (ar (Z0 2 (iL (Z7 [0,1,2,-1,1000]) 5 1 fun v6=>ZP 0 [(28,Z2 [0,1,2,-1,1000])] (ic [2] (Vp rd bs p [0,1,2,-1,1000] (Zz:=ob)) ?_)))))))
 rintro _ _ ⟨z3,rfl,rfl,Wr⟩
 exact iL (Z7 [z3]) 1 1 fun v7=>ZP 0 [(30,Z2 [z3])] (KI 3 v1 xs [z3] none fun v8=>Z0 1 (ie (Dd 4 0 (v:=v8) (xs:=(xs++[z3])) (Za (r2 [2] [ZJ (xs++[z3]) v8.v] ⟨(xs++[z3]),p+1,rfl,rfl,⟨by simp,by omega,by omega⟩⟩ (Zc.forget _ _))))))
theorem Rm (s:Z4) (hz:s.sz<=1000000000:=by exact ob):Zk 127 [Yt s] [] (fun r h=>∃(v:Hd),r=.agg [.i s.op,.i s.num,.i s.into,.h v,Xt s.kids]/\h=[rV v s.args]):=by
 have hkz:=UJ s
 have haz:=Qe s
 refine ZE 33 Tryz.func127 (ar (iA (Y6 s) fun b1=>iA [.i 0,.i 0,.i 0,nl,nl] fun b2=>ie (ar (iL (Yu []) 0 2 fun v1=>?_))))
 refine Z0 1 (ie (aq (ar (Z0 1 (ie (ab 0 (al (fun m F h=>∃(k:Nat) (v:Value),(k<=s.kids.length)/\F=[(1,.p b1 0),(2,.p b2 0),(3,VK (s.kids.take k) v),(4,.i k)]/\h=[.obj b2 [.i 0,.i 0,.i 0,nl,nl],.obj b1 (Y6 s),.tail v 2]/\m=s.kids.length-k) _ _ _ ⟨0,v1,ob,rfl,rfl,rfl⟩ (wk [1,1,0] (fw (fc (x:=VK [] v1) (Zc.slh _ (Yj Yu rfl)) (Y2 fl)))) ?_)))))))
 rintro m F h ⟨k,v,Ya,rfl,rfl,rfl⟩
 refine aq (ar (Z5 3 [1] (iw (VI s.kids) (Z0 1 (ie (ZG ((k:Int)<(s.kids.length:Int)) (fun Zb=>?_) (fun Zb=>?_)))))))
 ·refine ak (aq (ab 1 (az (Z5 4 [1] ?_))))
  obtain ⟨x1,Z3⟩:=Zr s.kids k om
  have hks:=UH Z3
  exact Zm (Zh none (k:Int) 2 (Uc Z3)) (Z0 1 (Zw [] (EH x1) (iL [ZT x1] 1 2 fun v2=>ZP 0 [(20,.sl [ZT x1] none)] (ip 3 (Yu (s.kids.take (k+1))) (Yu (s.kids.take k)) [ZT x1] v none 2 (T0 _) (TC rfl) rfl (by simp<;>omega) (by rw [Wv Z3];simp [Un]) fun v3=>Z0 1 (ie (az (Z0 1 (ZD k (Z0 1 (ie (ZI ⟨k+1,v3,ob,rfl,rfl,rfl⟩ (wk [2,2,0] (fw (fr (ZM k fl)))))))))))))))
 refine ax 0 (aD 12 (ZF 3 12 [0,1,2,3,4,5,6,7,9] [1,1,1,1] (Z8 8 (dc 8 [] [1,1,1] [b1,b1,b1] (Js s.args) ?_))))
 rintro _ _ ⟨v4,rfl,rfl⟩
 exact Zj 1 2 [10] (Z8 11 (Yv 11 1 [] [] b2 [.i s.op,.i s.num,.i s.into,.h v4,VK (s.kids.take k) v] (de (Za (r3 [1] [.agg [.i s.op,.i s.num,.i s.into,.h v4,VK (s.kids.take k) v]] [0] [(b2,b2)] ⟨v4,rfl,rfl⟩ (Zc.agg (.cons (lr _) (.cons (lr _) (.cons (lr _) (.cons (lr _) (.cons (Zc.sl _ (Yj Yu (by rw [Va om]))) .nil)))))))))))
theorem LO (rd:Nat) (bs:LI) (p:Nat) (s:Z4) (Zz:∀z∈bs,0<=z/\z<=255) (hp:p+3<=1000000000:=by exact ob) (hz:s.sz<=100000000:=by exact ob) (hg:s.rng:=by exact ob):Zk 89 [.p rd 0,Yt s] [Yd rd bs p] (fun r h=>∃(y:Z4) (p2:Nat),r=Yt y/\h=[Yd rd bs p2]/\Vt s y/\p<=p2/\p2<=p+3):=by
 have haz:=Qe s
 have hkz:=UJ s
 refine ZE 66 Tryz.func89 (ar (iA (Y6 s) fun b1=>iA [.i 0,.i 0,.i 0,nl,nl] fun b2=>ie (ar (Z5 1 [1] (ic [] (Rm s) ?_)))))
 rintro _ _ ⟨v1,rfl,rfl⟩
 refine iA [.i 0,.i 0,.i 0,nl,nl] fun b3=>ZA 0 b3 [.i s.op,.i s.num,.i s.into,.h v1,Xt s.kids] (ie (aq (ar (Z0 1 (ic [4] (XG rd bs p 6 (Zz:=ob)) ?_)))))
 rintro _ _ ⟨k1,rfl,rfl,Y1⟩
 refine ie (ab 0 (ar (Z0 2 (ie (ac (k1==0) Zp (fun Zb=>?_) (fun Zb=>?_))))))
 ·refine az (Z0 1 (iL (Z7 [14,15,16,17,6,9,12,0,1]) 9 1 fun v2=>ZP 0 [(13,Z2 [14,15,16,17,6,9,12,0,1])] (ic [1] (Vp rd bs (p+1) [14,15,16,17,6,9,12,0,1] (Zz:=ob)) ?_)))
  rintro _ _ ⟨z1,rfl,rfl,Yi⟩
  have hon:=Yi
  exact Z0 1 (ZA 2 b3 [.i z1,.i s.num,.i s.into,.h v1,Xt s.kids] (ie (ar (Xx (KQ 3 v1 s.args) (Xx (Uy 0 0 3 v1.v 1 b3 (Z7 s.args) [.i z1,.i s.num,.i s.into,.h v1,Xt s.kids] (Yq _) rfl) (Z5 1 [0] (ZA 4 b2 [.i z1,.i s.num,.i s.into,ZJ s.args v1.v,Xt s.kids] (ie (Za (r3 [3] [.agg [.i z1,.i s.num,.i s.into,ZJ s.args v1.v,Xt s.kids]] [0] [(b2,b2)] ⟨(Z4.mk z1 s.num s.into s.args s.kids),(p+1)+1,rfl,rfl,⟨by first|exact Vt.refl hg|exact Vt.of hg (by first|exact .inl rfl|exact .inr hon) (by first|exact Nat.le_succ _|(simp<;>omega)) (by first|exact .inl rfl|exact .inr rfl),by omega,by omega⟩⟩ (Zc.agg (.cons (lr _) (.cons (lr _) (.cons (lr _) (.cons (Zc.forget _ _) (.cons (lr _) .nil))))))))))))))))
 refine ar (Z0 2 (ie (ac (k1==1) Zp (fun Zf=>?_) (fun Zf=>?_))))
 ·refine az (Z0 1 (iL (Z7 [0,1,2,3,-1,1000]) 6 1 fun v3=>ZP 0 [(19,Z2 [0,1,2,3,-1,1000])] (ic [1] (Vp rd bs (p+1) [0,1,2,3,-1,1000] (Zz:=ob)) ?_)))
  rintro _ _ ⟨z2,rfl,rfl,YM⟩
  have hon:=YM
  exact Z0 1 (ZA 2 b3 [.i s.op,.i z2,.i s.into,.h v1,Xt s.kids] (ie (ar (Xx (KQ 3 v1 s.args) (Xx (Uy 0 0 3 v1.v 1 b3 (Z7 s.args) [.i s.op,.i z2,.i s.into,.h v1,Xt s.kids] (Yq _) rfl) (Z5 1 [0] (ZA 4 b2 [.i s.op,.i z2,.i s.into,ZJ s.args v1.v,Xt s.kids] (ie (Za (r3 [3] [.agg [.i s.op,.i z2,.i s.into,ZJ s.args v1.v,Xt s.kids]] [0] [(b2,b2)] ⟨(Z4.mk s.op z2 s.into s.args s.kids),(p+1)+1,rfl,rfl,⟨by first|exact Vt.refl hg|exact Vt.of hg (by first|exact .inl rfl|exact .inr hon) (by first|exact Nat.le_succ _|(simp<;>omega)) (by first|exact .inl rfl|exact .inr rfl),by omega,by omega⟩⟩ (Zc.agg (.cons (lr _) (.cons (lr _) (.cons (lr _) (.cons (Zc.forget _ _) (.cons (lr _) .nil))))))))))))))))
 refine ar (Z0 2 (ie (ac (k1==2) Zp (fun ZB=>?_) (fun ZB=>?_))))
 ·refine az (Z0 1 (iL (Z7 [1,2,0,-1,90]) 5 1 fun v4=>ZP 0 [(25,Z2 [1,2,0,-1,90])] (ic [1] (Vp rd bs (p+1) [1,2,0,-1,90] (Zz:=ob)) ?_)))
  rintro _ _ ⟨z3,rfl,rfl,YW⟩
  have hon:=YW
  exact Z0 1 (ZA 2 b3 [.i s.op,.i s.num,.i z3,.h v1,Xt s.kids] (ie (ar (Xx (KQ 3 v1 s.args) (Xx (Uy 0 0 3 v1.v 1 b3 (Z7 s.args) [.i s.op,.i s.num,.i z3,.h v1,Xt s.kids] (Yq _) rfl) (Z5 1 [0] (ZA 4 b2 [.i s.op,.i s.num,.i z3,ZJ s.args v1.v,Xt s.kids] (ie (Za (r3 [3] [.agg [.i s.op,.i s.num,.i z3,ZJ s.args v1.v,Xt s.kids]] [0] [(b2,b2)] ⟨(Z4.mk s.op s.num z3 s.args s.kids),(p+1)+1,rfl,rfl,⟨by first|exact Vt.refl hg|exact Vt.of hg (by first|exact .inl rfl|exact .inr hon) (by first|exact Nat.le_succ _|(simp<;>omega)) (by first|exact .inl rfl|exact .inr rfl),by omega,by omega⟩⟩ (Zc.agg (.cons (lr _) (.cons (lr _) (.cons (lr _) (.cons (Zc.forget _ _) (.cons (lr _) .nil))))))))))))))))
 refine ar (Z0 2 (ie (ac (k1==3) Zp (fun Yc=>?_) (fun Yc=>?_))))
 ·refine aE 9 (ZF 6 9 [0,1,2] [1] (Z8 3 (dL 3 [1] [b3] (Z7 [0,1,-1]) 3 1 fun v5=>Yf 5 5 [] [(33,Z2 [0,1,-1])] (Z8 4 (dc 4 [1] [0] [b3] (Vp rd bs (p+1) [0,1,-1] (Zz:=ob)) ?_)))))
  rintro _ _ ⟨z4,rfl,rfl,X5⟩
  have hon:=X5
  exact Z8 5 (dL 5 [1] [b3] (Z7 [z4]) 1 1 fun v6=>Yf 3 3 [] [(35,Z2 [z4])] (Z8 6 (Rr 6 4 [] [] v1 s.args [z4] none fun v7=>Zj 1 2 [7] (Z8 8 (Yv 8 4 [] [] b3 [.i s.op,.i s.num,.i s.into,.h v7,Xt s.kids] (de (ar (Xx (KQ 1 v7 (s.args++[z4])) (Xx (Uy 0 0 3 v7.v 1 b3 (Z7 (s.args++[z4])) [.i s.op,.i s.num,.i s.into,.h v7,Xt s.kids] (Yq _) rfl) (Z5 1 [0] (ZA 5 b2 [.i s.op,.i s.num,.i s.into,ZJ (s.args++[z4]) v7.v,Xt s.kids] (ie (Za (r3 [4] [.agg [.i s.op,.i s.num,.i s.into,ZJ (s.args++[z4]) v7.v,Xt s.kids]] [0] [(b2,b2)] ⟨(Z4.mk s.op s.num s.into (s.args++[z4]) s.kids),(p+1)+1,rfl,rfl,⟨by first|exact Vt.refl hg|exact Vt.of hg (by first|exact .inl rfl|exact .inr hon) (by first|exact Nat.le_succ _|(simp<;>omega)) (by first|exact .inl rfl|exact .inr rfl),by omega,by omega⟩⟩ (Zc.agg (.cons (lr _) (.cons (lr _) (.cons (lr _) (.cons (Zc.forget _ _) (.cons (lr _) .nil))))))))))))))))))))
 refine ar (Z0 2 (ie (ac (k1==4) Zp (fun X1=>?_) (fun X1=>?_))))
 ·refine ar (Z5 2 [1] (Zm (Jv 2 v1 s.args) (Z0 1 (ie (ZG ((s.args.length:Int)>0) (fun X3=>?_) (fun X3=>?_))))))
  ·refine aE 12 (ZF 7 12 [0,1,2,3,4] [1,1] (dx 5 (Jv 2 v1 s.args) (Zj 5 6 [7] (Wz 6 8 ?_ ?_))))
   ·refine dc 6 [0] [0] [b3] (KH rd bs (p+1) s.args.length (Zz:=ob)) ?_
    rintro _ _ ⟨Yr,rfl,rfl,XQ⟩
    refine Z8 8 (dL 8 [1] [b3] (Z7 [0,1,2,3,-1,99]) 6 1 fun v8=>Yf 3 3 [] [(52,Z2 [0,1,2,3,-1,99])] (Z8 9 (dc 9 [1] [0] [b3] (Vp rd bs ((p+1)+1) [0,1,2,3,-1,99] (Zz:=ob)) ?_)))
    rintro _ _ ⟨z5,rfl,rfl,Wr⟩
    have hon:=Wr
    exact dx 10 (V0 3 v1 s.args (Yr:Int) Yr) (Z8 11 (J4 11 3 [] [] v1 s.args Yr z5 (de (ar (Xx (KQ 0 v1 (s.args.set Yr z5)) (Xx (Uy 0 2 3 v1.v 1 b3 (Z7 (s.args.set Yr z5)) [.i s.op,.i s.num,.i s.into,.h v1,Xt s.kids] (Yq _) rfl) (Z5 1 [0] (ZA 4 b2 [.i s.op,.i s.num,.i s.into,ZJ (s.args.set Yr z5) v1.v,Xt s.kids] (ie (Za (r3 [3] [.agg [.i s.op,.i s.num,.i s.into,ZJ (s.args.set Yr z5) v1.v,Xt s.kids]] [0] [(b2,b2)] ⟨(Z4.mk s.op s.num s.into (s.args.set Yr z5) s.kids),((p+1)+1)+1,rfl,rfl,⟨by first|exact Vt.refl hg|exact Vt.of hg (by first|exact .inl rfl|exact .inr hon) (by first|exact Nat.le_succ _|(simp<;>omega)) (by first|exact .inl rfl|exact .inr rfl),by omega,by omega⟩⟩ (Zc.agg (.cons (lr _) (.cons (lr _) (.cons (lr _) (.cons (Zc.forget _ _) (.cons (lr _) .nil)))))))))))))))))
   refine dL 8 [1,1] [b3,b3] (Z7 [0,1,2,3,-1,99]) 6 1 fun v9=>Z8 6 (dc 6 [1] [0] [b3] (KH rd bs (p+1) s.args.length (Zz:=ob)) ?_)
   rintro _ _ ⟨YO,rfl,rfl,V6⟩
   refine Yf 3 3 [] [(52,Z2 [0,1,2,3,-1,99])] (Z8 9 (dc 9 [0] [0] [b3] (Vp rd bs ((p+1)+1) [0,1,2,3,-1,99] (Zz:=ob)) ?_))
   rintro _ _ ⟨z6,rfl,rfl,Vk⟩
   have hon:=Vk
   exact dx 10 (V0 3 v1 s.args (YO:Int) YO) (Z8 11 (J4 11 3 [] [] v1 s.args YO z6 (de (ar (Xx (KQ 0 v1 (s.args.set YO z6)) (Xx (Uy 0 2 3 v1.v 1 b3 (Z7 (s.args.set YO z6)) [.i s.op,.i s.num,.i s.into,.h v1,Xt s.kids] (Yq _) rfl) (Z5 1 [0] (ZA 4 b2 [.i s.op,.i s.num,.i s.into,ZJ (s.args.set YO z6) v1.v,Xt s.kids] (ie (Za (r3 [3] [.agg [.i s.op,.i s.num,.i s.into,ZJ (s.args.set YO z6) v1.v,Xt s.kids]] [0] [(b2,b2)] ⟨(Z4.mk s.op s.num s.into (s.args.set YO z6) s.kids),((p+1)+1)+1,rfl,rfl,⟨by first|exact Vt.refl hg|exact Vt.of hg (by first|exact .inl rfl|exact .inr hon) (by first|exact Nat.le_succ _|(simp<;>omega)) (by first|exact .inl rfl|exact .inr rfl),by omega,by omega⟩⟩ (Zc.agg (.cons (lr _) (.cons (lr _) (.cons (lr _) (.cons (Zc.forget _ _) (.cons (lr _) .nil)))))))))))))))))
  exact ak (ar (Xx (KQ 2 v1 s.args) (Xx (Uy 0 1 3 v1.v 1 b3 (Z7 s.args) [.i s.op,.i s.num,.i s.into,.h v1,Xt s.kids] (Yq _) rfl) (Z5 1 [0] (ZA 3 b2 [.i s.op,.i s.num,.i s.into,ZJ s.args v1.v,Xt s.kids] (ie (Za (r3 [3] [.agg [.i s.op,.i s.num,.i s.into,ZJ s.args v1.v,Xt s.kids]] [0] [(b2,b2)] ⟨s,p+1,rfl,rfl,⟨by first|exact Vt.refl hg|exact Vt.of hg (by first|exact .inl rfl|exact .inr hon) (by first|exact Nat.le_succ _|(simp<;>omega)) (by first|exact .inl rfl|exact .inr rfl),by omega,by omega⟩⟩ (Zc.agg (.cons (lr _) (.cons (lr _) (.cons (lr _) (.cons (Zc.forget _ _) (.cons (lr _) .nil))))))))))))))
 refine ar (Z0 2 (ie (ac (k1==5) Zp (fun Vq=>?_) (fun Vq=>?_))))
 ·refine ar (Z5 2 [1] (iw (VI s.kids) (Z0 1 (ie (ZG ((s.kids.length:Int)>0) (fun Vj=>?_) (fun Vj=>?_))))))
  ·exact az (Z5 2 [1] (Zm (Qs (es:=Yu s.kids) (hv:=none) (l:=1) (m:=(((Yu s.kids).length:Nat):Int)) (sz:=2) (es':=Yu (s.kids.drop 1)) kr om (by simp<;>omega) (by simp<;>omega) (T0 _) (by first|(simp only [V1,WF,FH,FG];done)|(simp only [V1,WF,FH,FG];rfl)|(simp [FH,FG];done))) (Z0 1 (ZA 1 b3 [.i s.op,.i s.num,.i s.into,.h v1,Xt (s.kids.drop 1)] (ie (ar (Xx (KQ 2 v1 s.args) (Xx (Uy 0 0 3 v1.v 1 b3 (Z7 s.args) [.i s.op,.i s.num,.i s.into,.h v1,Xt (s.kids.drop 1)] (Yq _) rfl) (Z5 1 [0] (ZA 3 b2 [.i s.op,.i s.num,.i s.into,ZJ s.args v1.v,Xt (s.kids.drop 1)] (ie (Za (r3 [3] [.agg [.i s.op,.i s.num,.i s.into,ZJ s.args v1.v,Xt (s.kids.drop 1)]] [0] [(b2,b2)] ⟨(Z4.mk s.op s.num s.into s.args (s.kids.drop 1)),p+1,rfl,rfl,⟨by first|exact Vt.refl hg|exact Vt.of hg (by first|exact .inl rfl|exact .inr hon) (by first|exact Nat.le_succ _|(simp<;>omega)) (by first|exact .inl rfl|exact .inr rfl),by omega,by omega⟩⟩ (Zc.agg (.cons (lr _) (.cons (lr _) (.cons (lr _) (.cons (Zc.forget _ _) (.cons (lr _) .nil)))))))))))))))))))
  exact ak (ar (Xx (KQ 2 v1 s.args) (Xx (Uy 0 1 3 v1.v 1 b3 (Z7 s.args) [.i s.op,.i s.num,.i s.into,.h v1,Xt s.kids] (Yq _) rfl) (Z5 1 [0] (ZA 3 b2 [.i s.op,.i s.num,.i s.into,ZJ s.args v1.v,Xt s.kids] (ie (Za (r3 [3] [.agg [.i s.op,.i s.num,.i s.into,ZJ s.args v1.v,Xt s.kids]] [0] [(b2,b2)] ⟨s,p+1,rfl,rfl,⟨by first|exact Vt.refl hg|exact Vt.of hg (by first|exact .inl rfl|exact .inr hon) (by first|exact Nat.le_succ _|(simp<;>omega)) (by first|exact .inl rfl|exact .inr rfl),by omega,by omega⟩⟩ (Zc.agg (.cons (lr _) (.cons (lr _) (.cons (lr _) (.cons (Zc.forget _ _) (.cons (lr _) .nil))))))))))))))
 exact ak (ar (Xx (KQ 2 v1 s.args) (Xx (Uy 0 1 3 v1.v 1 b3 (Z7 s.args) [.i s.op,.i s.num,.i s.into,.h v1,Xt s.kids] (Yq _) rfl) (Z5 1 [0] (ZA 3 b2 [.i s.op,.i s.num,.i s.into,ZJ s.args v1.v,Xt s.kids] (ie (Za (r3 [3] [.agg [.i s.op,.i s.num,.i s.into,ZJ s.args v1.v,Xt s.kids]] [0] [(b2,b2)] ⟨s,p+1,rfl,rfl,⟨by first|exact Vt.refl hg|exact Vt.of hg (by first|exact .inl rfl|exact .inr hon) (by first|exact Nat.le_succ _|(simp<;>omega)) (by first|exact .inl rfl|exact .inr rfl),by omega,by omega⟩⟩ (Zc.agg (.cons (lr _) (.cons (lr _) (.cons (lr _) (.cons (Zc.forget _ _) (.cons (lr _) .nil))))))))))))))
theorem Z0w (rd:Nat) (bs:LI) (p:Nat) (mx:Int) (Zz:∀z∈bs,0<=z/\z<=255) (hp:p+1<=1000000000):Zk 50 [.p rd 0,.i mx] [Yd rd bs p] (fun r h=>∃(k:Int),r=.i k/\h=[.obj rd [W0 bs,.i (p+1:Nat)]]/\Pk mx k/\k=Jq bs p mx):=by
 refine ZE 99 Tryz.func50 (ar (Z0 1 (ie (ar (Z5 5 [0] (ZD p (Z0 2 (ZA 0 rd [W0 bs,.i (p+1:Nat)] (ie (aq (ar (Xa [(0,.p rd 0),(1,.i mx),(24,.b ((decide (mx<1))||((bs.length:Int)==0)))] [.obj rd [W0 bs,.i (p+1:Nat)]] ?_ ?_))))))))))))
 ·refine Z0 3 (ib (b:=(decide (mx<1))) 17 (fun Zd=>?_) (fun Zd=>?_))
  ·exact Z0 7 (ie (wk [0] (fw (Zu true Zd fl))))
  exact Z5 4 [0] (iw (QF bs) (Z0 2 (ie (wk [0] (fw (Zu ((bs.length:Int)==0) Zd fl))))))
 refine ac ((decide (mx<1))||((bs.length:Int)==0)) (p:=(mx<1)∨((bs.length:Int)=0)) (Ys dq Zp) (fun Zb=>?_) (fun Zb=>?_)
 ·exact ar (Z0 1 (ie (Za (r1 [0] ⟨0,rfl,rfl,⟨Pk.zero,by rw [Jq,Zg om]⟩⟩))))
 refine ak (ar (Z5 4 [0] (ia ((p:Int)) ((((p+1:Nat):Int))-(1)) (Z0 1 (ie (aq (ar (Z5 5 [0] (iw (QF bs) (Z0 1 (ie (ZG ((p:Int)<(bs.length:Int)) (fun Zf=>?_) (fun Zf=>?_)))))))))))))
 ·refine ar (Z5 5 [0] ?_)
  obtain ⟨x1,Z3⟩:=Zr bs p om
  have hz:=Zz _ (ZZ Z3)
  exact Zm (Zh none (p:Int) 1 (Bg Z3)) (Z0 1 (Zm (BA x1 om) (Z0 1 (Zm (Cx x1 mx om om) (Z0 1 (ie (Za (r1 [0] ⟨(x1 % mx),rfl,rfl,⟨Pk.rem om om,by rw [Jq,Z9 om,Zg om,Z3];rfl⟩⟩))))))))
 have hq1:p / bs.length<=p:=Nat.div_le_self _ _
 have hq0:(0:Int)<=((p / bs.length:Nat):Int):=Int.natCast_nonneg _
 refine ak (aD 46 (ZF 37 46 [0,1,2,3,4,5,6,7,8] [0,0] (dw 9 (QF bs) (dx 10 (E0 p bs.length om om) ?_))))
 obtain ⟨x2,Zs⟩:=Zr bs (p % bs.length) (Nat.mod_lt _ om)
 have hz:=Zz _ (ZZ Zs)
 have hy2:=Zs
 refine dx 11 (Zh none ((p % bs.length:Nat):Int) 1 (Bg Zs)) (Zj 33 34 [12] (dx 13 (BA x2 om) (da 14 ((x2*131)) ((x2)*(131)) (ZF 26 31 [15,16,17,18,19] [0] (da 20 (((p*7:Nat):Int)) (((p:Int))*(7)) (da 21 (((p*7+3:Nat):Int)) ((((p*7:Nat):Int))+(3)) (ZF 20 24 [22,23,24,25] [0] (dw 26 (QF bs) (dx 27 (E0 (p*7+3) bs.length om om) ?_)))))))))
 obtain ⟨x3,YD⟩:=Zr bs ((p*7+3) % bs.length) (Nat.mod_lt _ om)
 have hz3:=Zz _ (ZZ YD)
 have hy3:=YD
 exact dx 28 (Zh none (((p*7+3) % bs.length:Nat):Int) 1 (Bg YD)) (Zj 16 17 [29] (dx 30 (BA x3 om) (da 31 ((x3*1117)) ((x3)*(1117)) (da 32 (((x2*131)+(x3*1117))) (((x2*131))+((x3*1117))) (Zj 12 13 [33] (da 34 (((p*29:Nat):Int)) (((p:Int))*(29)) (da 35 ((((x2*131)+(x3*1117))+((p*29:Nat):Int))) ((((x2*131)+(x3*1117)))+(((p*29:Nat):Int))) (ZF 5 10 [36,37,38,39,40] [0] (dw 41 (QF bs) (dx 42 (AP p bs.length om om) (da 43 ((((p / bs.length:Nat):Int)*53)) ((((p / bs.length:Nat):Int))*(53)) (da 44 (((((x2*131)+(x3*1117))+((p*29:Nat):Int))+(((p / bs.length:Nat):Int)*53))) (((((x2*131)+(x3*1117))+((p*29:Nat):Int)))+((((p / bs.length:Nat):Int)*53))) (Zj 0 1 [45] (de (ar (Z0 2 (Zm (GF ((((x2*131)+(x3*1117))+((p*29:Nat):Int))+(((p / bs.length:Nat):Int)*53)) 64 om om) (Zm (Me ((((x2*131)+(x3*1117))+((p*29:Nat):Int))+(((p / bs.length:Nat):Int)*53)) (((((x2*131)+(x3*1117))+((p*29:Nat):Int))+(((p / bs.length:Nat):Int)*53)) / 64)) (Z0 1 (ie (ar (Z0 2 (Zm (Cx (Jy ((((x2*131)+(x3*1117))+((p*29:Nat):Int))+(((p / bs.length:Nat):Int)*53)) (((((x2*131)+(x3*1117))+((p*29:Nat):Int))+(((p / bs.length:Nat):Int)*53)) / 64)) mx om (ER ⟨by omega,by omega⟩ ⟨by omega,by omega⟩).1) (Z0 1 (ie (Za (r1 [0] ⟨((Jy ((((x2*131)+(x3*1117))+((p*29:Nat):Int))+(((p / bs.length:Nat):Int)*53)) (((((x2*131)+(x3*1117))+((p*29:Nat):Int))+(((p / bs.length:Nat):Int)*53)) / 64)) % mx),rfl,rfl,⟨Pk.rem (ER ⟨by omega,by omega⟩ ⟨by omega,by omega⟩).1 om,by rw [Jq,Z9 om,Z9 om,hy2,hy3];rfl⟩⟩)))))))))))))))))))))))))))
theorem Z0x (rd:Nat) (bs:LI) (p:Nat) (mx:Nat) (Zz:∀z∈bs,0<=z/\z<=255) (hp:p+1<=1000000000:=by exact ob) (hmx:0<mx:=by exact ob):Zk 50 [.p rd 0,.i mx] [Yd rd bs p] (fun r h=>∃(kn:Nat),r=.i kn/\h=[.obj rd [W0 bs,.i (p+1:Nat)]]/\kn<mx/\kn=(Jq bs p mx).toNat):=(Z0w rd bs p mx Zz hp).mono fun r h ⟨z,hr,hh,hz,he⟩=>by
  have h0:=hz.lt om
  exact ⟨z.toNat,by rw [hr,Int.toNat_of_nonneg h0.1],hh,by omega,by rw [he]⟩
theorem Rl (s:Z4) (hz:s.sz<=1000000000):Zk 127 [Yt s] [] (fun r h=>∃(v:Hd),r=.agg [.i s.op,.i s.num,.i s.into,Z2 s.args,.h v]/\h=[rK v 2 (Zi (Yu s.kids))]):=by
 have hkz:=UJ s
 have haz:=Qe s
 refine ZE 33 Tryz.func127 (ar (iA (Y6 s) fun b1=>iA [.i 0,.i 0,.i 0,nl,nl] fun b2=>ie (ar (Cr 2 fun g1=>?_))))
 refine Z0 1 (ie (aq (ar (Z0 1 (ie (ab 0 (al (fun m F h=>∃(k:Nat) (v:Hd),(k<=s.kids.length)/\F=[(1,.p b1 0),(2,.p b2 0),(3,.h v),(4,.i k)]/\h=[.obj b2 [.i 0,.i 0,.i 0,nl,nl],.obj b1 (Y6 s),rK v 2 (Zi (Yu (s.kids.take k)))]/\m=s.kids.length-k) _ _ _ ⟨0,(⟨some ⟨g1,0,none⟩,0,0⟩:Hd),ob,rfl,rfl,rfl⟩ (wk [1,1,0] (fw (fr (Y2 fl))) (e:=(rc (rc (rr (ls:=[]) ob rz))))) ?_)))))))
 rintro m F h ⟨k,v,Ya,rfl,rfl,rfl⟩
 refine aq (ar (Z5 3 [1] (iw (VI s.kids) (Z0 1 (ie (ZG ((k:Int)<(s.kids.length:Int)) (fun Zb=>?_) (fun Zb=>?_)))))))
 ·refine ak (aq (ab 1 (az (Z5 4 [1] ?_))))
  obtain ⟨x1,Z3⟩:=Zr s.kids k om
  have hks:=UH Z3
  exact Zm (Zh none (k:Int) 2 (Uc Z3)) (Z0 1 (Zw [] (EH x1) (iL [ZT x1] 1 2 fun v1=>ZP 0 [(20,.sl [ZT x1] none)] (DU 3 k v 2 (Zi (Yu (s.kids.take k))) [ZT x1] none (by rw [Ch,Wp,Vh om]) (TC rfl) rfl (List.cons_ne_nil _ _) (by simp<;>omega) fun v2=>Z0 1 (ie (az (Z0 1 (ZD k (Z0 1 (ie (ZI ⟨k+1,v2,ob,rfl,rfl,rfl⟩ (wk [2,2,0] (fw (fr (ZM k fl))) (e:=(rc (rc (rr (ls:=Zi (Yu (s.kids.take k))++Zi [ZT x1]) (Sp Z3) rz))))))))))))))))
 refine ax 0 (aD 12 (ZF 3 12 [0,1,2,3,4,5,6,7,9] [1,1,1,1] (Z8 8 (dc 8 [] [1,1,1] [b1,b1,b1] (VO s.args) ?_))))
 rintro _ _ ⟨v3,rfl,rfl⟩
 exact Zj 1 2 [10] (Z8 11 (Yv 11 1 [] [] b2 [.i s.op,.i s.num,.i s.into,ZJ s.args v3,.h v] (de (Za (r3 [3] [.agg [.i s.op,.i s.num,.i s.into,ZJ s.args v3,.h v]] [0] [(b2,b2)] ⟨v,rfl,rfl⟩ (Zc.agg (.cons (lr _) (.cons (lr _) (.cons (lr _) (.cons (Zc.forget _ _) (.cons (lr _) .nil)))))) (eq:=(rr (ls:=Zi (Yu (s.kids.take k))) (by rw [Va om]) rz)))))))
theorem Rk (s:Z4) (fl:Bool) (hz:s.sz<=1000000000:=by exact ob):Zk 127 [Yt s] [] (fun r h=>(∃(v:Hd),r=.agg [.i s.op,.i s.num,.i s.into,Z2 s.args,.h v]/\h=[rK v 2 (Zi (Yu s.kids))]/\fl=true)∨(r=Yt s/\h=[]/\fl=false)):=by
 cases fl with
 | true=>exact (Rl s hz).mono fun r h ⟨v,hr,hh⟩=>.inl ⟨v,hr,hh,rfl⟩
 | false=>exact (O6 s hz).mono fun r h ⟨hr,hh⟩=>.inr ⟨hr,hh,rfl⟩
theorem Rh (b:Z6) (kk:Nat) (hz:b.sz<=1000000000:=by exact ob) (hkk:kk<b.steps.length:=by exact ob):Zk 86 [ZT b] [] (fun r h=>∃(v:Hd) (u:Hd),r=.agg [.h v,.i b.result]/\h=[rK v 5 (Ws b kk u.v b.steps.length),rK u 2 (Ut b kk b.steps.length)]):=by
 have hbz:=Vg b
 refine ZE 28 Tryz.func86 (ar (iA (Yb b) fun b1=>iA [nl,.i 0] fun b2=>ie (ar (Cr 5 fun g1=>Z5 3 [2] (iA [nl,.i 0] fun b3=>?_)))))
 refine ZA 0 b3 [.ms g1 0 0 0,.i b.result] (ie (aq (ar (Xx (Z8v (k:=2)) (Z0 1 (ie (ab 0 (al (fun m F h=>∃(k:Nat) (v:Hd) (u:Hd),(k<=b.steps.length)/\F=[(1,.p b1 0),(2,.p b2 0),(3,.p b3 0),(4,.i k)]/\h=[.obj b3 [.h v,.i b.result],.obj b2 [nl,.i 0],.obj b1 (Yb b),rK v 5 (Ws b kk u.v k),rK u 2 (Ut b kk k)]/\m=b.steps.length-k) _ _ _ ⟨0,(⟨some ⟨g1,0,none⟩,0,0⟩:Hd),hN,ob,rfl,rfl,rfl⟩ (wk [1,2,2,1,0] (fw (fr (Y2 fl))) (e:=(rc (rc (rc (rr (ls:=[]) (by first|exact Mh.symm|exact Mk.symm) (rr (ls:=[]) (by first|exact Mh.symm|exact Mk.symm) rz))))))) ?_))))))))
 rintro m F h ⟨k,v,u,Ya,rfl,rfl,rfl⟩
 refine aq (ar (Z5 3 [2] (iw (Vi b.steps) (Z0 1 (ie (ZG ((k:Int)<(b.steps.length:Int)) (fun Zb=>?_) (fun Zb=>?_)))))))
 ·refine ak (aq (ab 1 (aE 12 (ZF 7 12 [0,1,2,3,4] [0,2] ?_))))
  obtain ⟨x1,Z3⟩:=Zr b.steps k om
  have hss:=KP Z3
  refine dx 5 (Zh none (k:Int) 5 (W3 Z3)) (Zj 5 6 [6] (Z8 7 (dc 7 [] [0] [b3] (Rk x1 (decide (k=kk))) ?_)))
  rintro _ _ (⟨v1,rfl,rfl,Y1⟩|⟨rfl,rfl,Yi⟩)
  ·have hke:k=kk:=of_decide_eq_true Y1
   exact FA (OD [1,1,1,0,0,0] (h':=[.obj b3 [.h v,.i b.result],.obj b2 [nl,.i 0],.obj b1 (Yb b),rK v1 2 (Zi (Yu x1.kids)),rK v 5 (Ws b kk u.v k),rK u 2 (Ut b kk k)]) (d:=[]) kr) (Z8 8 (dL 8 [0] [b3] [.agg [.i x1.op,.i x1.num,.i x1.into,Z2 x1.args,.h v1]] 1 5 fun v2=>Yf 3 3 [] [(24,.sl [.agg [.i x1.op,.i x1.num,.i x1.into,Z2 x1.args,.h v1]] none)] (Z8 9 (Fx 9 5 k [] [] v 5 (Ws b kk u.v k) [.agg [.i x1.op,.i x1.num,.i x1.into,Z2 x1.args,.h v1]] none (GI om) (TC rfl) rfl (List.cons_ne_nil _ _) (by simp<;>omega) fun v3=>Zj 1 2 [10] (Z8 11 (Yv 11 2 [] [] b3 [.h v3,.i b.result] (de (az (Z0 1 (ZD k (Z0 1 (ie (ZI ⟨k+1,v3,v1,ob,rfl,rfl,rfl⟩ (wk [0,2,2,0,1] (fw (fr (ZM k fl))) (e:=(rc (rc (rc (rr (ls:=Ws b kk u.v k++Zi [.agg [.i x1.op,.i x1.num,.i x1.into,Z2 x1.args,.h v1]]) (by first|(subst hke;exact Mg Z3)|(subst hke;exact Mj Z3)) (rr (ls:=Zi (Yu x1.kids)) (by first|(subst hke;exact Mg Z3)|(subst hke;exact Mj Z3)) rz))))))))))))))))))))
  have hke:¬k=kk:=of_decide_eq_false Yi
  exact Z8 8 (dL 8 [0] [b3] [Yt x1] 1 5 fun v4=>Yf 3 3 [] [(24,.sl [Yt x1] none)] (Z8 9 (Fx 9 4 k [] [] v 5 (Ws b kk u.v k) [Yt x1] none (GI om) (TC rfl) rfl (List.cons_ne_nil _ _) (by simp<;>omega) fun v5=>Zj 1 2 [10] (Z8 11 (Yv 11 2 [] [] b3 [.h v5,.i b.result] (de (az (Z0 1 (ZD k (Z0 1 (ie (ZI ⟨k+1,v5,u,ob,rfl,rfl,rfl⟩ (wk [0,2,2,0,1] (fw (fr (ZM k fl))) (e:=(rc (rc (rc (rr (ls:=Ws b kk u.v k++Zi [Yt x1]) (by first|exact Mf Z3 hke|exact Mi hke) (rr (ls:=Ut b kk k) (by first|exact Mf Z3 hke|exact Mi hke) rz)))))))))))))))))))
 exact ax 0 (ar (Z5 1 [0] (ZA 1 b2 [.h v,.i b.result] (ie (Za (r3 [3,3] [.agg [.h v,.i b.result]] [0] [(b2,b2)] ⟨v,u,rfl,rfl⟩ (lr _) (eq:=(rr (ls:=Ws b kk u.v k) (by rw [show k=b.steps.length by omega]) (rr (ls:=Ut b kk k) (by rw [show k=b.steps.length by omega]) rz)))))))))
theorem Z14 (rd:Nat) (bs:LI) (p:Nat) (b:Z6) (Zz:∀z∈bs,0<=z/\z<=255) (hp:p+(10*b.sz)<=1000000000) (hz:b.sz<=20000000) (hg:b.rng) (h0:b.steps.length=0):Zk 53 [.p rd 0,ZT b] [Yd rd bs p] (fun r h=>∃(y:Z6) (p2:Nat),r=ZT y/\h=[Yd rd bs p2]/\Xf b y/\p<=p2/\p2<=p+(10*b.sz)):=by
 have hbp:=b.sz_pos
 refine ZE 109 Tryz.func53 (ar (iA (Yb b) fun b1=>iA [nl,.i 0] fun b2=>ie (ar (Z5 1 [1] (Zw [] (EH b) (iA [nl,.i 0] fun b3=>ZA 0 b3 (Yb b) (ie (aq (ar (Z5 2 [0] (iw (Vi b.steps) (Z0 2 (ib (b:=((b.steps.length:Int)==0)) 14 (fun Zd=>?_) (fun Zd=>?_))))))))))))))
 ·refine Z0 4 (ie (WJ (ar (Z0 1 (iL (Z7 [0,1,2,3,-1,99]) 6 1 fun v1=>ZP 0 [(20,Z2 [0,1,2,3,-1,99])] (ic [4] (Vp rd bs p [0,1,2,3,-1,99] (Zz:=ob)) ?_))))))
  rintro _ _ ⟨z1,rfl,rfl,Yi⟩
  exact Z0 1 (ZA 2 b3 [Xw b.steps,.i z1] (ie (ar (Z5 1 [0] (ZA 3 b2 [Xw b.steps,.i z1] (ie (Za (r3 [2] [.agg [Xw b.steps,.i z1]] [0] [(b2,b2)] ⟨(Z6.mk b.steps z1),p+1,rfl,rfl,⟨Xf.result hg _,by have:=b.sz_pos;omega,by have:=b.sz_pos;omega⟩⟩ (lr _)))))))))
 have YM:¬((b.steps.length:Int)=0):=Yg Zp Zd
 exact absurd (show (b.steps.length:Int)=0 by omega) YM
theorem Z15 (rd:Nat) (bs:LI) (p:Nat) (b:Z6) (Zz:∀z∈bs,0<=z/\z<=255) (hp:p+(10*b.sz)<=1000000000) (hz:b.sz<=20000000) (hg:b.rng) (h0:0<b.steps.length) (ih:∀(rd:Nat) (bs:LI) (p:Nat) (b2:Z6),(∀z∈bs,0<=z/\z<=255)->(p+(10*b2.sz)<=1000000000)->(b2.sz<=20000000)->(b2.rng)->(b2.sz<b.sz)->Zk 53 [.p rd 0,ZT b2] [Yd rd bs p] (fun r h=>∃(y:Z6) (p2:Nat),r=ZT y/\h=[Yd rd bs p2]/\Xf b2 y/\p<=p2/\p2<=p+(10*b2.sz))):Zk 53 [.p rd 0,ZT b] [Yd rd bs p] (fun r h=>∃(y:Z6) (p2:Nat),r=ZT y/\h=[Yd rd bs p2]/\Xf b y/\p<=p2/\p2<=p+(10*b.sz)):=by
 have hbp:=b.sz_pos
 obtain ⟨kk,hkk⟩:∃kk,kk=(Jq bs (p+1) (b.steps.length:Int)).toNat:=⟨_,rfl⟩
 have hkl:kk<b.steps.length:=by have:=Z52 (bs:=bs) (p:=p+1) (mx:=(b.steps.length:Int)) om;omega
 obtain ⟨sk,hsk⟩:=Zr b.steps kk hkl
 have hsb:=KP hsk
 have hsg:=Z5h hg hsk
 have hst:=Vg b
 refine ZE 109 Tryz.func53 (ar (iA (Yb b) fun b1=>iA [nl,.i 0] fun b2=>ie (ar (Z5 1 [1] (ic [] (Rh b kk) ?_)))))
 rintro _ _ ⟨v1,u1,rfl,rfl⟩
 refine Cq 0 b.steps.length (v:=v1) (GI (kk:=kk) (u:=u1.v) (YX b.steps.length)) om (fun g1 c1 he1=>?_)
 subst he1
 refine Xx (OD [0,1,1,1,0] (h':=[.row (.slice (some ⟨g1,0,none⟩) b.steps.length c1) 5 (Ws b kk u1.v b.steps.length),.obj b2 [nl,.i 0],.obj b1 (Yb b),Yd rd bs p,rK u1 2 (Ut b kk b.steps.length)]) (d:=[]) kr) (iA [nl,.i 0] fun b3=>ZA 0 b3 [.ms g1 0 b.steps.length c1,.i b.result] (ie (aq (ar (Z5 2 [0] (io (.i b.steps.length) (.i b.steps.length) (lr _) (Z0 2 (ib (b:=((b.steps.length:Int)==0)) 14 (fun Zd=>?_) (fun Zd=>?_)))))))))
 ·have Y1:(b.steps.length:Int)=0:=(Zp).1 Zd
  exact absurd Y1 om
 have Yi:¬((b.steps.length:Int)=0):=Yg Zp Zd
 refine Z0 1 (ic [4] (XG rd bs p 5 (Zz:=ob)) ?_)
 rintro _ _ ⟨k1,rfl,rfl,YM⟩
 refine Z0 2 (ie (ac (k1==0) Zp (fun Zb=>?_) (fun Zb=>?_)))
 ·refine ar (Xx (Hx 5 2 b kk sk u1.v (.slice (some ⟨g1,0,none⟩) b.steps.length c1) hsk) (Xx (Uy 0 2 0 (.slice (some ⟨g1,0,none⟩) b.steps.length c1) 5 b3 (Zo b.steps) [.ms g1 0 b.steps.length c1,.i b.result] (YT _) rfl) (Z0 1 (iL (Z7 [0,1,2,3,-1,99]) 6 1 fun v2=>ZP 0 [(20,Z2 [0,1,2,3,-1,99])] (ic [4] (Vp rd bs (p+1) [0,1,2,3,-1,99] (Zz:=ob)) ?_)))))
  rintro _ _ ⟨z1,rfl,rfl,YW⟩
  exact Z0 1 (ZA 2 b3 [YA b.steps (.slice (some ⟨g1,0,none⟩) b.steps.length c1),.i z1] (ie (ar (Z5 1 [0] (ZA 5 b2 [YA b.steps (.slice (some ⟨g1,0,none⟩) b.steps.length c1),.i z1] (ie (Za (r3 [2] [.agg [YA b.steps (.slice (some ⟨g1,0,none⟩) b.steps.length c1),.i z1]] [0] [(b2,b2)] ⟨(Z6.mk b.steps z1),(p+1)+1,rfl,rfl,(by first|exact ⟨Xf.result hg _,by omega,by omega⟩|exact ⟨Xf.kid hg hsk hck hyb.1,by omega,by omega⟩|exact ⟨Xf.del hg,by omega,by omega⟩|exact ⟨Xf.put hg,by omega,by omega⟩|exact ⟨Xf.set hg hsk ⟨by have:=hys.1.1;omega,hys.1.2⟩,by omega,by omega⟩)⟩ (Zc.agg (.cons (Zc.forget _ _) (.cons (lr _) .nil)))))))))))
 refine ak (ar (Z5 3 [1] (io (.i b.steps.length) (.i b.steps.length) (lr _) (ic [0] (Z0x rd bs (p+1) b.steps.length (Zz:=ob)) ?_))))
 rintro _ _ ⟨Yr,rfl,rfl,X5⟩
 have hkn:Yr=kk:=by have:=X5.2;omega
 refine Z0 1 (ie (aq (ar (Z5 3 [1] (Zm (XR g1 b.steps.length c1 Yr 5 (Yr:Int)) (Z0 1 (Vz (WM 2 g1 b.steps.length c1 5 (Yr*5+4) (Ws b kk u1.v b.steps.length) [.h u1] 42 (.h u1) (by rw [hkn];exact E3 hsk)) (Zm (Z32 5 sk.kids.length u1 2 (Ut b kk b.steps.length) (by rw [GJ hsk];exact Ch _)) (Z0 2 (ib (b:=(decide ((sk.kids.length:Int)>0))) 37 (fun ZL=>?_) (fun ZL=>?_)))))))))))
 ·have XQ:(sk.kids.length:Int)>0:=(dq).1 ZL
  refine Z0 1 (ic [0] (XG rd bs ((p+1)+1) 3 (Zz:=ob)) ?_)
  rintro _ _ ⟨k2,rfl,rfl,Wr⟩
  refine Z0 2 (ie (ZG (k2>0) (fun Zf=>?_) (fun Zf=>?_)))
  ·refine ar (Xx (Hy 5 u1.v 2 (Ut b kk b.steps.length) (Zi (Yu sk.kids)) (GJ hsk)) (Cq 0 sk.kids.length (v:=u1) (Ch _) om (fun g2 c2 he2=>?_)))
   subst he2
   refine Z5 4 [2] (Zm (XR g1 b.steps.length c1 Yr 5 (Yr:Int)) (Z0 1 (Vz (WM 3 g1 b.steps.length c1 5 (Yr*5+4) (Ws b kk (.slice (some ⟨g2,0,none⟩) sk.kids.length c2) b.steps.length) [.ms g2 0 sk.kids.length c2] 42 (.ms g2 0 sk.kids.length c2) (by rw [hkn];exact E3 hsk)) (io (.i sk.kids.length) (.i sk.kids.length) (lr _) (ic [1] (KH rd bs (((p+1)+1)+1) sk.kids.length (Zz:=ob)) ?_)))))
   rintro _ _ ⟨YO,rfl,rfl,V6⟩
   obtain ⟨ck,hck⟩:=Zr sk.kids YO om
   have hckz:=UH hck
   have hckb:=KP hsk
   have hckg:=Z5e hg hsk hck
   refine Z0 1 (ie (aD 20 (ZF 17 20 [0,1,2] [2] (dx 3 (XR g1 b.steps.length c1 Yr 5 (Yr:Int)) (Zj 15 16 [4] (VH 5 (WM 3 g1 b.steps.length c1 5 (Yr*5+4) (Ws b kk (.slice (some ⟨g2,0,none⟩) sk.kids.length c2) b.steps.length) [.ms g2 0 sk.kids.length c2] 42 (.ms g2 0 sk.kids.length c2) (by rw [hkn];exact E3 hsk)) (ZF 9 14 [6,7,8,9,10] [2] (dx 11 (XR g1 b.steps.length c1 Yr 5 (Yr:Int)) (Zj 7 8 [12] (VH 13 (WM 3 g1 b.steps.length c1 5 (Yr*5+4) (Ws b kk (.slice (some ⟨g2,0,none⟩) sk.kids.length c2) b.steps.length) [.ms g2 0 sk.kids.length c2] 42 (.ms g2 0 sk.kids.length c2) (by rw [hkn];exact E3 hsk)) (Zj 5 6 [14] (dx 15 (XR g2 sk.kids.length c2 YO 2 (YO:Int)) (VH 16 (WM 1 g2 sk.kids.length c2 2 (YO*2) (Zi (Yu sk.kids)) (Yb ck) 30 (ZT ck) (So hck)) (Z8 17 (dc 17 [0] [2,1] [g1,b3] (ih rd bs ((((p+1)+1)+1)+1) ck ob ob ob ob ob) ?_)))))))))))))))
   rintro _ _ ⟨y1,p21,rfl,rfl,Vk⟩
   have hyb:=Vk
   exact dx 18 (XR g2 sk.kids.length c2 YO 2 (YO:Int)) (Z8 19 (JU 19 1 [] [] g2 sk.kids.length c2 2 (YO*2) (Yb y1) (Zi (Yu sk.kids)) (Zi (Yu (sk.kids.set YO y1))) (by rw [Ch];simp only [YK,X6];omega) (Sq y1 om) (de (ar (Xx (OA 0 2 b kk sk (sk.kids.set YO y1) (.slice (some ⟨g2,0,none⟩) sk.kids.length c2) (.slice (some ⟨g1,0,none⟩) b.steps.length c1) hsk) (Xx (Uy 0 2 0 (.slice (some ⟨g1,0,none⟩) b.steps.length c1) 5 b3 (Zo (b.steps.set kk (Z4.mk sk.op sk.num sk.into sk.args (sk.kids.set YO y1)))) [.ms g1 0 b.steps.length c1,.i b.result] (YT _) rfl) (Z5 1 [0] (ZA 4 b2 [YA (b.steps.set kk (Z4.mk sk.op sk.num sk.into sk.args (sk.kids.set YO y1))) (.slice (some ⟨g1,0,none⟩) b.steps.length c1),.i b.result] (ie (Za (r3 [4] [.agg [YA (b.steps.set kk (Z4.mk sk.op sk.num sk.into sk.args (sk.kids.set YO y1))) (.slice (some ⟨g1,0,none⟩) b.steps.length c1),.i b.result]] [0] [(b2,b2)] ⟨(Z6.mk (b.steps.set kk (Z4.mk sk.op sk.num sk.into sk.args (sk.kids.set YO y1))) b.result),p21,rfl,rfl,(by first|exact ⟨Xf.result hg _,by omega,by omega⟩|exact ⟨Xf.kid hg hsk hck hyb.1,by omega,by omega⟩|exact ⟨Xf.del hg,by omega,by omega⟩|exact ⟨Xf.put hg,by omega,by omega⟩|exact ⟨Xf.set hg hsk ⟨by have:=hys.1.1;omega,hys.1.2⟩,by omega,by omega⟩)⟩ (Zc.agg (.cons (Zc.forget _ _) (.cons (lr _) .nil))))))))))))))
  refine ak (aq (ar (Xx (Hx 5 2 b kk sk u1.v (.slice (some ⟨g1,0,none⟩) b.steps.length c1) hsk) (Z0 1 (ic [2] (XG rd bs (((p+1)+1)+1) 4 (Zz:=ob)) ?_)))))
  rintro _ _ ⟨k3,rfl,rfl,UF⟩
  refine ie (ab 0 (ar (Z0 2 (ie (ac (k3==0) Zp (fun ZB=>?_) (fun ZB=>?_))))))
  ·exact aE 12 (ZF 9 12 [0,1,2] [3] (dx 3 (GC 1 g1 b.steps.length c1 Yr 5 (Zi (Zo b.steps))) (ZF 5 8 [4,5,6] [3] (da 7 (((Yr+1:Nat):Int)) (((Yr:Int))+(1)) (dx 8 (Md 1 g1 b.steps.length c1 (Yr+1) 5 (Zi (Zo b.steps))) (Z8 9 (IQ 9 1 [] [] g1 b.steps.length c1 Yr (Yr+1) 5 (Zi (Zo b.steps)) (V4 _) (Zj 1 2 [10] (Z8 11 (Yv 11 3 [] [] b3 [.ms g1 0 (Yr+(b.steps.length-(Yr+1))) c1,.i b.result] (de (ar (Xx (Hy 1 (.slice (some ⟨g1,0,none⟩) (Yr+(b.steps.length-(Yr+1))) c1) 5 (((Zi (Zo b.steps)).take (Yr*5))++((Zi (Zo b.steps)).drop ((Yr+1)*5))) (Zi (Zo (b.steps.take kk++b.steps.drop (kk+1)))) (by rw [hkn];exact Lj hkl)) (Xx (Uy 0 0 0 (.slice (some ⟨g1,0,none⟩) (Yr+(b.steps.length-(Yr+1))) c1) 5 b3 (Zo (b.steps.take kk++b.steps.drop (kk+1))) [.ms g1 0 (Yr+(b.steps.length-(Yr+1))) c1,.i b.result] (YT _) rfl) (Z5 1 [0] (ZA 4 b2 [YA (b.steps.take kk++b.steps.drop (kk+1)) (.slice (some ⟨g1,0,none⟩) (Yr+(b.steps.length-(Yr+1))) c1),.i b.result] (ie (Za (r3 [3] [.agg [YA (b.steps.take kk++b.steps.drop (kk+1)) (.slice (some ⟨g1,0,none⟩) (Yr+(b.steps.length-(Yr+1))) c1),.i b.result]] [0] [(b2,b2)] ⟨(Z6.mk (b.steps.take kk++b.steps.drop (kk+1)) b.result),(((p+1)+1)+1)+1,rfl,rfl,(by first|exact ⟨Xf.result hg _,by omega,by omega⟩|exact ⟨Xf.kid hg hsk hck hyb.1,by omega,by omega⟩|exact ⟨Xf.del hg,by omega,by omega⟩|exact ⟨Xf.put hg,by omega,by omega⟩|exact ⟨Xf.set hg hsk ⟨by have:=hys.1.1;omega,hys.1.2⟩,by omega,by omega⟩)⟩ (Zc.agg (.cons (Zc.forget _ _) (.cons (lr _) .nil))))))))))))))))))))))
  refine ar (Z0 2 (ie (ac (k3==1) Zp (fun Yc=>?_) (fun Yc=>?_))))
  ·refine aD 10 (FA (Uy 1 2 0 (.slice (some ⟨g1,0,none⟩) b.steps.length c1) 5 b3 (Zo b.steps) [.ms g1 0 b.steps.length c1,.i b.result] (YT _) rfl) (ZF 6 10 [0,1,2,5] [0] (Z8 3 (dL 3 [0] [b3] (Z7 [14,15,15,16,17]) 5 1 fun v3=>Yf 5 5 [] [(102,Z2 [14,15,15,16,17])] (Z8 4 (dc 4 [3] [0] [b3] (Vp rd bs ((((p+1)+1)+1)+1) [14,15,15,16,17] (Zz:=ob)) ?_))))))
   rintro _ _ ⟨z2,rfl,rfl,UT⟩
   refine Z8 6 (dc 6 [0] [0] [b3] (XG rd bs (((((p+1)+1)+1)+1)+1) 4 (Zz:=ob)) ?_)
   rintro _ _ ⟨k4,rfl,rfl,Us⟩
   exact Z8 7 (Y7 7 [] [1] [b3] (KO z2 k4) (Yf 2 2 [] [(99,ZT b)] (Z8 8 (Y7 8 [] [] [] (DO b Yr (Zq z2 k4)) (Z8 9 (Yv 9 5 [] [] b2 (Yb (Z6.mk (Wa b.steps Yr (Zq z2 k4)) b.result)) (de (Za (r3 [1] [ZT (Z6.mk (Wa b.steps Yr (Zq z2 k4)) b.result)] [0] [(b2,b2)] ⟨(Z6.mk (Wa b.steps Yr (Zq z2 k4)) b.result),(((((p+1)+1)+1)+1)+1)+1,rfl,rfl,(by first|exact ⟨Xf.result hg _,by omega,by omega⟩|exact ⟨Xf.kid hg hsk hck hyb.1,by omega,by omega⟩|exact ⟨Xf.del hg,by omega,by omega⟩|exact ⟨Xf.put hg,by omega,by omega⟩|exact ⟨Xf.set hg hsk ⟨by have:=hys.1.1;omega,hys.1.2⟩,by omega,by omega⟩)⟩ (lr _))))))))))
  refine aE 12 (ZF 5 12 [0,1,2,3,4,5,6] [3,3] (dx 7 (XR g1 b.steps.length c1 Yr 5 (Yr:Int)) (VH 8 (WM 1 g1 b.steps.length c1 5 (Yr*5) (Zi (Zo b.steps)) (Y6 sk) 44 (Yt sk) (by rw [hkn];exact G6 hsk)) (Z8 9 (dc 9 [0] [1] [b3] (LO rd bs ((((p+1)+1)+1)+1) sk (Zz:=ob)) ?_)))))
  rintro _ _ ⟨y2,p22,rfl,rfl,TB⟩
  have hys:=TB
  exact dx 10 (XR g1 b.steps.length c1 Yr 5 (Yr:Int)) (Z8 11 (JU 11 1 [] [] g1 b.steps.length c1 5 (Yr*5) (Y6 y2) (Zi (Zo b.steps)) (Zi (Zo (b.steps.set kk y2))) (by rw [TT];simp only [YK,X6];omega) (by rw [hkn];exact DJ hsk) (de (ar (Xx (Uy 0 2 0 (.slice (some ⟨g1,0,none⟩) b.steps.length c1) 5 b3 (Zo (b.steps.set kk y2)) [.ms g1 0 b.steps.length c1,.i b.result] (YT _) rfl) (Z5 1 [0] (ZA 4 b2 [YA (b.steps.set kk y2) (.slice (some ⟨g1,0,none⟩) b.steps.length c1),.i b.result] (ie (Za (r3 [3] [.agg [YA (b.steps.set kk y2) (.slice (some ⟨g1,0,none⟩) b.steps.length c1),.i b.result]] [0] [(b2,b2)] ⟨(Z6.mk (b.steps.set kk y2) b.result),p22,rfl,rfl,(by first|exact ⟨Xf.result hg _,by omega,by omega⟩|exact ⟨Xf.kid hg hsk hck hyb.1,by omega,by omega⟩|exact ⟨Xf.del hg,by omega,by omega⟩|exact ⟨Xf.put hg,by omega,by omega⟩|exact ⟨Xf.set hg hsk ⟨by have:=hys.1.1;omega,hys.1.2⟩,by omega,by omega⟩)⟩ (Zc.agg (.cons (Zc.forget _ _) (.cons (lr _) .nil)))))))))))))
 have Tk:¬((sk.kids.length:Int)>0):=Yg dq ZL
 refine Z0 4 (ie (WI (ak (aq (ar (Xx (Hx 5 2 b kk sk u1.v (.slice (some ⟨g1,0,none⟩) b.steps.length c1) hsk) (Z0 1 (ic [2] (XG rd bs ((p+1)+1) 4 (Zz:=ob)) ?_))))))))
 rintro _ _ ⟨k5,rfl,rfl,QI⟩
 refine ie (ab 0 (ar (Z0 2 (ie (ac (k5==0) Zp (fun X1=>?_) (fun X1=>?_))))))
 ·exact aE 12 (ZF 9 12 [0,1,2] [3] (dx 3 (GC 1 g1 b.steps.length c1 Yr 5 (Zi (Zo b.steps))) (ZF 5 8 [4,5,6] [3] (da 7 (((Yr+1:Nat):Int)) (((Yr:Int))+(1)) (dx 8 (Md 1 g1 b.steps.length c1 (Yr+1) 5 (Zi (Zo b.steps))) (Z8 9 (IQ 9 1 [] [] g1 b.steps.length c1 Yr (Yr+1) 5 (Zi (Zo b.steps)) (V4 _) (Zj 1 2 [10] (Z8 11 (Yv 11 3 [] [] b3 [.ms g1 0 (Yr+(b.steps.length-(Yr+1))) c1,.i b.result] (de (ar (Xx (Hy 1 (.slice (some ⟨g1,0,none⟩) (Yr+(b.steps.length-(Yr+1))) c1) 5 (((Zi (Zo b.steps)).take (Yr*5))++((Zi (Zo b.steps)).drop ((Yr+1)*5))) (Zi (Zo (b.steps.take kk++b.steps.drop (kk+1)))) (by rw [hkn];exact Lj hkl)) (Xx (Uy 0 0 0 (.slice (some ⟨g1,0,none⟩) (Yr+(b.steps.length-(Yr+1))) c1) 5 b3 (Zo (b.steps.take kk++b.steps.drop (kk+1))) [.ms g1 0 (Yr+(b.steps.length-(Yr+1))) c1,.i b.result] (YT _) rfl) (Z5 1 [0] (ZA 4 b2 [YA (b.steps.take kk++b.steps.drop (kk+1)) (.slice (some ⟨g1,0,none⟩) (Yr+(b.steps.length-(Yr+1))) c1),.i b.result] (ie (Za (r3 [3] [.agg [YA (b.steps.take kk++b.steps.drop (kk+1)) (.slice (some ⟨g1,0,none⟩) (Yr+(b.steps.length-(Yr+1))) c1),.i b.result]] [0] [(b2,b2)] ⟨(Z6.mk (b.steps.take kk++b.steps.drop (kk+1)) b.result),((p+1)+1)+1,rfl,rfl,(by first|exact ⟨Xf.result hg _,by omega,by omega⟩|exact ⟨Xf.kid hg hsk hck hyb.1,by omega,by omega⟩|exact ⟨Xf.del hg,by omega,by omega⟩|exact ⟨Xf.put hg,by omega,by omega⟩|exact ⟨Xf.set hg hsk ⟨by have:=hys.1.1;omega,hys.1.2⟩,by omega,by omega⟩)⟩ (Zc.agg (.cons (Zc.forget _ _) (.cons (lr _) .nil))))))))))))))))))))))
 refine ar (Z0 2 (ie (ac (k5==1) Zp (fun X3=>?_) (fun X3=>?_))))
 ·refine aD 10 (FA (Uy 1 2 0 (.slice (some ⟨g1,0,none⟩) b.steps.length c1) 5 b3 (Zo b.steps) [.ms g1 0 b.steps.length c1,.i b.result] (YT _) rfl) (ZF 6 10 [0,1,2,5] [0] (Z8 3 (dL 3 [0] [b3] (Z7 [14,15,15,16,17]) 5 1 fun v4=>Yf 5 5 [] [(102,Z2 [14,15,15,16,17])] (Z8 4 (dc 4 [3] [0] [b3] (Vp rd bs (((p+1)+1)+1) [14,15,15,16,17] (Zz:=ob)) ?_))))))
  rintro _ _ ⟨z3,rfl,rfl,QJ⟩
  refine Z8 6 (dc 6 [0] [0] [b3] (XG rd bs ((((p+1)+1)+1)+1) 4 (Zz:=ob)) ?_)
  rintro _ _ ⟨k6,rfl,rfl,A5⟩
  exact Z8 7 (Y7 7 [] [1] [b3] (KO z3 k6) (Yf 2 2 [] [(99,ZT b)] (Z8 8 (Y7 8 [] [] [] (DO b Yr (Zq z3 k6)) (Z8 9 (Yv 9 5 [] [] b2 (Yb (Z6.mk (Wa b.steps Yr (Zq z3 k6)) b.result)) (de (Za (r3 [1] [ZT (Z6.mk (Wa b.steps Yr (Zq z3 k6)) b.result)] [0] [(b2,b2)] ⟨(Z6.mk (Wa b.steps Yr (Zq z3 k6)) b.result),((((p+1)+1)+1)+1)+1,rfl,rfl,(by first|exact ⟨Xf.result hg _,by omega,by omega⟩|exact ⟨Xf.kid hg hsk hck hyb.1,by omega,by omega⟩|exact ⟨Xf.del hg,by omega,by omega⟩|exact ⟨Xf.put hg,by omega,by omega⟩|exact ⟨Xf.set hg hsk ⟨by have:=hys.1.1;omega,hys.1.2⟩,by omega,by omega⟩)⟩ (lr _))))))))))
 refine aE 12 (ZF 5 12 [0,1,2,3,4,5,6] [3,3] (dx 7 (XR g1 b.steps.length c1 Yr 5 (Yr:Int)) (VH 8 (WM 1 g1 b.steps.length c1 5 (Yr*5) (Zi (Zo b.steps)) (Y6 sk) 44 (Yt sk) (by rw [hkn];exact G6 hsk)) (Z8 9 (dc 9 [0] [1] [b3] (LO rd bs (((p+1)+1)+1) sk (Zz:=ob)) ?_)))))
 rintro _ _ ⟨y3,p23,rfl,rfl,K9⟩
 have hys:=K9
 exact dx 10 (XR g1 b.steps.length c1 Yr 5 (Yr:Int)) (Z8 11 (JU 11 1 [] [] g1 b.steps.length c1 5 (Yr*5) (Y6 y3) (Zi (Zo b.steps)) (Zi (Zo (b.steps.set kk y3))) (by rw [TT];simp only [YK,X6];omega) (by rw [hkn];exact DJ hsk) (de (ar (Xx (Uy 0 2 0 (.slice (some ⟨g1,0,none⟩) b.steps.length c1) 5 b3 (Zo (b.steps.set kk y3)) [.ms g1 0 b.steps.length c1,.i b.result] (YT _) rfl) (Z5 1 [0] (ZA 4 b2 [YA (b.steps.set kk y3) (.slice (some ⟨g1,0,none⟩) b.steps.length c1),.i b.result] (ie (Za (r3 [3] [.agg [YA (b.steps.set kk y3) (.slice (some ⟨g1,0,none⟩) b.steps.length c1),.i b.result]] [0] [(b2,b2)] ⟨(Z6.mk (b.steps.set kk y3) b.result),p23,rfl,rfl,(by first|exact ⟨Xf.result hg _,by omega,by omega⟩|exact ⟨Xf.kid hg hsk hck hyb.1,by omega,by omega⟩|exact ⟨Xf.del hg,by omega,by omega⟩|exact ⟨Xf.put hg,by omega,by omega⟩|exact ⟨Xf.set hg hsk ⟨by have:=hys.1.1;omega,hys.1.2⟩,by omega,by omega⟩)⟩ (Zc.agg (.cons (Zc.forget _ _) (.cons (lr _) .nil)))))))))))))
theorem Z13 (rd:Nat) (bs:LI) (p:Nat) (b:Z6) (Zz:∀z∈bs,0<=z/\z<=255) (hp:p+10*b.sz<=1000000000:=by exact ob) (hz:b.sz<=20000000:=by exact ob) (hg:b.rng:=by exact ob):Zk 53 [.p rd 0,ZT b] [Yd rd bs p] (fun r h=>∃(y:Z6) (p2:Nat),r=ZT y/\h=[Yd rd bs p2]/\Xf b y/\p<=p2/\p2<=p+(10*b.sz)):=by
 have key:∀k:Nat,∀(rd:Nat) (bs:LI) (p:Nat) (b2:Z6),(∀z∈bs,0<=z/\z<=255)->(p+(10*b2.sz)<=1000000000)->(b2.sz<=20000000)->(b2.rng)->(b2.sz<k)->Zk 53 [.p rd 0,ZT b2] [Yd rd bs p] (fun r h=>∃(y:Z6) (p2:Nat),r=ZT y/\h=[Yd rd bs p2]/\Xf b2 y/\p<=p2/\p2<=p+(10*b2.sz)):=by
  intro k
  induction k with
  | zero=>intro rd bs p b2 h1 h2 h3 h4 h5;omega
  | succ k ih=>
   intro rd bs p b2 h1 h2 h3 h4 h5
   by_cases h0:b2.steps.length=0
   ·exact Z14 rd bs p b2 h1 h2 h3 h4 h0
   ·exact Z15 rd bs p b2 h1 h2 h3 h4 om fun rd bs p b3 q1 q2 q3 q4 q5=>ih rd bs p b3 q1 q2 q3 q4 om
 exact key (b.sz+1) rd bs p b Zz hp hz hg om
theorem LN (rd:Nat) (bs:LI) (p:Nat) (n:Zt) (often:Nat) (q:Nat) (l:Nat) (Zz:∀z∈bs,0<=z/\z<=255) (hp:p+(10*q+20)<=1000000000:=by exact ob) (hzn:ZS n q l:=by exact ob) (hq:q<=9999000:=by exact ob) (hl:l<=100:=by exact ob) (ho:0<often:=by exact ob):Zk 61 [.p rd 0,Ye n,.i often] [Yd rd bs p] (fun r h=>∃(n2:Zt) (p2:Nat),r=Ye n2/\h=[Yd rd bs p2]/\ZS n2 (q+2) (l+1)/\p<=p2/\p2<=p+(10*q+20)):=by
 have hnl:=hzn.len
 refine ZE 64 Tryz.func61 (ar (iA (ZH n) fun b1=>iA [nl,nl] fun b2=>ie (aq (ar (Z0 2 (ic [2] (KH rd bs p often (Zz:=ob)) ?_))))))
 rintro _ _ ⟨Yr,rfl,rfl,Y1⟩
 refine Z0 1 (ie (ZG ((Yr:Int)>0) (fun Zb=>?_) (fun Zb=>?_)))
 ·exact ar (Z5 1 [2] (ZA 1 b2 (ZH n) (ie (Za (r3 [1] [Ye n] [0] [(b2,b2)] ⟨n,p+1,rfl,rfl,(by first|exact ⟨hzn.le om om,by omega,by omega⟩|exact ⟨hzn.set hx1k om om om om hz1.2.2.2,by omega,by omega⟩|exact ⟨(hzn.le om om).ds had.1,by omega,by omega⟩|exact ⟨hzn.set hx2k om om om (by have:=hsb.1.1;omega) hsb.1.2,by omega,by omega⟩)⟩ (lr _))))))
 refine ak (ar (Z5 3 [2] (iw (VS n.routines) (ic [0] (KH rd bs (p+1) n.routines.length (Zz:=ob)) ?_))))
 rintro _ _ ⟨YO,rfl,rfl,Yi⟩
 refine Z0 1 (ie (aq (ar (Z0 1 (ic [0] (XG rd bs ((p+1)+1) 8 (Zz:=ob)) ?_)))))
 rintro _ _ ⟨k1,rfl,rfl,YM⟩
 refine ie (ab 0 (ar (Z0 2 (ie (ac (k1==0) Zp (fun Zf=>?_) (fun Zf=>?_))))))
 ·refine aD 11 (ZF 6 11 [0,1,2,3,4] [2,2] ?_)
  obtain ⟨x1,Z3⟩:=Zr n.routines YO om
  have hx1k:=Z3
  have hz1:=hzn.rt _ (ZZ Z3)
  refine dx 5 (Zh none (YO:Int) 5 (Wf Z3)) (Zj 3 5 [6,7] (dK (fun F h=>∃(g1:Nat) (c1:Nat) (b3:Nat),F=[(0,.p rd 0),(6,.p b2 0),(7,.i YO),(8,.p b3 0)]/\h=[.obj b3 [Zy n.decls,.ms g1 0 n.routines.length c1],.row (.slice (some ⟨g1,0,none⟩) n.routines.length c1) 5 (Zi (Yx (n.routines.set YO (ZY.mk x1.params x1.lent x1.result x1.body)))),.obj rd [W0 bs,.i ((((p+1)+1)+1:Nat):Int)],.obj b2 [nl,nl],.obj b1 (ZH n)]) ?_ ?_))
  ·refine Wz 8 9 ?_ ?_
   ·refine dc 8 [] [] [] (Gi n YO x1.body x1 (hr:=Z3)) ?_
    rintro _ _ ⟨g1,c1,rfl,rfl⟩
    exact Z8 9 (dA 9 [] [] [nl,nl] fun b3=>Z8 10 (Yv 10 0 [] [] b3 [Zy n.decls,.ms g1 0 n.routines.length c1] (de (ZK ⟨g1,c1,b3,rfl,rfl⟩ (ZO 5 fl)))))
   refine dA 9 [2,2] [b1,b1] [nl,nl] fun b4=>Z8 8 (dc 8 [] [] [] (Gi n YO x1.body x1 (hr:=Z3)) ?_)
   rintro _ _ ⟨g2,c2,rfl,rfl⟩
   exact Z8 10 (Yv 10 1 [] [] b4 [Zy n.decls,.ms g2 0 n.routines.length c2] (de (ZK ⟨g2,c2,b4,rfl,rfl⟩ (ZO 5 fl))))
  rintro F h ⟨g1,c1,b3,rfl,rfl⟩
  refine aD 14 (ZF 7 14 [0,1,2,3,4,5,6] [0,0] (dx 7 (XR g1 n.routines.length c1 YO 5 (YO:Int)) (Zj 5 6 [8] (VH 9 (WM 1 g1 n.routines.length c1 5 (YO*5+1) (Zi (Yx (n.routines.set YO (ZY.mk x1.params x1.lent x1.result x1.body)))) [Z2 x1.lent] 27 (Z2 x1.lent) (Ss om _)) (Z8 10 (dc 10 [2] [0] [b3] (Z16 rd bs (((p+1)+1)+1) x1.lent (Zz:=ob)) ?_))))))
  rintro _ _ ⟨zs1,p21,rfl,rfl,YW⟩
  have hsi:=YW
  exact dx 11 (XR g1 n.routines.length c1 YO 5 (YO:Int)) (Zj 1 2 [12] (Z8 13 (JU 13 2 [] [] g1 n.routines.length c1 5 (YO*5+1) [Z2 zs1] (Zi (Yx (n.routines.set YO (ZY.mk x1.params x1.lent x1.result x1.body)))) (Zi (Yx (n.routines.set YO (ZY.mk x1.params zs1 x1.result x1.body)))) (by rw [Bq,VP];simp only [YK,X6];omega) (St om _ _) (de (ar (Xx (Uy 0 1 1 (.slice (some ⟨g1,0,none⟩) n.routines.length c1) 5 b3 (Yx (n.routines.set YO (ZY.mk x1.params zs1 x1.result x1.body))) [Zy n.decls,.ms g1 0 n.routines.length c1] (U3 _) rfl) (Z5 1 [0] (ZA 3 b2 [Zy n.decls,W9 (n.routines.set YO (ZY.mk x1.params zs1 x1.result x1.body)) (.slice (some ⟨g1,0,none⟩) n.routines.length c1)] (ie (Za (r3 [3] [.agg [Zy n.decls,W9 (n.routines.set YO (ZY.mk x1.params zs1 x1.result x1.body)) (.slice (some ⟨g1,0,none⟩) n.routines.length c1)]] [0] [(b2,b2)] ⟨(Zt.mk n.decls (n.routines.set YO (ZY.mk x1.params zs1 x1.result x1.body))),p21,rfl,rfl,(by first|exact ⟨hzn.le om om,by omega,by omega⟩|exact ⟨hzn.set hx1k om om om om hz1.2.2.2,by omega,by omega⟩|exact ⟨(hzn.le om om).ds had.1,by omega,by omega⟩|exact ⟨hzn.set hx2k om om om (by have:=hsb.1.1;omega) hsb.1.2,by omega,by omega⟩)⟩ (Zc.agg (.cons (lr _) (.cons (Zc.forget _ _) .nil))))))))))))))
 refine ar (Z0 2 (ie (ac (k1==1) Zp (fun ZB=>?_) (fun ZB=>?_))))
 ·refine aD 6 (ZF 3 6 [0,2,3] [2] (Z8 1 (dc 1 [0] [1] [b1] (SB rd bs (((p+1)+1)+1) (Zz:=ob)) ?_)))
  rintro _ _ ⟨dz1,p22,rfl,rfl,X5⟩
  have had:=X5
  exact Zj 1 2 [4] (Z8 5 (Yv 5 1 [] [] b2 [Zy dz1,T5 n.routines] (de (Za (r3 [1] [.agg [Zy dz1,T5 n.routines]] [0] [(b2,b2)] ⟨(Zt.mk dz1 n.routines),p22,rfl,rfl,(by first|exact ⟨hzn.le om om,by omega,by omega⟩|exact ⟨hzn.set hx1k om om om om hz1.2.2.2,by omega,by omega⟩|exact ⟨(hzn.le om om).ds had.1,by omega,by omega⟩|exact ⟨hzn.set hx2k om om om (by have:=hsb.1.1;omega) hsb.1.2,by omega,by omega⟩)⟩ (lr _))))))
 refine ak (aD 12 (ZF 6 12 [0,1,2,3,4,5] [2,2] ?_))
 obtain ⟨x2,Zs⟩:=Zr n.routines YO om
 have hx2k:=Zs
 have hz2:=hzn.rt _ (ZZ Zs)
 refine dx 6 (Zh none (YO:Int) 5 (Wf Zs)) (Zj 3 5 [7,8] (Z8 9 (dc 9 [0] [1] [b1] (Z13 rd bs (((p+1)+1)+1) x2.body (Zz:=ob) (hg:=hz2.2.2.2)) ?_)))
 rintro _ _ ⟨y1,p23,rfl,rfl,XQ⟩
 have hsb:=XQ
 exact Z8 10 (Y7 10 [] [] [] (LP n YO y1 x2 (hr:=Zs)) (Z8 11 (Yv 11 1 [] [] b2 (ZH (withR n YO x2 y1)) (de (Za (r3 [1] [Ye (withR n YO x2 y1)] [0] [(b2,b2)] ⟨(withR n YO x2 y1),p23,rfl,rfl,(by first|exact ⟨hzn.le om om,by omega,by omega⟩|exact ⟨hzn.set hx1k om om om om hz1.2.2.2,by omega,by omega⟩|exact ⟨(hzn.le om om).ds had.1,by omega,by omega⟩|exact ⟨hzn.set hx2k om om om (by have:=hsb.1.1;omega) hsb.1.2,by omega,by omega⟩)⟩ (lr _)))))))
theorem SC (rd:Nat) (bs:LI) (p:Nat) (Zz:∀z∈bs,0<=z/\z<=255) (hp:p+73706400<=1000000000:=by exact ob):Zk 49 [.p rd 0] [Yd rd bs p] (fun r h=>∃(n2:Zt) (p2:Nat),r=Ye n2/\h=[Yd rd bs p2]/\ZS n2 7330632 11/\p<=p2/\p2<=p+73706400):=by
 refine ZE 14 Tryz.func49 (ar (iA [nl,nl] fun b1=>ie (aq (ar (Z0 1 (ic [1] (XG rd bs p 4 (Zz:=ob)) ?_))))))
 rintro _ _ ⟨k1,rfl,rfl,Y1⟩
 refine Z0 1 (ie (ac (k1==0) Zp (fun Zb=>?_) (fun Zb=>?_)))
 ·refine ar (Z0 2 (ic [0] (LK rd bs (p+1) (Zz:=ob)) ?_))
  rintro _ _ ⟨n1,p21,rfl,rfl,Yi⟩
  have hpf:=((FO.zn Yi.1).le (show 181<=7330630 by omega)).zs
  refine ic [0] (LN rd bs p21 n1 8 7330630 10 (Zz:=ob) (hzn:=(by first|exact hpf|exact hbf))) ?_
  rintro _ _ ⟨n21,p22,rfl,rfl,YM⟩
  have hsf:=YM
  exact ZA 1 b1 (ZH n21) (ie (Za (r3 [1] [Ye n21] [0] [(b1,b1)] ⟨n21,p22,rfl,rfl,⟨hsf.1,by omega,by omega⟩⟩ (lr _))))
 refine ak (ar (Z0 2 (ic [0] (SF rd bs (p+1) (Zz:=ob)) ?_)))
 rintro _ _ ⟨n2,p23,rfl,rfl,YW⟩
 have hbf:=YW.1.zs
 refine ic [0] (LN rd bs p23 n2 8 7330630 10 (Zz:=ob) (hzn:=(by first|exact hpf|exact hbf))) ?_
 rintro _ _ ⟨n22,p24,rfl,rfl,X5⟩
 have hsf:=X5
 exact ZA 1 b1 (ZH n22) (ie (Za (r3 [1] [Ye n22] [0] [(b1,b1)] ⟨n22,p24,rfl,rfl,⟨hsf.1,by omega,by omega⟩⟩ (lr _))))
theorem PO (xs:LI) (hl_xs:xs.length<=4294967296:=by exact ob):Zk 92 [Z2 xs] [] (fun r h=>∃(v:Value),r=ZJ xs v/\h=[.tail v 1]):=by
 refine ZE 8 Tryz.func92 (ar (Z0 1 (ie (aq (ar (Z0 1 (iN (Z7 xs) (fun hz1=>?_) ?_)))))))
 ·have hz1:=S3 hz1
  exact ie (WJ (ar (Z0 1 (ie (De 1 (Za (r2 [0] [nl] ⟨(.slice none 0 0),rfl,rfl⟩ (Zc.slh _ (by first|rfl|(subst_vars;rfl))))))))))
 exact ie (WI (ak (ar (iL (Z7 []) 0 1 fun v1=>Z0 1 (ip 0 (Z7 xs) (Z7 []) (Z7 xs) v1 none 1 (Yq _) (Yq _) (XL _) (by simp<;>omega) (by simp [Z7]) fun v2=>Z0 1 (ie (Za (r1 [0] ⟨v2,rfl,rfl⟩))))))))
theorem CX (xs:LI) (ys:LI) (hl_xs:xs.length<=4294967296:=by exact ob) (hl_ys:ys.length<=4294967296:=by exact ob):Zk 170 [Z2 xs,Z2 ys] [] (Yk (.b (decide (xs=ys)))):=by
 refine ZE 26 Tryz.func170 (ar (Z0 1 (ie (aq (ar (Z0 1 (iw (Y5 xs) (Z0 1 (iw (Y5 ys) (Z0 1 (ie (ac ((xs.length:Int) != (ys.length:Int)) Yp (fun Zb=>?_) (fun Zb=>?_)))))))))))))
 ·exact ar (Z0 1 (ie (Za (ZX (.b false) (lb (eq_comm.1 (decide_eq_false (fun q=>by rw [q] at Zb;exact Zb rfl))))))))
 refine ak (aq (ar (Z0 1 (iw (Y5 xs) (Z0 1 (ie (ab 0 (al (fun m F h=>∃(k:Nat),(k<=xs.length)/\(xs.take k=ys.take k)/\F=[(0,Z2 xs),(1,Z2 ys),(12,.i xs.length),(13,.i k)]/\h=[]/\m=xs.length-k) _ _ _ ⟨0,ob,ob,rfl,rfl,rfl⟩ (wk [] (fw (fr (Y2 fl)))) ?_))))))))
 rintro m F h ⟨k,Ya,Zl,rfl,rfl,rfl⟩
 refine ar (Z0 1 (ie (aq (ZG ((k:Int)<(xs.length:Int)) (fun Zf=>?_) (fun Zf=>?_)))))
 ·refine ak (aq (ab 1 (ar (Z0 2 (ie (aD 9 (Zj 7 9 [0,1] ?_)))))))
  obtain ⟨x1,Z3⟩:=Zr xs k om
  refine dx 2 (Zh none (k:Int) 1 (ZW Z3)) (Zj 3 6 [3,4,5] ?_)
  obtain ⟨x2,Zs⟩:=Zr ys k om
  refine dx 6 (Zh none (k:Int) 1 (ZW Zs)) (Zj 0 2 [7,8] (de (ac (x1 != x2) Yp (fun ZB=>?_) (fun ZB=>?_))))
  ·exact ar (Z0 1 (ie (Za (ZX (.b false) (lb (eq_comm.1 (decide_eq_false (fun q=>by subst q;rw [Z3] at Zs;cases Zs;exact ZB rfl))))))))
  refine ak (az (ZD k (Z0 1 (ie ?_))))
  have hdr:=Y4 Z3
  exact ZI ⟨k+1,ob,(by rw [Wv Z3,Wv Zs,Zl];have hxx:x1=x2:=om;rw [hxx]),rfl,rfl,rfl⟩ (wk [] (fw (fr (ZM k fl))))
 exact ax 0 (ar (Z0 1 (ie (Za (ZX (.b true) (lb (eq_comm.1 (decide_eq_true (by rw [Va om,Va om] at Zl;exact Zl)))))))))
theorem Z6p (m:Nat) (hm:m<=4294967296:=by exact ob):Zk 210 [nl,.i m] [] (fun r h=>∃(v:Hd),r=.h v/\h=[rV v []]):=by
 refine ZE 27 Tryz.func210 (Df Ju (Av (F':=[(0,.h hN),(1,.i m)]) (h':=[rV hN []]) (wk [0] (fc (x:=nl) (Zc.hd (v:=hN)) ( fc (x:=.i m) (lr _) (Lq _)))) (ar (Z0 1 (ie (aq (ar (Z0 2 (ie (ZG ((m:Int)<0) (fun Zb=>?_) (fun Zb=>?_)))))))))))
 ·exfalso;omega
 refine ak (aq (ar (Z0 2 (Zm (Xp.le (Om hN) (li (by rfl))) (Z0 1 (Zm (Xp.le (Jv 0 hN []) (li (by rfl))) (ia ((0-0)) ((0)-(0)) (ia ((m:Int)) (((m:Int))-((0-0))) (Z0 1 (ie (ar (Z0 2 (ie (ZG ((m:Int)>0) (fun Zf=>?_) (fun Zf=>?_)))))))))))))))
 ·exact az (Z0 2 (Zm (Xp.le (Om hN) (li (by rfl))) (Zm (Al 0 hN [] 0) (Z0 1 (iZ m fun v1=>Z0 1 (Zm (Xp.le (Jv 1 hN []) (li (by rfl))) (Zm (Al 0 v1 (List.replicate m 0) 0) (Z0 1 (ie (ar (Z0 2 (ie (Df (AZ 0 0 v1 (List.replicate m 0)) (Za (r1 [0] ⟨(v1.cut 0),rfl,rfl⟩ (eq:=(rv (xs:=((List.replicate m 0).take 0)) ob rz)))))))))))))))))
 exact ak (ar (Z0 2 (ie (Za (r1 [0] ⟨hN,rfl,rfl⟩)))))
theorem Z6o (xss:List LI) (hl_xss:xss.length<=4294967296:=by exact ob) (hf:xss.flatten.length<=4294967296:=by exact ob):Zk 166 [UL xss] [] (fun r h=>∃(v:Value),r=ZJ xss.flatten v/\h=[.tail v 1]):=by
 have hft:=Lo xss
 refine ZE 36 Tryz.func166 (ar (Z0 1 (ie (ar (Z0 1 (ie (aq (ar (Z0 1 (iw (DA xss) (Z0 1 (ie (ab 0 (al (fun m F h=>∃(k:Nat) (q:Nat),(k<=xss.length)/\(q=(xss.take k).flatten.length)/\F=[(0,UL xss),(3,.i q),(9,UL xss),(10,.i xss.length),(11,.i k)]/\h=[]/\m=xss.length-k) _ _ _ ⟨0,0,ob,(by simp),rfl,rfl,rfl⟩ (wk [] (fr (Y2 (fw (Y2 fl))))) ?_))))))))))))))
 rintro m F h ⟨k,q,Ya,Zl,rfl,rfl,rfl⟩
 refine ar (Z0 1 (ie (aq (ZG ((k:Int)<(xss.length:Int)) (fun Zb=>?_) (fun Zb=>?_)))))
 ·refine ak (aq (ab 1 (ar ?_)))
  obtain ⟨x1,Z3⟩:=Zr xss k om
  refine Zm (Zh none (k:Int) 1 (Dz Z3)) (Z0 2 (ie (ar (Z0 2 (iw (Y5 x1) (ia (((q+x1.length:Nat):Int)) (((q:Int))+((x1.length:Int))) (hb:=(by have:=Ln Z3;omega)) (Z0 1 (ie (ar (Z0 2 (ie (ZG (((q+x1.length:Nat):Int)<0) (fun Zf=>?_) (fun Zf=>?_)))))))))))))
  ·exfalso;omega
  refine ak (az (ZD k (Z0 1 (ie ?_))))
  have hdr:=Y4 Z3
  exact ZI ⟨k+1,q+x1.length,ob,(by rw [G7 Z3,Ym,Zl]),rfl,rfl,rfl⟩ (wk [] (fr (fc (x:=.i (q+x1.length:Nat)) li (fw (ZM k fl)))))
 refine ax 0 (ar (Z0 1 (ic [] (Z6p q (hm:=(by have:=hft k;omega))) ?_)))
 rintro _ _ ⟨v1,rfl,rfl⟩
 refine Z0 1 (ie (aq (ar (Z0 1 (iw (DA xss) (Z0 1 (ie (ab 2 (al (fun m F h=>∃(j:Nat) (v:Hd),(j<=xss.length)/\F=[(6,.h v),(25,UL xss),(26,.i xss.length),(27,.i j)]/\h=[rV v ((xss.take j).flatten)]/\m=xss.length-j) _ _ _ ⟨0,v1,ob,rfl,rfl,rfl⟩ (wk [0] (fw (fr (Y2 fl))) (e:=(rv (xs:=[]) ob rz))) ?_)))))))))
 rintro m F h ⟨j,v,VQ,rfl,rfl,rfl⟩
 refine ar (Z0 1 (ie (aq (ZG ((j:Int)<(xss.length:Int)) (fun ZB=>?_) (fun ZB=>?_)))))
 ·refine ak (aq (ab 3 (ar ?_)))
  obtain ⟨x2,Zs⟩:=Zr xss j om
  refine Zm (Zh none (j:Int) 1 (Dz Zs)) (Z0 2 (ie (az (Z0 2 (KI 0 v ((xss.take j).flatten) x2 none (hbound:=(by have:=Ln Zs;omega)) fun v2=>Z0 1 (ie (az (ZD j (Z0 1 (ie ?_))))))))))
  have hdr:=Y4 Zs
  exact ZI ⟨j+1,v2,ob,rfl,rfl,rfl⟩ (wk [0] (fw (fr (ZM j fl))) (e:=(rv (xs:=((xss.take j).flatten++x2)) (G7 Zs).symm rz)))
 exact ax 2 (ar (Z0 2 (ie (Dd 2 0 (v:=v) (xs:=(xss.take j).flatten) (Za (r2 [0] [ZJ ((xss.take j).flatten) v.v] ⟨v.v,rfl,rfl⟩ (Zc.slh _ (Yj Z7 (by rw [Va om])))))))))
theorem DW (ds:List Ze) (t:Int) (hl_ds:ds.length<=4294967296:=by exact ob):Zk 91 [Zy ds,.i t] [] (fun r h=>r=.b (decide (0<=t/\t<=ds.length))/\h=[]):=by
 refine ZE 13 Tryz.func91 (ar (Z0 1 (ie (ar (XH 8 [(12,.b ((decide (t>=0))&&(decide (t<=(ds.length:Int)))))] [] ?_ (fun hj1=>?_))))))
 ·exact Z0 1 (ie (Za (ZX (.b ((decide (t>=0))&&(decide (t<=(ds.length:Int))))) (lb (by rw [X7];simp)))))
 refine Z0 3 (ib (b:=(decide (t>=0))) 7 (fun Zd=>?_) (fun Zd=>?_))
 ·exact Z0 2 (iw (VR ds) (Z0 2 (Yz (wk [] (Zu (decide (t<=(ds.length:Int))) Zd fl)) hj1)))
 exact Z0 5 (Yz (wk [] (Zu false Zd fl)) hj1)
theorem M5 (ds:List Ze) (xs:LI) (hl_ds:ds.length<=4294967296:=by exact ob) (hl_xs:xs.length<=4294967296:=by exact ob):Zk 55 [Zy ds,Z2 xs] [] (Yk (.b (XO ds.length xs))):=by
 refine ZE 18 Tryz.func55 (ar (Z0 1 (ie (aq (ar (Z0 1 (iw (Y5 xs) (Z0 1 (ie (ab 0 (al (fun m F h=>∃(k:Nat),(k<=xs.length)/\(XO ds.length (xs.drop k)=XO ds.length xs)/\F=[(0,Zy ds),(7,Z2 xs),(8,.i xs.length),(9,.i k)]/\h=[]/\m=xs.length-k) _ _ _ ⟨0,ob,ob,rfl,rfl,rfl⟩ (wk [] (fw (fr (Y2 fl)))) ?_)))))))))))
 rintro m F h ⟨k,Ya,Zl,rfl,rfl,rfl⟩
 refine ar (Z0 1 (ie (aq (ZG ((k:Int)<(xs.length:Int)) (fun Zb=>?_) (fun Zb=>?_)))))
 ·refine ak (aq (ab 1 (ar ?_)))
  obtain ⟨x1,Z3⟩:=Zr xs k om
  refine Zm (Zh none (k:Int) 1 (ZW Z3)) (Z0 2 (ie (ar (Z0 2 (Zw [] (DW ds x1) (Z0 1 (ie (ac (!(decide (0<=x1/\x1<=ds.length))) (p:=¬(0<=x1/\x1<=ds.length)) (YI dq) (fun Zf=>?_) (fun Zf=>?_)))))))))
  ·refine ar (Z0 1 (ie ?_))
   rw [Y4 Z3] at Zl
   exact Za (ZX (.b false) (lb (by clear Z3;first|rfl|omega|grind [XO])))
  refine ak (az (ZD k (Z0 1 (ie ?_))))
  have hdr:=Y4 Z3
  exact ZI ⟨k+1,ob,(by rw [hdr] at Zl;clear hdr Z3;grind [XO]),rfl,rfl,rfl⟩ (wk [] (fw (fr (ZM k fl))))
 refine ax 0 (ar (Z0 1 (ie ?_)))
 try rw [X8 (xs:=xs) (k:=k) om] at Zl
 exact Za (ZX (.b true) (lb (by first|rfl|omega|grind [XO])))
theorem Z2a (ds:List Ze) (hd:Wd ds:=by exact ob):Zk 211 [Zy ds] [] (Yk (.i (Yw ds:Nat))):=by
 have hdl:=hd.len
 refine ZE 19 Tryz.func211 (ar (Z0 1 (ie (ar (Z0 1 (ie (aq (ar (Z0 1 (iw (VR ds) (Z0 1 (ie (ab 0 (al (fun m F h=>∃(k:Nat),(k<=ds.length)/\F=[(3,.i ((Yw (ds.take k):Nat):Int)),(6,Zy ds),(7,.i ds.length),(8,.i k)]/\h=[]/\m=ds.length-k) _ _ _ ⟨0,ob,rfl,rfl,rfl⟩ (wk [] (Y2 (fw (Y2 fl)))) ?_))))))))))))))
 rintro m F h ⟨k,Ya,rfl,rfl,rfl⟩
 refine ar (Z0 1 (ie (aq (ZG ((k:Int)<(ds.length:Int)) (fun Zb=>?_) (fun Zb=>?_)))))
 ·refine ak (aq (ab 1 (ar ?_)))
  obtain ⟨x1,Z3⟩:=Zr ds k om
  refine Zm (Zh none (k:Int) 3 (Ve Z3)) (Z0 1 (iA [.i 0,.i 0,nl] fun b1=>ZA 0 b1 (Wm x1) (ie (az (Z5 3 [0] (iw (Ud x1.cons) (ia (((Yw (ds.take k)+x1.cons.length:Nat):Int)) ((((Yw (ds.take k):Nat):Int))+((x1.cons.length:Int))) (hb:=(by have h1:=hd.cons_at Z3;have h2:=(hd.take k).sum;omega)) (Z0 1 (ie (az (ZD k (Z0 1 (ie ?_)))))))))))))
  have hdr:=Y4 Z3
  exact ZI ⟨k+1,ob,rfl,rfl,rfl⟩ (wk [] (fc (x:=.i ((Yw (ds.take k)+x1.cons.length:Nat):Int)) (li (by rw [Wv Z3,C6];simp [Yw])) (fw (ZM k fl))))
 exact ax 0 (ar (Z0 2 (ie (Za (ZX (.i ((Yw (ds.take k):Nat):Int)) (li (by rw [Va om])))))))
theorem M6 (ds:List Ze) (c:Int) (hd:Wd ds:=by exact ob) (hc:-9223372036854775808<=c/\c<=9223372036854775807:=by exact ob):Zk 169 [Zy ds,.i c] [] (Yk (.tup [.i (XJ ds c),.agg [Z2 (ZU ds c)]])):=by
 have hdl:=hd.len
 refine ZE 38 Tryz.func169 (ar (Z0 1 (iA [nl] fun b1=>?_)))
 refine ie (aq (ar (Z0 1 (iw (VR ds) (Z0 1 (ie (ab 0 (al (fun m F h=>∃(k:Nat) (cv:Int),(k<=ds.length)/\(JE c (Yw (ds.take k)) cv)/\(Ul c (ds.drop k) k (Yw (ds.take k))=Ul c ds 0 0)/\F=[(1,.i cv),(5,.p b1 0),(8,Zy ds),(9,.i ds.length),(10,.i k)]/\h=[.obj b1 [nl]]/\m=ds.length-k) _ _ _ ⟨0,c,ob,(.inl (by simp [Yw])),rfl,rfl,rfl,rfl⟩ (wk [0] (fq (Y2 fl))) ?_))))))))
 rintro m F h ⟨k,cv,Ya,Zl,Zv,rfl,rfl,rfl⟩
 refine ar (Z0 1 (ie (aq (ZG ((k:Int)<(ds.length:Int)) (fun Zb=>?_) (fun Zb=>?_)))))
 ·refine ak (aq (ab 1 (ar (Z0 1 ?_))))
  obtain ⟨x1,Z3⟩:=Zr ds k om
  refine Zm (Zh none (k:Int) 3 (Ve Z3)) (Z0 1 (iA [.i 0,.i 0,nl] fun b2=>Z0 1 (ZA 0 b2 (Wm x1) (ie (aq (ar (Xa [(1,.i cv),(5,.p b1 0),(6,.i k),(7,.p b2 0),(8,Zy ds),(9,.i ds.length),(10,.i k),(23,.b ((decide (cv>=0))&&(decide (cv<(x1.cons.length:Int)))))] [.obj b2 (Wm x1),.obj b1 [nl]] ?_ ?_)))))))
  ·refine Z0 3 (ib (b:=(decide (cv>=0))) 17 (fun Zd=>?_) (fun Zd=>?_))
   ·exact Z5 3 [0] (iw (Ud x1.cons) (Z0 2 (ie (wk [0,0] (fq (fw (fr (Zu (decide (cv<(x1.cons.length:Int))) Zd fl))))))))
   exact Z0 6 (ie (wk [0,0] (fq (fw (fr (Zu false Zd fl))))))
  refine ac ((decide (cv>=0))&&(decide (cv<(x1.cons.length:Int)))) (p:=(cv>=0)/\(cv<(x1.cons.length:Int))) (YB dq dq) (fun Zf=>?_) (fun Zf=>?_)
  ·refine aD 9 (Zj 8 9 [0] (da 1 (((k+1:Nat):Int)) (((k:Int))+(1)) (ZF 4 7 [2,3,4] [0] ?_)))
   obtain ⟨x2,Zs⟩:=Zr x1.cons cv.toNat om
   refine dx 5 (Zh none cv 1 (Bh Zs)) (Zj 1 3 [6,7] (Z8 8 (Yv 8 1 [] [] b1 (GK x2) (de ?_))))
   have hz:=(hd.take k).sum
   have h3:=hd.cons_at Z3
   have hH:=Zv.symm.trans (Rb Z3 Zl om h3 hc.1 Zf Zs)
   exact Za (r3 [] [.i (k+1:Nat),BZ x2] [0] [(b1,b1)] ⟨rfl,rfl⟩ (Zc.tup (.cons (li (by rw [XJ,hH];omega)) (.cons (Zc.agg (.cons (Zc.sl _ (Yj Z7 (by rw [ZU,hH]))) .nil)) .nil))))
  refine ak (az (Z5 3 [0] (iw (Ud x1.cons) (iW ((cv)-((x1.cons.length:Int))) (Z0 1 (ie (az (ZD k (Z0 1 (ie ?_))))))))))
  have hdr:=Y4 Z3
  exact ZI ⟨k+1,(B1 ((cv)-((x1.cons.length:Int)))),ob,(by have hz:=(hd.take k).sum;have h3:=hd.cons_at Z3;rw [Wv Z3,C6];simpa [Yw] using Py Zl om h3 hc),(R9 Z3 Zl Zf Zv),rfl,rfl,rfl⟩ (wk [1] (fq (ZM k fl)))
 refine ax 0 (ar (Z0 2 (ZA 0 b1 [nl] (ie ?_))))
 have hH:Ul c ds 0 0=(-1,[]):=by rw [<-Zv,X8 om];rfl
 exact Za (r3 [] [.i (-1),.agg [nl]] [0] [(b1,b1)] ⟨rfl,rfl⟩ (Zc.tup (.cons (li (by rw [XJ,hH])) (.cons (Zc.agg (.cons (Zc.sl _ (by rw [ZU,hH];rfl)) .nil)) .nil))))
theorem Z2e (ds:List Ze) (c:Int) (hd:Wd ds:=by exact ob) (hc:-9223372036854775808<=c/\c<=9223372036854775807:=by exact ob):Zk 168 [Zy ds,.i c] [] (Yk (Z2 (ZU ds c))):=by
 exact ZE 15 Tryz.func168 (ar (Z0 1 (ie (ar (Z0 2 (Zw [] (M6 ds c) (Z0 3 (iA [nl] fun b1=>Z0 1 (ZA 0 b1 [Z2 (ZU ds c)] (ie (ar (Z5 3 [0] (ie (Za (HD)))))))))))))))
theorem Z2b (ds:List Ze) (t:Int) (hd:Wd ds:=by exact ob):Zk 167 [Zy ds,.i t] [] (Yk (Z2 (ZQ ds t))):=by
 have hdl:=hd.len
 refine ZE 39 Tryz.func167 (ar (Z0 1 (ie (aq (ar (Xa [(0,Zy ds),(1,.i t),(15,.b ((decide (t<1))||(decide (t>(ds.length:Int)))))] [] ?_ ?_))))))
 ·refine Z0 3 (ib (b:=(decide (t<1))) 10 (fun Zd=>?_) (fun Zd=>?_))
  ·exact Z0 5 (ie (wk [] (fw (Zu true Zd fl))))
  exact Z0 2 (iw (VR ds) (Z0 2 (ie (wk [] (fw (Zu (decide (t>(ds.length:Int))) Zd fl))))))
 refine ac ((decide (t<1))||(decide (t>(ds.length:Int)))) (p:=(t<1)∨(t>(ds.length:Int))) (Ys dq dq) (fun Zb=>?_) (fun Zb=>?_)
 ·exact ar (Z0 1 (ie (Za (ZX (nl) (Zc.sl _ (by rw [ZQ,Z9 om];rfl))))))
 have hti:1<=t/\t<=ds.length:=by omega
 obtain ⟨d,hd1⟩:=Zr ds ((t-1).toNat) om
 have hdc:=hd.cons_at hd1
 have hsm:=(hd.take (t-1).toNat).sum
 refine ak (ar (Z0 2 (ia ((((t-1).toNat:Nat):Int)) ((t)-(1)) (Zm (Qs (es:=YR ds) (hv:=none) (l:=0) (m:=(((t-1).toNat:Nat):Int)) (sz:=3) (es':=YR (ds.take ((t-1).toNat))) kr om (by simp<;>omega) (by simp<;>omega) (K5 _) (by first|(simp only [V1,WF,Bj,Bi];done)|(simp only [V1,WF,Bj,Bi];rfl)|(simp [Bj,Bi];done))) (Zw [] (Z2a (ds.take ((t-1).toNat)) (hd:=(hd.take _))) (Z0 1 (ie (ar (Z0 1 (ie (aq (ar (Z0 2 (ia ((((t-1).toNat:Nat):Int)) ((t)-(1)) (Zm (Zh none (((t-1).toNat:Nat):Int) 3 (Ve hd1)) (Z0 2 (iw (Ud d.cons) (Z0 1 (ie (ab 0 (De 1 (al (fun m F h=>∃(k:Nat) (v:Value),(k<=d.cons.length)/\F=[(5,.i ((Yw (ds.take ((t-1).toNat)):Nat):Int)),(6,ZJ (WW (Yw (ds.take (t-1).toNat)) k) v),(27,.i d.cons.length),(28,.i k)]/\h=[.tail v 1]/\m=d.cons.length-k) _ _ _ ⟨0,(.slice none 0 0),ob,rfl,rfl,rfl⟩ (wk [0] (fr (fc (x:=nl) (Zc.slh _ rfl) (fr (Y2 fl))))) ?_))))))))))))))))))))))
 rintro m F h ⟨k,v,Ya,rfl,rfl,rfl⟩
 refine ar (Z0 1 (ie (aq (ZG ((k:Int)<(d.cons.length:Int)) (fun Zf=>?_) (fun Zf=>?_)))))
 ·exact ak (aq (ab 1 (ar (Z0 2 (ie (az (Z0 3 (ia ((((Yw (ds.take ((t-1).toNat)))+k:Nat):Int)) ((((Yw (ds.take ((t-1).toNat)):Nat):Int))+((k:Int))) (iL (Z7 [(((Yw (ds.take ((t-1).toNat)))+k:Nat):Int)]) 1 1 fun v1=>ZP 0 [(35,Z2 [(((Yw (ds.take ((t-1).toNat)))+k:Nat):Int)])] (ip 1 (Z7 (WW (Yw (ds.take (t-1).toNat)) k++[(((Yw (ds.take ((t-1).toNat)))+k:Nat):Int)])) (Z7 (WW (Yw (ds.take (t-1).toNat)) k)) (Z7 [(((Yw (ds.take ((t-1).toNat)))+k:Nat):Int)]) v none 1 (Yq _) (Yq _) (XL _) (by simp;omega) (by simp [XK,Z7]) fun v2=>Z0 1 (ie (az (ZD k (Z0 1 (ie (ZI ⟨k+1,v2,ob,rfl,rfl,rfl⟩ (wk [0] (fr (fc (x:=ZJ (WW (Yw (ds.take (t-1).toNat)) k++[(((Yw (ds.take ((t-1).toNat)))+k:Nat):Int)]) v2) (Zc.slh _ (Yj Z7 (MR _ _).symm)) (fr (ZM k fl)))))))))))))))))))))
 exact ax 0 (ar (Z0 2 (ie (Za (ZX (ZJ (WW (Yw (ds.take (t-1).toNat)) k) v) (Zc.sl _ (Yj Z7 (by rw [ZQ,Zg hti,hd1,show k=d.cons.length by omega];rfl))))))))
theorem DV (ds:List Ze) (t:Int) (hd:Wd ds:=by exact ob):Zk 129 [Zy ds,.i t] [] (Yk (.tup [Au (Vb ds t),.b (Xu ds t)])):=by
 have hdl:=hd.len
 refine ZE 30 Tryz.func129 (ar (iA [.i 0,.i 0,nl] fun b1=>Z0 1 (ie (aq (ar (XH 8 [(0,Zy ds),(1,.i t),(4,.p b1 0),(13,.b ((decide (t<1))||(decide (t>(ds.length:Int)))))] [.obj b1 [.i 0,.i 0,nl]] ?_ (fun hj1=>?_)))))))
 ·refine Z0 1 (ib (b:=((decide (t<1))||(decide (t>(ds.length:Int))))) 14 (fun Zd=>?_) (fun Zd=>?_))
  ·have Y1:(t<1)∨(t>(ds.length:Int)):=((Ys dq dq)).1 Zd
   refine Z0 9 (ie (WJ (ar (Z0 1 (ZA 0 b1 [.i 0,.i 0,nl] (Z0 1 (ie ?_)))))))
   have hA:Xu ds t=false:=(Gv om).symm
   have hD:Vb ds t=⟨0,0,[]⟩:=by rw [Vb,hA];rfl
   exact Za (r3 [] [.agg [.i 0,.i 0,nl],.b false] [0] [(b1,b1)] ⟨rfl,rfl⟩ (Zc.tup (.cons (Zc.agg (.cons (li (by rw [hD])) (.cons (li (by rw [hD])) (.cons (Zc.sl _ (by rw [hD];rfl)) .nil)))) (.cons (lb (by rw [hA])) .nil))))
  have Yi:¬((t<1)∨(t>(ds.length:Int))):=Yg (Ys dq dq) Zd
  refine Z0 2 (ia ((t-1)) ((t)-(1)) ?_)
  obtain ⟨x1,Z3⟩:=Zr ds ((t-1).toNat) om
  refine Zm (Zh none (t-1) 3 (Ve Z3)) (Z0 2 (iw (Ud x1.cons) (Z0 2 (ie (ZG ((x1.cons.length:Int)>0) (fun Zb=>?_) (fun Zb=>?_))))))
  ·refine ar (Z0 1 (ZA 0 b1 [.i 0,.i 0,nl] (Z0 1 (ie ?_))))
   have hA:Xu ds t=false:=(DZ om Z3).symm.trans (beq_eq_false_iff_ne.2 om)
   have hD:Vb ds t=⟨0,0,[]⟩:=by rw [Vb,hA];rfl
   exact Za (r3 [] [.agg [.i 0,.i 0,nl],.b false] [0] [(b1,b1)] ⟨rfl,rfl⟩ (Zc.tup (.cons (Zc.agg (.cons (li (by rw [hD])) (.cons (li (by rw [hD])) (.cons (Zc.sl _ (by rw [hD];rfl)) .nil)))) (.cons (lb (by rw [hA])) .nil))))
  refine ak (ar (Z0 2 (ia ((t-1)) ((t)-(1)) (Zm (Zh none (t-1) 3 (Ve Z3)) (Z0 1 (ZA 0 b1 (Wm x1) (Z0 1 (ie ?_))))))))
  have hA:Xu ds t=true:=(DZ om Z3).symm.trans (Zp.2 om)
  have hD:Vb ds t=x1:=by rw [Vb,hA,Z3];rfl
  exact Za (r3 [] [Au x1,.b true] [0] [(b1,b1)] ⟨rfl,rfl⟩ (Zc.tup (.cons (Zc.agg (.cons (li (by rw [hD])) (.cons (li (by rw [hD])) (.cons (Zc.sl _ (Yj Wq (by rw [hD]))) .nil)))) (.cons (lb (by rw [hA])) .nil))))
 refine Z0 3 (ib (b:=(decide (t<1))) 8 (fun ZL=>?_) (fun ZL=>?_))
 ·have YM:t<1:=(dq).1 ZL
  exact Z0 5 (Yz (wk [0] (fw (fr (Zu true ZL fl)))) hj1)
 have YW:¬(t<1):=Yg dq ZL
 exact Z0 2 (iw (VR ds) (Z0 2 (Yz (wk [0] (fw (fr (Zu (decide (t>(ds.length:Int))) ZL fl)))) hj1)))
theorem Z26 (ds:List Ze) (frm:Int) (to_:Int) (hl_ds:ds.length<=4294967296:=by exact ob):Zk 171 [Zy ds,.i frm,.i to_] [] (Yk (.i (VF ds frm to_))):=by
 refine ZE 35 Tryz.func171 (ar (Z0 1 (ie (aq (ar (Z0 1 (iw (VR ds) (Z0 1 (ie (ab 0 (al (fun m F h=>∃(k:Nat),(k<=ds.length)/\(Qf frm to_ (ds.drop k) k=VF ds frm to_)/\F=[(1,.i frm),(2,.i to_),(9,Zy ds),(10,.i ds.length),(11,.i k)]/\h=[]/\m=ds.length-k) _ _ _ ⟨0,ob,rfl,rfl,rfl,rfl⟩ (wk [] (fq (Y2 fl))) ?_)))))))))))
 rintro m F h ⟨k,Ya,Zl,rfl,rfl,rfl⟩
 refine ar (Z0 1 (ie (aq (ZG ((k:Int)<(ds.length:Int)) (fun Zb=>?_) (fun Zb=>?_)))))
 ·refine ak (aq (ab 1 (ar (Z0 1 ?_))))
  obtain ⟨x1,Z3⟩:=Zr ds k om
  refine Zm (Zh none (k:Int) 3 (Ve Z3)) (Z0 1 (iA [.i 0,.i 0,nl] fun b1=>Z0 1 (ZA 0 b1 (Wm x1) (ie (ar (Z5 2 [0] (iw (Ud x1.cons) (XH 10 [(1,.i frm),(2,.i to_),(7,.i k),(8,.p b1 0),(9,Zy ds),(10,.i ds.length),(11,.i k),(25,.b (((x1.cons.length:Int)==0)&&(x1.frm==frm)))] [.obj b1 (Wm x1)] ?_ (fun hj1=>?_)))))))))
  ·refine Xa [(1,.i frm),(2,.i to_),(7,.i k),(9,Zy ds),(10,.i ds.length),(11,.i k),(31,.b ((((x1.cons.length:Int)==0)&&(x1.frm==frm))&&(x1.to_==to_)))] [.obj b1 (Wm x1)] ?_ ?_
   ·refine Z0 1 (ib (b:=(((x1.cons.length:Int)==0)&&(x1.frm==frm))) 26 (fun Zd=>?_) (fun Zd=>?_))
    ·exact Z5 5 [0] (ie (wk [0] (fq (fw (Zu (x1.to_==to_) Zd fl)))))
    exact Z0 5 (ie (wk [0] (fq (fw (Zu false Zd fl)))))
   refine ac ((((x1.cons.length:Int)==0)&&(x1.frm==frm))&&(x1.to_==to_)) (p:=(((x1.cons.length:Int)=0)/\(x1.frm=frm))/\(x1.to_=to_)) (YB (YB Zp Zp) Zp) (fun Zf=>?_) (fun Zf=>?_)
   ·refine ar (Z0 1 (ZD k (Z0 1 (ie ?_))))
    rw [Y4 Z3] at Zl
    exact Za (ZX (.i (k+1:Nat)) (li (by clear Z3;first|rfl|omega|grind [Qf])))
   refine ak (az (ZD k (Z0 1 (ie ?_))))
   have hdr:=Y4 Z3
   exact ZI ⟨k+1,ob,(by rw [hdr] at Zl;clear hdr Z3;grind [Qf]),rfl,rfl,rfl⟩ (wk [] (fq (ZM k fl)))
  refine Z0 2 (ib (b:=((x1.cons.length:Int)==0)) 20 (fun ZL=>?_) (fun ZL=>?_))
  ·exact Z5 5 [0] (Yz (wk [0] (fq (fw (fr (Zu (x1.frm==frm) ZL fl))))) hj1)
  exact Z0 5 (Yz (wk [0] (fq (fw (fr (Zu false ZL fl))))) hj1)
 refine ax 0 (ar (Z0 1 (ie ?_)))
 try rw [X8 (xs:=ds) (k:=k) om] at Zl
 exact Za (ZX (.i (-1)) (li (by first|rfl|omega|grind [Qf])))
theorem Z25 (ds:List Ze) (hz:KY ds:=by exact ob):Zk 128 [Zy ds] [] (Yk (.b (Wo ds))):=by
 have hzl:=hz.len
 refine ZE 106 Tryz.func128 (ar (Z0 1 (ie (aq (ar (Z0 1 (iw (VR ds) (Z0 1 (ie (ZG ((ds.length:Int)>4) (fun Zb=>?_) (fun Zb=>?_)))))))))))
 ·exact ar (Z0 1 (ie (Za (ZX (.b false) (lb (by rw [Wo,decide_eq_false om];rfl))))))
 refine ak (aq (ar (Z0 1 (iw (VR ds) (Z0 1 (ie (ab 0 (al (fun m F h=>∃(k:Nat),(k<=ds.length)/\(Um ds (ds.drop k) k=Um ds ds 0)/\F=[(0,Zy ds),(12,Zy ds),(13,.i ds.length),(14,.i k)]/\h=[]/\m=ds.length-k) _ _ _ ⟨0,ob,rfl,rfl,rfl,rfl⟩ (wk [] (fw (fr (Y2 fl)))) ?_))))))))
 rintro m F h ⟨k,Ya,Zl,rfl,rfl,rfl⟩
 refine ar (Z0 1 (ie (aq (ZG ((k:Int)<(ds.length:Int)) (fun Zf=>?_) (fun Zf=>?_)))))
 ·refine ak (aq (ab 1 (ar (Z0 1 ?_))))
  obtain ⟨x1,Z3⟩:=Zr ds k om
  have hz1:=hz.cons_at Z3
  refine Zm (Zh none (k:Int) 3 (Ve Z3)) (Z0 1 (iA [.i 0,.i 0,nl] fun b1=>Z0 1 (ZA 0 b1 (Wm x1) (ie (aq (ar (Z5 3 [0] (Zw [] (DW ds x1.frm) (XH 12 [(0,Zy ds),(3,.i k),(4,.p b1 0),(12,Zy ds),(13,.i ds.length),(14,.i k),(30,.b ((!(decide (0<=x1.frm/\x1.frm<=ds.length)))||(!(decide (0<=x1.to_/\x1.to_<=ds.length)))))] [.obj b1 (Wm x1)] ?_ (fun hj1=>?_))))))))))
  ·refine XH 18 [(0,Zy ds),(3,.i k),(4,.p b1 0),(12,Zy ds),(13,.i ds.length),(14,.i k),(36,.b (((!(decide (0<=x1.frm/\x1.frm<=ds.length)))||(!(decide (0<=x1.to_/\x1.to_<=ds.length))))||(decide ((x1.cons.length:Int)>3))))] [.obj b1 (Wm x1)] ?_ (fun hj2=>?_)
   ·refine Xa [(0,Zy ds),(3,.i k),(4,.p b1 0),(12,Zy ds),(13,.i ds.length),(14,.i k),(52,.b ((((!(decide (0<=x1.frm/\x1.frm<=ds.length)))||(!(decide (0<=x1.to_/\x1.to_<=ds.length))))||(decide ((x1.cons.length:Int)>3)))||((decide ((x1.cons.length:Int)>0))&&((x1.frm != 0)||(x1.to_ != 0)))))] [.obj b1 (Wm x1)] ?_ ?_
    ·refine Z0 1 (ib (b:=(((!(decide (0<=x1.frm/\x1.frm<=ds.length)))||(!(decide (0<=x1.to_/\x1.to_<=ds.length))))||(decide ((x1.cons.length:Int)>3)))) 37 (fun Zd=>?_) (fun Zd=>?_))
     ·have Y1:((¬(0<=x1.frm/\x1.frm<=ds.length))∨(¬(0<=x1.to_/\x1.to_<=ds.length)))∨((x1.cons.length:Int)>3):=((Ys (Ys (YI dq) (YI dq)) dq)).1 Zd
      exact Z0 15 (ie (wk [0] (fq (fw (Zu true Zd fl)))))
     have Yi:¬(((¬(0<=x1.frm/\x1.frm<=ds.length))∨(¬(0<=x1.to_/\x1.to_<=ds.length)))∨((x1.cons.length:Int)>3)):=Yg (Ys (Ys (YI dq) (YI dq)) dq) Zd
     refine Z5 2 [0] (iw (Ud x1.cons) (Z0 2 (ib (b:=(decide ((x1.cons.length:Int)>0))) 42 (fun ZL=>?_) (fun ZL=>?_))))
     ·have YM:(x1.cons.length:Int)>0:=(dq).1 ZL
      refine Z5 4 [0] (ib (b:=(x1.frm != 0)) 46 (fun YF=>?_) (fun YF=>?_))
      ·have YW:x1.frm≠0:=(Yp).1 YF
       exact Z0 6 (ie (wk [0] (fq (fw (Zu true (And.intro Zd (And.intro ZL YF)) fl)))))
      have X5:¬(x1.frm≠0):=Yg Yp YF
      exact Z5 6 [0] (ie (wk [0] (fq (fw (Zu (x1.to_ != 0) (And.intro Zd (And.intro ZL YF)) fl)))))
     have XQ:¬((x1.cons.length:Int)>0):=Yg dq ZL
     exact Z0 10 (ie (wk [0] (fq (fw (Zu false (And.intro Zd ZL) fl)))))
    refine ac ((((!(decide (0<=x1.frm/\x1.frm<=ds.length)))||(!(decide (0<=x1.to_/\x1.to_<=ds.length))))||(decide ((x1.cons.length:Int)>3)))||((decide ((x1.cons.length:Int)>0))&&((x1.frm != 0)||(x1.to_ != 0)))) (p:=(((¬(0<=x1.frm/\x1.frm<=ds.length))∨(¬(0<=x1.to_/\x1.to_<=ds.length)))∨((x1.cons.length:Int)>3))∨(((x1.cons.length:Int)>0)/\((x1.frm≠0)∨(x1.to_≠0)))) (Ys (Ys (Ys (YI dq) (YI dq)) dq) (YB dq (Ys Yp Yp))) (fun ZB=>?_) (fun ZB=>?_)
    ·exact ar (Z0 1 (ie (Za (ZX (.b false) (lb (HJ Z3 (RG ZB) Zl))))))
    refine ak (aq (ar (Z5 2 [0] (iw (Ud x1.cons) (Z0 1 (ie (ab 2 (al (fun m F h=>∃(q:Nat),(q<=x1.cons.length)/\(UQ ds.length (x1.cons.drop q)=UQ ds.length x1.cons)/\F=[(0,Zy ds),(3,.i k),(4,.p b1 0),(12,Zy ds),(13,.i ds.length),(14,.i k),(54,TZ x1.cons),(55,.i x1.cons.length),(56,.i q)]/\h=[.obj b1 (Wm x1)]/\m=x1.cons.length-q) _ _ _ ⟨0,ob,rfl,rfl,rfl,rfl⟩ (wk [0] (fq (fq (Y2 fl)))) ?_))))))))
    rintro m F h ⟨q,VQ,XA,rfl,rfl,rfl⟩
    refine ar (Z0 1 (ie (aq (ZG ((q:Int)<(x1.cons.length:Int)) (fun Yc=>?_) (fun Yc=>?_)))))
    ·refine ak (aq (ab 3 (ar ?_)))
     obtain ⟨x2,Zs⟩:=Zr x1.cons q om
     refine Zm (Zh none (q:Int) 1 (Bh Zs)) (Z0 1 (iA [nl] fun b2=>ZA 0 b2 (GK x2) (ie (ar (Z5 2 [0] (iw (Y5 x2.fields) (Xa [(0,Zy ds),(3,.i k),(4,.p b1 0),(12,Zy ds),(13,.i ds.length),(14,.i k),(54,TZ x1.cons),(55,.i x1.cons.length),(56,.i q),(70,.b ((decide ((x2.fields.length:Int)>3))||(!XO ds.length x2.fields)))] [.obj b2 (GK x2),.obj b1 (Wm x1)] ?_ ?_)))))))
     ·refine Z0 2 (ib (b:=(decide ((x2.fields.length:Int)>3))) 64 (fun Xd=>?_) (fun Xd=>?_))
      ·have Wr:(x2.fields.length:Int)>3:=(dq).1 Xd
       exact Z0 6 (ie (wk [0,0] (fq (fq (fr (Zu true Xd fl))))))
      have V6:¬((x2.fields.length:Int)>3):=Yg dq Xd
      exact Z5 3 [0] (Zw [] (M5 ds x2.fields) (Z0 2 (ie (wk [0,0] (fq (fq (fr (Zu (!XO ds.length x2.fields) Xd fl))))))))
     refine ac ((decide ((x2.fields.length:Int)>3))||(!XO ds.length x2.fields)) (p:=((x2.fields.length:Int)>3)∨(¬(XO ds.length x2.fields=true))) (Ys dq (YI Iff.rfl)) (fun X1=>?_) (fun X1=>?_)
     ·exact ar (Z0 1 (ie (Za (ZX (.b false) (lb (HJ Z3 (RH om (by rw [<-XA,Y4 Zs,UQ,Z9 (by rw [Rc X1];simp)])) Zl))))))
     refine ak (az (ZD q (Z0 1 (ie ?_))))
     have hdr:=Y4 Zs
     exact ZI ⟨q+1,ob,(by rw [Y4 Zs,UQ,Zg (Rd X1)] at XA;exact XA),rfl,rfl,rfl⟩ (wk [1] (fq (fq (ZM q fl))))
    have hC:UQ ds.length x1.cons=true:=by rw [<-XA,X8 om];rfl
    refine ax 2 (ar (Z0 2 (Zm (Qs (es:=YR ds) (hv:=none) (l:=0) (m:=(k:Int)) (sz:=3) (es':=YR (ds.take k)) kr om (by simp<;>omega) (by simp<;>omega) (K5 _) (by first|(simp only [V1,WF,Bj,Bi];done)|(simp only [V1,WF,Bj,Bi];rfl)|(simp [Bj,Bi];done))) (io (.i (((ds.take k).length:Nat):Int)) (.i (((YR (ds.take k)).length:Nat):Int)) (li (by rw [VR])) (Z0 1 (ie (ab 4 (al (fun m F h=>∃(j:Nat),(j<=k)/\(x1.cons.length=0->TR x1 ((ds.take k).drop j)=TR x1 (ds.take k))/\F=[(0,Zy ds),(4,.p b1 0),(12,Zy ds),(13,.i ds.length),(14,.i k),(74,Zy (ds.take k)),(75,.i (((ds.take k).length:Nat):Int)),(76,.i j)]/\h=[.obj b1 (Wm x1)]/\m=k-j) _ _ _ ⟨0,ob,ob,rfl,rfl,rfl⟩ (wk [0] (fq (fw (fr (Y2 fl))))) ?_))))))))
    rintro m F h ⟨j,Il,Dm,rfl,rfl,rfl⟩
    refine ar (Z0 1 (ie (aq (ZG ((j:Int)<(((ds.take k).length:Nat):Int)) (fun X3=>?_) (fun X3=>?_)))))
    ·have htl:(ds.take k).length<=k:=by rw [Wp];omega
     refine ak (aq (ab 5 (ar ?_)))
     obtain ⟨x3,YD⟩:=Zr (ds.take k) j om
     refine Zm (Zh none (j:Int) 3 (Ve YD)) (Z0 1 (iA [.i 0,.i 0,nl] fun b3=>ZA 0 b3 (Wm x3) (ie (ar (Z5 2 [1] (iw (Ud x1.cons) (XH 10 [(0,Zy ds),(4,.p b1 0),(8,.p b3 0),(12,Zy ds),(13,.i ds.length),(14,.i k),(74,Zy (ds.take k)),(75,.i (((ds.take k).length:Nat):Int)),(76,.i j),(89,.b (((x1.cons.length:Int)==0)&&((x3.cons.length:Int)==0)))] [.obj b3 (Wm x3),.obj b1 (Wm x1)] ?_ (fun hj3=>?_))))))))
     ·refine XH 17 [(0,Zy ds),(4,.p b1 0),(8,.p b3 0),(12,Zy ds),(13,.i ds.length),(14,.i k),(74,Zy (ds.take k)),(75,.i (((ds.take k).length:Nat):Int)),(76,.i j),(96,.b ((((x1.cons.length:Int)==0)&&((x3.cons.length:Int)==0))&&(x3.frm==x1.frm)))] [.obj b3 (Wm x3),.obj b1 (Wm x1)] ?_ (fun hj4=>?_)
      ·refine Xa [(0,Zy ds),(4,.p b1 0),(12,Zy ds),(13,.i ds.length),(14,.i k),(74,Zy (ds.take k)),(75,.i (((ds.take k).length:Nat):Int)),(76,.i j),(103,.b (((((x1.cons.length:Int)==0)&&((x3.cons.length:Int)==0))&&(x3.frm==x1.frm))&&(x3.to_==x1.to_)))] [.obj b3 (Wm x3),.obj b1 (Wm x1)] ?_ ?_
       ·refine Z0 1 (ib (b:=((((x1.cons.length:Int)==0)&&((x3.cons.length:Int)==0))&&(x3.frm==x1.frm))) 97 (fun W8=>?_) (fun W8=>?_))
        ·have Vk:(((x1.cons.length:Int)=0)/\((x3.cons.length:Int)=0))/\(x3.frm=x1.frm):=((YB (YB Zp Zp) Zp)).1 W8
         exact Z5 6 [0,1] (ie (wk [0,0] (fq (fq (Zu (x3.to_==x1.to_) W8 fl)))))
        have UF:¬((((x1.cons.length:Int)=0)/\((x3.cons.length:Int)=0))/\(x3.frm=x1.frm)):=Yg (YB (YB Zp Zp) Zp) W8
        exact Z0 6 (ie (wk [0,0] (fq (fq (Zu false W8 fl)))))
       refine ac (((((x1.cons.length:Int)==0)&&((x3.cons.length:Int)==0))&&(x3.frm==x1.frm))&&(x3.to_==x1.to_)) (p:=((((x1.cons.length:Int)=0)/\((x3.cons.length:Int)=0))/\(x3.frm=x1.frm))/\(x3.to_=x1.to_)) (YB (YB (YB Zp Zp) Zp) Zp) (fun Vq=>?_) (fun Vq=>?_)
       ·exact ar (Z0 1 (ie (Za (ZX (.b false) (lb (HJ Z3 (RI om (by rw [<-Dm om,Y4 YD,TR,Zg om])) Zl))))))
       exact ak (az (ZD j (Z0 1 (ie (ZI ⟨j+1,ob,(fun q=>by have hq:=Dm q;rw [Y4 YD,TR,Z9 om] at hq;exact hq),rfl,rfl,rfl⟩ (wk [1] (fq (fw (fr (ZM j fl))))))))))
      refine Z0 1 (ib (b:=(((x1.cons.length:Int)==0)&&((x3.cons.length:Int)==0))) 90 (fun Wu=>?_) (fun Wu=>?_))
      ·have UT:((x1.cons.length:Int)=0)/\((x3.cons.length:Int)=0):=((YB Zp Zp)).1 Wu
       exact Z5 6 [0,1] (Yz (wk [0,0] (fq (fq (fr (Zu (x3.frm==x1.frm) Wu fl))))) hj4)
      have Us:¬(((x1.cons.length:Int)=0)/\((x3.cons.length:Int)=0)):=Yg (YB Zp Zp) Wu
      exact Z0 6 (Yz (wk [0,0] (fq (fq (fr (Zu false Wu fl))))) hj4)
     refine Z0 2 (ib (b:=((x1.cons.length:Int)==0)) 84 (fun WL=>?_) (fun WL=>?_))
     ·have TB:(x1.cons.length:Int)=0:=(Zp).1 WL
      exact Z5 2 [0] (iw (Ud x3.cons) (Z0 2 (Yz (wk [0,0] (fq (fq (fr (Zu ((x3.cons.length:Int)==0) WL fl))))) hj3)))
     have Tk:¬((x1.cons.length:Int)=0):=Yg Zp WL
     exact Z0 5 (Yz (wk [0,0] (fq (fq (fr (Zu false WL fl))))) hj3)
    have htl:(ds.take k).length=k:=by rw [Wp];omega
    have hD:x1.cons.length=0->TR x1 (ds.take k)=false:=fun q=>by rw [<-Dm q,X8 om];rfl
    refine ax 4 (az (ZD k (Z0 1 (ie ?_))))
    have hdr:=Y4 Z3
    exact ZI ⟨k+1,ob,(Z99 Z3 (RJ ZB hC hD) Zl),rfl,rfl,rfl⟩ (wk [] (fw (fr (ZM k fl))))
   refine Z0 1 (ib (b:=((!(decide (0<=x1.frm/\x1.frm<=ds.length)))||(!(decide (0<=x1.to_/\x1.to_<=ds.length))))) 31 (fun WB=>?_) (fun WB=>?_))
   ·have QI:(¬(0<=x1.frm/\x1.frm<=ds.length))∨(¬(0<=x1.to_/\x1.to_<=ds.length)):=((Ys (YI dq) (YI dq))).1 WB
    exact Z0 5 (Yz (wk [0] (fq (fw (Zu true WB fl)))) hj2)
   have QJ:¬((¬(0<=x1.frm/\x1.frm<=ds.length))∨(¬(0<=x1.to_/\x1.to_<=ds.length))):=Yg (Ys (YI dq) (YI dq)) WB
   exact Z5 2 [0] (iw (Ud x1.cons) (Z0 2 (Yz (wk [0] (fq (fw (Zu (decide ((x1.cons.length:Int)>3)) WB fl)))) hj2)))
  refine Z0 2 (ib (b:=(!(decide (0<=x1.frm/\x1.frm<=ds.length)))) 24 (fun WC=>?_) (fun WC=>?_))
  ·have A5:¬(0<=x1.frm/\x1.frm<=ds.length):=((YI dq)).1 WC
   exact Z0 6 (Yz (wk [0] (fq (fw (Zu true WC fl)))) hj1)
  have K9:¬(¬(0<=x1.frm/\x1.frm<=ds.length)):=Yg (YI dq) WC
  exact Z5 3 [0] (Zw [] (DW ds x1.to_) (Z0 2 (Yz (wk [0] (fq (fw (Zu (!(decide (0<=x1.to_/\x1.to_<=ds.length))) WC fl)))) hj1)))
 exact ax 0 (ar (Z0 1 (ie (Za (ZX (.b true) (lb (Z98 om om Zl)))))))
theorem Gu (op:Int) :Zk 66 [.i op] [] (Yk (.b (Yl op))):=by
 refine ZE 9 Tryz.func66 (ar (Z0 1 (ie (ar (XH 6 [(8,.b ((decide (op>=14))&&(decide (op<=17))))] [] ?_ (fun hj1=>?_))))))
 ·exact Z0 1 (ie (Za (ZX (.b ((decide (op>=14))&&(decide (op<=17)))) (lb (by rw [Yl,X7];simp)))))
 refine Z0 3 (ib (b:=(decide (op>=14))) 5 (fun Zd=>?_) (fun Zd=>?_))
 ·exact Z0 3 (Yz (wk [] (Zu (decide (op<=17)) Zd fl)) hj1)
 exact Z0 3 (Yz (wk [] (Zu false Zd fl)) hj1)
theorem Z2d (b:Z6) (c:Nat) (v:Int) (hb:b.sz<=1000000000:=by exact ob) (hv:0<=v/\v<=600:=by exact ob) (ih:∀(b2:Z6) (c:Nat) (v:Int),(b2.sz<b.sz)->(0<=v/\v<=600)->Zk 63 [ZT b2,.p c 0] [.obj c [.i v]] (fun r h=>(r=.b true/\h=[.obj c [.i (600-XE b2 (600-v))]]/\0<=XE b2 (600-v))∨(r=.b false/\h=[]/\XE b2 (600-v)<0))):Zk 63 [ZT b,.p c 0] [.obj c [.i v]] (fun r h=>(r=.b true/\h=[.obj c [.i (600-XE b (600-v))]]/\0<=XE b (600-v))∨(r=.b false/\h=[]/\XE b (600-v)<0)):=by
 have hbz:=Vg b
 have hbe:=Mx b (600-v)
 refine ZE 38 Tryz.func63 (ar (iA (Yb b) fun b1=>?_))
 refine Z0 1 (ie (aq (ar (Z5 2 [0] (iw (Vi b.steps) (Z0 1 (ie (ab 0 (al (fun m F h=>∃(k:Nat) (q:Int),(k<=b.steps.length)/\(0<=q/\q<=600)/\(WO (b.steps.drop k) (600-q)=WO b.steps (600-v))/\F=[(1,.p c 0),(10,Xw b.steps),(11,.i b.steps.length),(12,.i k)]/\h=[.obj c [.i q]]/\m=b.steps.length-k) _ _ _ ⟨0,v,ob,ob,rfl,rfl,rfl,rfl⟩ (wk [1] (fw (fr (Y2 fl)))) ?_)))))))))
 rintro m F h ⟨k,q,Ya,Zl,Zv,rfl,rfl,rfl⟩
 refine ar (Z0 1 (ie (aq (ZG ((k:Int)<(b.steps.length:Int)) (fun Zb=>?_) (fun Zb=>?_)))))
 ·refine ak (aq (ab 1 (ar ?_)))
  obtain ⟨x1,Z3⟩:=Zr b.steps k om
  have hss:=KP Z3
  have hkz:=UJ x1
  refine Zm (Zh none (k:Int) 5 (W3 Z3)) (Z0 1 (iA [.i 0,.i 0,.i 0,nl,nl] fun b2=>ZA 0 b2 (Y6 x1) (ie (aq (ar (Z5 3 [1] (ia ((q+1)) ((q)+(1)) (Z0 1 (ZA 1 c [.i (q+1)] (ie (ar (Z5 4 [0] (ie (ZG ((q+1)>600) (fun Zf=>?_) (fun Zf=>?_)))))))))))))))
  ·exact ar (Z0 1 (ie (Za (r1 [] (.inr ⟨rfl,rfl,(by rw [hbe,<-Zv,Y4 Z3,WO,Zg om];omega)⟩)))))
  refine ak (ar (Z5 2 [1] (iw (VI x1.kids) (Z0 1 (ie (ab 2 (al (fun m F h=>∃(j:Nat) (j2:Int),(j<=x1.kids.length)/\(0<=j2/\j2<=600)/\(VA (x1.kids.drop j) (600-j2)=VA x1.kids (600-(q+1)))/\F=[(1,.p c 0),(10,Xw b.steps),(11,.i b.steps.length),(12,.i k),(26,Xt x1.kids),(27,.i x1.kids.length),(28,.i j)]/\h=[.obj c [.i j2]]/\m=x1.kids.length-j) _ _ _ ⟨0,(q+1),ob,ob,rfl,rfl,rfl,rfl⟩ (wk [0] (fq (fw (Y2 fl)))) ?_)))))))
  rintro m F h ⟨j,j2,VQ,XA,Xm,rfl,rfl,rfl⟩
  refine ar (Z0 1 (ie (aq (ZG ((j:Int)<(x1.kids.length:Int)) (fun ZB=>?_) (fun ZB=>?_)))))
  ·refine ak (aq (ab 3 (ar ?_)))
   obtain ⟨x2,Zs⟩:=Zr x1.kids j om
   have hks:=UH Zs
   have hle:=BC.2 x2 (600-j2) om
   refine Zm (Zh none (j:Int) 2 (Uc Zs)) (Z0 1 (iA [nl,.i 0] fun b3=>ZA 0 b3 (Yb x2) (ie (ar (Z5 2 [0] (ic [1] (ih x2 c j2 ob ob) ?_))))))
   rintro _ _ (⟨rfl,rfl,Y1⟩|⟨rfl,rfl,Yi⟩)
   ·refine Z0 1 (ie (WI (ak (az (ZD j (Z0 1 (ie ?_)))))))
    have hdr:=Y4 Zs
    exact ZI ⟨j+1,(600-XE x2 (600-j2)),ob,ob,(by rw [Y4 Zs,VA,Z9 om] at Xm;rw [show 600-(600-XE x2 (600-j2))=XE x2 (600-j2) by omega];exact Xm),rfl,rfl,rfl⟩ (wk [0] (fq (fw (ZM j fl))))
   exact Z0 1 (ie (WJ (ar (Z0 1 (ie (Za (r1 [] (.inr ⟨rfl,rfl,(by rw [hbe,<-Zv,Y4 Z3,WO,Z9 om,Zg (by rw [E8,show (600-q-1:Int)=600-(q+1) by omega,<-Xm,Y4 Zs,VA,Zg Yi];omega)];omega)⟩))))))))
  have hE:VA x1.kids (600-(q+1))=600-j2:=by rw [<-Xm,X8 om,VA]
  refine ax 2 (az (ZD k (Z0 1 (ie ?_))))
  have hdr:=Y4 Z3
  exact ZI ⟨k+1,j2,ob,ob,(by rw [Y4 Z3,WO,Z9 om,E8,show (600-q-1:Int)=600-(q+1) by omega,hE,Z9 om] at Zv;exact Zv),rfl,rfl,rfl⟩ (wk [0] (fw (fr (ZM k fl))))
 refine ax 0 (ar (Z0 1 (ie ?_)))
 have hF:XE b (600-v)=600-q:=by rw [hbe,<-Zv,X8 om,WO]
 exact Za (r1 [0] (.inl ⟨rfl,rfl,om⟩) (eq:=(ro (ls:=[.i q]) (by rw [hF,show (600-(600-q):Int)=q by omega]) rz)))
theorem Z2c:∀(b:Z6) (c:Nat) (v:Int),(b.sz<=1000000000)->(0<=v/\v<=600)->Zk 63 [ZT b,.p c 0] [.obj c [.i v]] (fun r h=>(r=.b true/\h=[.obj c [.i (600-XE b (600-v))]]/\0<=XE b (600-v))∨(r=.b false/\h=[]/\XE b (600-v)<0)):=by
 have key:∀m:Nat,∀(b:Z6) (c:Nat) (v:Int),(b.sz<=m)->(b.sz<=1000000000)->(0<=v/\v<=600)->Zk 63 [ZT b,.p c 0] [.obj c [.i v]] (fun r h=>(r=.b true/\h=[.obj c [.i (600-XE b (600-v))]]/\0<=XE b (600-v))∨(r=.b false/\h=[]/\XE b (600-v)<0)):=by
  intro m
  induction m with
  | zero=>intro b c v h;have:=b.sz_pos;omega
  | succ m ih=>intro b c v h1 h2 h3;exact Z2d b c v h2 h3 fun b2 c2 v2 k1 k2=>ih b2 c2 v2 om om k2
 intro b c v h2 h3
 exact key b.sz b c v (YX _) h2 h3
theorem M4 (b:Z6) (hb:b.sz<=1000000000:=by exact ob):Zk 22 [ZT b] [] (Yk (.i (V9 b))):=by
 refine ZE 8 Tryz.func22 (ar (iA (Yb b) fun b1=>Z0 1 (ie (ar (iA [.i 0] fun b2=>ZA 0 b2 [.i 0] (ie (aq (ar (Z5 1 [1] (ic [0] (Z2c b b2 0 ob ob) ?_))))))))))
 rintro _ _ (⟨rfl,rfl,Y1⟩|⟨rfl,rfl,Yi⟩)
 ·have h0:=Y1
  rw [show (600-0:Int)=600 from rfl] at h0
  exact Z0 1 (ie (WI (ak (ar (Z5 2 [0] (ie (Za (ZX (.i (600-XE b (600-0))) (li (by rw [show (600-0:Int)=600 from rfl,V9,Z9 om]))))))))))
 have h0:=Yi
 rw [show (600-0:Int)=600 from rfl] at h0
 exact Z0 1 (ie (WJ (ar (Z0 1 (ie (Za (ZX (.i (-1)) (li (by rw [V9,Zg h0])))))))))
theorem Z2j (ds:List Ze) (fs:List Wx) (hz:KY ds:=by exact ob) (hf:∀f∈fs,f.pms.length<=4194304/\f.lnt.length<=4194304) (hfl:fs.length<=4194304:=by exact ob):Zk 90 [Zy ds,Qo fs] [] (Yk (.b (QX ds fs))):=by
 have hzl:=hz.len
 refine ZE 102 Tryz.func90 (ar (Z0 1 (ie (aq (ar (Z0 1 (Zw [] (Z25 ds) (XH 8 [(0,Zy ds),(1,Qo fs),(16,.b ((!Wo ds)||(decide ((fs.length:Int)<1))))] [] ?_ (fun hj1=>?_)))))))))
 ·refine XH 13 [(0,Zy ds),(1,Qo fs),(21,.b (((!Wo ds)||(decide ((fs.length:Int)<1)))||(decide ((fs.length:Int)>4))))] [] ?_ (fun hj2=>?_)
  ·refine Z0 1 (ib (b:=(((!Wo ds)||(decide ((fs.length:Int)<1)))||(decide ((fs.length:Int)>4)))) 22 (fun Zd=>?_) (fun Zd=>?_))
   ·have Y1:((¬(Wo ds=true))∨((fs.length:Int)<1))∨((fs.length:Int)>4):=((Ys (Ys (YI Iff.rfl) dq) dq)).1 Zd
    exact Z0 14 (ie (WJ (ar (Z0 1 (ie (Za (ZX (.b false) (lb (Z9d (by assumption))))))))))
   have Yi:¬(((¬(Wo ds=true))∨((fs.length:Int)<1))∨((fs.length:Int)>4)):=Yg (Ys (Ys (YI Iff.rfl) dq) dq) Zd
   refine Z0 1 ?_
   obtain ⟨x1,Z3⟩:=Zr fs 0 om
   refine Zm (Zh none 0 3 (Bm Z3)) (Z0 2 (iw (Y5 x1.pms) (Z0 3 (ib (b:=(decide ((x1.pms.length:Int)>0))) 30 (fun ZL=>?_) (fun ZL=>?_)))))
   ·have YM:(x1.pms.length:Int)>0:=(dq).1 ZL
    exact Z0 6 (ie (WJ (ar (Z0 1 (ie (Za (ZX (.b false) (lb (ON Z3 (.inl (by assumption)))))))))))
   have YW:¬((x1.pms.length:Int)>0):=Yg dq ZL
   refine Z0 1 (Zm (Zh none 0 3 (Bm Z3)) (Z0 4 (ie (ac (x1.res != 0) Yp (fun Zb=>?_) (fun Zb=>?_)))))
   ·exact ar (Z0 1 (ie (Za (ZX (.b false) (lb (ON Z3 (.inr Zb)))))))
   refine ak (aq (ar (Z0 1 (iw (C9 fs) (Z0 1 (ie (ab 0 (al (fun m F h=>∃(k:Nat),(k<=fs.length)/\(Qp ds.length (fs.drop k)=Qp ds.length fs)/\F=[(0,Zy ds),(37,Qo fs),(38,.i fs.length),(39,.i k)]/\h=[]/\m=fs.length-k) _ _ _ ⟨0,ob,ob,rfl,rfl,rfl⟩ (wk [] (fw (fr (Y2 fl)))) ?_))))))))
   rintro m F h ⟨k,Ya,Zl,rfl,rfl,rfl⟩
   refine ar (Z0 1 (ie (aq (ZG ((k:Int)<(fs.length:Int)) (fun Zf=>?_) (fun Zf=>?_)))))
   ·refine ak (aq (ab 1 (ar ?_)))
    obtain ⟨x2,Zs⟩:=Zr fs k om
    have hf2:=hf _ (ZZ Zs)
    refine Zm (Zh none (k:Int) 3 (Bm Zs)) (Z0 1 (iA [nl,nl,.i 0] fun b1=>ZA 0 b1 (BB x2) (ie (aq (ar (Z5 2 [0] (iw (Y5 x2.pms) (XH 11 [(0,Zy ds),(6,.p b1 0),(37,Qo fs),(38,.i fs.length),(39,.i k),(53,.b ((decide ((x2.pms.length:Int)>3))||(!XO ds.length x2.pms)))] [.obj b1 (BB x2)] ?_ (fun hj3=>?_)))))))))
    ·refine Xa [(0,Zy ds),(6,.p b1 0),(37,Qo fs),(38,.i fs.length),(39,.i k),(60,.b (((decide ((x2.pms.length:Int)>3))||(!XO ds.length x2.pms))||(!(decide (0<=x2.res/\x2.res<=ds.length)))))] [.obj b1 (BB x2)] ?_ ?_
     ·refine Z0 1 (ib (b:=((decide ((x2.pms.length:Int)>3))||(!XO ds.length x2.pms))) 54 (fun YF=>?_) (fun YF=>?_))
      ·have X5:((x2.pms.length:Int)>3)∨(¬(XO ds.length x2.pms=true)):=((Ys dq (YI Iff.rfl))).1 YF
       exact Z0 6 (ie (wk [0] (fq (fr (Zu true YF fl)))))
      have XQ:¬(((x2.pms.length:Int)>3)∨(¬(XO ds.length x2.pms=true))):=Yg (Ys dq (YI Iff.rfl)) YF
      exact Z5 3 [0] (Zw [] (DW ds x2.res) (Z0 2 (ie (wk [0] (fq (fr (Zu (!(decide (0<=x2.res/\x2.res<=ds.length))) YF fl)))))))
     refine ac (((decide ((x2.pms.length:Int)>3))||(!XO ds.length x2.pms))||(!(decide (0<=x2.res/\x2.res<=ds.length)))) (p:=(((x2.pms.length:Int)>3)∨(¬(XO ds.length x2.pms=true)))∨(¬(0<=x2.res/\x2.res<=ds.length))) (Ys (Ys dq (YI Iff.rfl)) (YI dq)) (fun ZB=>?_) (fun ZB=>?_)
     ·exact ar (Z0 1 (ie (Za (ZX (.b false) (lb (EO (EC Zs (Z61 ZB) Zl)))))))
     refine ak (ar (Z5 2 [0] (iw (Y5 x2.lnt) (Z0 1 (ie (ab 2 (al (fun m F h=>∃(j:Nat),(j<=x2.lnt.length)/\(Qn x2.pms (x2.lnt.drop j) (if j=0 then none else x2.lnt[j-1]?)=Kk x2.pms x2.lnt)/\F=[(0,Zy ds),(6,.p b1 0),(37,Qo fs),(38,.i fs.length),(39,.i k),(62,Z2 x2.lnt),(63,.i x2.lnt.length),(64,.i j)]/\h=[.obj b1 (BB x2)]/\m=x2.lnt.length-j) _ _ _ ⟨0,ob,(by rfl),rfl,rfl,rfl⟩ (wk [0] (fq (fw (fr (Y2 fl))))) ?_)))))))
     rintro m F h ⟨j,VQ,XA,rfl,rfl,rfl⟩
     refine ar (Z0 1 (ie (aq (ZG ((j:Int)<(x2.lnt.length:Int)) (fun Yc=>?_) (fun Yc=>?_)))))
     ·refine ak (aq (ab 3 (ar (Z0 1 ?_))))
      obtain ⟨x3,YD⟩:=Zr x2.lnt j om
      refine Zm (Zh none (j:Int) 1 (ZW YD)) (Z0 3 (ie (ar (XH 9 [(0,Zy ds),(6,.p b1 0),(7,.i j),(8,.i x3),(37,Qo fs),(38,.i fs.length),(39,.i k),(62,Z2 x2.lnt),(63,.i x2.lnt.length),(64,.i j),(77,.b ((decide (x3<0))||(decide (x3>=(x2.pms.length:Int)))))] [.obj b1 (BB x2)] ?_ (fun hj4=>?_)))))
      ·refine Z0 1 (ib (b:=((decide (x3<0))||(decide (x3>=(x2.pms.length:Int))))) 78 (fun Xd=>?_) (fun Xd=>?_))
       ·have Wr:(x3<0)∨(x3>=(x2.pms.length:Int)):=((Ys dq dq)).1 Xd
        exact Z0 21 (ie (WJ (ar (Z0 1 (ie (Za (ZX (.b false) (lb (EO (EC Zs (Hb (GR YD (by rintro ⟨q1,q2,q3⟩;first|omega|(rw [Vx] at q2;exact q2 (Yj some om))|(have:=q3 _ (by rw [Z9 om];exact VT);omega)) XA)) Zl))))))))))
       have V6:¬((x3<0)∨(x3>=(x2.pms.length:Int))):=Yg (Ys dq dq) Xd
       refine Z5 3 [0] ?_
       obtain ⟨x4,Vx⟩:=Zr x2.pms x3.toNat om
       refine Zm (Zh none x3 1 (ZW Vx)) (Z0 4 (ib (b:=(x4==0)) 86 (fun W8=>?_) (fun W8=>?_)))
       ·have Vk:x4=0:=(Zp).1 W8
        exact Z0 13 (ie (WJ (ar (Z0 1 (ie (Za (ZX (.b false) (lb (EO (EC Zs (Hb (GR YD (by rintro ⟨q1,q2,q3⟩;first|omega|(rw [Vx] at q2;exact q2 (Yj some om))|(have:=q3 _ (by rw [Z9 om];exact VT);omega)) XA)) Zl))))))))))
       have UF:¬(x4=0):=Yg Zp W8
       refine Z0 3 (ib (b:=(decide ((j:Int)>0))) 89 (fun Wu=>?_) (fun Wu=>?_))
       ·have UT:(j:Int)>0:=(dq).1 Wu
        refine Z5 4 [0] (ia (((j-1:Nat):Int)) (((j:Int))-(1)) ?_)
        obtain ⟨x5,VT⟩:=Zr x2.lnt (j-1) om
        refine Zm (Zh none ((j-1:Nat):Int) 1 (ZW VT)) (Z0 4 (ie (ZG (x3<=x5) (fun X1=>?_) (fun X1=>?_))))
        ·exact ar (Z0 1 (ie (Za (ZX (.b false) (lb (EO (EC Zs (Hb (GR YD (by rintro ⟨q1,q2,q3⟩;first|omega|(rw [Vx] at q2;exact q2 (Yj some om))|(have:=q3 _ (by rw [Z9 om];exact VT);omega)) XA)) Zl)))))))
        refine ak (az (ZD j (Z0 1 (ie ?_))))
        have hdr:=Y4 YD
        exact ZI ⟨j+1,ob,(MA YD ⟨by omega,(by rw [Vx];intro q;cases q;omega),fun p hp=>by first|(rw [Zg om] at hp;cases hp;done)|(rw [Z9 om,VT] at hp;cases hp;omega)⟩ XA),rfl,rfl,rfl⟩ (wk [0] (fq (fw (fr (ZM j fl)))))
       have Us:¬((j:Int)>0):=Yg dq Wu
       refine Z0 10 (ie (WI (ak (az (ZD j (Z0 1 (ie ?_)))))))
       have hdr:=Y4 YD
       exact ZI ⟨j+1,ob,(MA YD ⟨by omega,(by rw [Vx];intro q;cases q;omega),fun p hp=>by first|(rw [Zg om] at hp;cases hp;done)|(rw [Z9 om,VT] at hp;cases hp;omega)⟩ XA),rfl,rfl,rfl⟩ (wk [0] (fq (fw (fr (ZM j fl)))))
      refine Z0 3 (ib (b:=(decide (x3<0))) 71 (fun WL=>?_) (fun WL=>?_))
      ·have TB:x3<0:=(dq).1 WL
       exact Z0 6 (Yz (wk [0] (fq (fq (fw (Zu true WL fl))))) hj4)
      have Tk:¬(x3<0):=Yg dq WL
      exact Z5 3 [0] (iw (Y5 x2.pms) (Z0 2 (Yz (wk [0] (fq (fq (fw (Zu (decide (x3>=(x2.pms.length:Int))) WL fl))))) hj4)))
     have hL:Kk x2.pms x2.lnt=true:=by rw [<-XA,X8 om];rfl
     have hS:=Z62 ZB hL
     refine ax 2 (az (ZD k (Z0 1 (ie ?_))))
     have hdr:=Y4 Zs
     exact ZI ⟨k+1,ob,(Z6l Zs hS Zl),rfl,rfl,rfl⟩ (wk [] (fw (fr (ZM k fl))))
    refine Z0 2 (ib (b:=(decide ((x2.pms.length:Int)>3))) 47 (fun WB=>?_) (fun WB=>?_))
    ·have QI:(x2.pms.length:Int)>3:=(dq).1 WB
     exact Z0 6 (Yz (wk [0] (fq (fr (Zu true WB fl)))) hj3)
    have QJ:¬((x2.pms.length:Int)>3):=Yg dq WB
    exact Z5 3 [0] (Zw [] (M5 ds x2.pms) (Z0 2 (Yz (wk [0] (fq (fr (Zu (!XO ds.length x2.pms) WB fl)))) hj3)))
   exact ax 0 (ar (Z0 1 (ie (Za (ZX (.b true) (lb (Z9e (by assumption) Z3 (by assumption) Zb (by rw [<-Zl,X8 om];rfl))))))))
  refine Z0 1 (ib (b:=((!Wo ds)||(decide ((fs.length:Int)<1)))) 17 (fun WC=>?_) (fun WC=>?_))
  ·have A5:(¬(Wo ds=true))∨((fs.length:Int)<1):=((Ys (YI Iff.rfl) dq)).1 WC
   exact Z0 4 (Yz (wk [] (fw (Zu true WC fl))) hj2)
  have K9:¬((¬(Wo ds=true))∨((fs.length:Int)<1)):=Yg (Ys (YI Iff.rfl) dq) WC
  exact Z0 1 (iw (C9 fs) (Z0 2 (Yz (wk [] (fw (Zu (decide ((fs.length:Int)>4)) WC fl))) hj2)))
 refine Z0 2 (ib (b:=(!Wo ds)) 12 (fun TA=>?_) (fun TA=>?_))
 ·have LX:¬(Wo ds=true):=((YI Iff.rfl)).1 TA
  exact Z0 4 (Yz (wk [] (fw (Zu true TA fl))) hj1)
 have LY:¬(¬(Wo ds=true)):=Yg (YI Iff.rfl) TA
 exact Z0 1 (iw (C9 fs) (Z0 2 (Yz (wk [] (fw (Zu (decide ((fs.length:Int)<1)) TA fl))) hj1)))
theorem Z2f (n:Zt) (hz:UX n:=by exact ob):Zk 54 [Ye n] [] (fun r h=>(r=.tup [.agg [Zy n.decls,XB n],.b (VU n)]/\h=[]/\n.routines.length<=4)∨(r=.tup [.agg [Zy [],Qo []],.b false]/\h=[]/\VU n=false)):=by
 have hzl:=hz.len
 refine ZE 41 Tryz.func54 (ar (iA (ZH n) fun b1=>iA [nl,nl] fun b2=>Z0 1 (ie (aq (ar (Z5 2 [1] (iw (VS n.routines) (Z0 1 (ie (ZG ((n.routines.length:Int)>4) (fun Zb=>?_) (fun Zb=>?_)))))))))))
 ·exact ar (Z0 1 (ZA 0 b2 [nl,nl] (Z0 1 (ie (Za (r3 [] [.agg [nl,nl],.b false] [0] [(b2,b2)] (.inr ⟨rfl,rfl,(by rw [ML,decide_eq_false om];rfl)⟩) (Zc.tup (.cons (Zc.agg (.cons (Zc.sl _ rfl) (.cons (Zc.sl _ rfl) .nil))) (.cons (lr _) .nil)))))))))
 refine ak (ar (Z5 3 [1] (iA [nl,nl] fun b3=>?_)))
 refine ZA 0 b3 [Zy n.decls,nl] (ie (aq (ar (Z5 2 [2] (iw (VS n.routines) (Z0 1 (ie (ab 0 (De 3 (al (fun m F h=>∃(k:Nat) (v:Value),(k<=n.routines.length)/\F=[(1,.p b1 0),(2,.p b2 0),(4,.p b3 0),(16,T5 n.routines),(17,.i n.routines.length),(18,.i k)]/\h=[.obj b3 [Zy n.decls,Eg ((n.routines.take k).map Xy) v],.obj b2 [nl,nl],.obj b1 (ZH n),.tail v 3]/\m=n.routines.length-k) _ _ _ ⟨0,(.slice none 0 0),ob,rfl,rfl,rfl⟩ (wk [1,1,1,0] (fq (fr (Y2 fl)))) ?_))))))))))
 rintro m F h ⟨k,v,Ya,rfl,rfl,rfl⟩
 refine ar (Z0 1 (ie (aq (ZG ((k:Int)<(n.routines.length:Int)) (fun Zf=>?_) (fun Zf=>?_)))))
 ·refine ak (aq (ab 1 (ar ?_)))
  obtain ⟨x1,Z3⟩:=Zr n.routines k om
  refine Zm (Zh none (k:Int) 5 (Wf Z3)) (Z0 1 (iA [nl,nl,.i 0,nl,.i 0] fun b4=>ZA 0 b4 (Vl x1) (ie (az (Z5 9 [1,0,0,0] (iL (UC [Wx.mk x1.params x1.lent x1.result]) 1 3 fun v1=>ZP 0 [(31,Qo [Wx.mk x1.params x1.lent x1.result])] (ip 5 (UC ((n.routines.take (k+1)).map Xy)) (UC ((n.routines.take k).map Xy)) (UC [Wx.mk x1.params x1.lent x1.result]) v none 3 (IW _) (IW _) (S7 _) (by simp<;>omega) (by rw [Wv Z3];simp [UC,Xy]) fun v2=>Z0 1 (ZA 3 b3 [Zy n.decls,Eg ((n.routines.take (k+1)).map Xy) v2] (ie (az (ZD k (Z0 1 (ie ?_)))))))))))))
  have hdr:=Y4 Z3
  exact ZI ⟨k+1,v2,ob,rfl,rfl,rfl⟩ (wk [0,3,3,0] (fq (fr (ZM k fl))))
 refine ax 0 (aD 8 (Bf 3 8 [0,1,2,3,4] [(39,Qo ((n.routines.take k).map Xy))] [0,2,0] (Z8 5 (Y7 5 [] [0] [b3] (Z2j n.decls ((n.routines.take k).map Xy) (hz:=hz.decls) (hf:=(by intro f hf;obtain ⟨r,h1,rfl⟩:=XS.1 hf;have:=TL h1;exact ⟨hz.params r this,hz.lent r this⟩))) (Z8 6 (Yv 6 1 [] [] b2 [Zy n.decls,Eg ((n.routines.take k).map Xy) v] (Zj 0 1 [7] (de ?_))))))))
 have htk:n.routines.take k=n.routines:=Va om
 exact Za (r3 [] [.agg [Zy n.decls,Eg ((n.routines.take k).map Xy) v],.b (QX n.decls ((n.routines.take k).map Xy))] [0] [(b2,b2)] (.inl ⟨rfl,rfl,om⟩) (Zc.tup (.cons (Zc.agg (.cons (lr _) (.cons (Zc.sl _ (Yj UC (by rw [htk]))) .nil))) (.cons (lb (by rw [htk,ML,decide_eq_true (p:=n.routines.length<=4) om,Bool.true_and])) .nil))))
theorem Z2g (n:Zt) (t:Int) (hn:X0 n:=by exact ob):Zk 131 [.agg [Zy n.decls,XB n],.i t] [] (Yk (UL ((ZQ n.decls t).map (ZU n.decls)))):=by
 have Xh:=hn.decls
 have hcl:=GX Xh t
 refine ZE 26 Tryz.func131 (ar (iA [Zy n.decls,XB n] fun b1=>?_))
 refine Z0 1 (ie (ar (Z0 1 (ie (aq (ar (Z5 3 [0] (Zw [] (Z2b n.decls t) (io (.i (((ZQ n.decls t).length:Nat):Int)) (.i (((Z7 (ZQ n.decls t)).length:Nat):Int)) (li (by rw [Y5])) (Z0 1 (ie (ab 0 (De 1 (al (fun m F h=>∃(k:Nat) (v:Value),(k<=(ZQ n.decls t).length)/\F=[(2,.p b1 0),(5,BG (((ZQ n.decls t).take k).map (ZU n.decls)) v),(11,Z2 (ZQ n.decls t)),(12,.i (((ZQ n.decls t).length:Nat):Int)),(13,.i k)]/\h=[.obj b1 [Zy n.decls,XB n],.tail v 1]/\m=(ZQ n.decls t).length-k) _ _ _ ⟨0,(.slice none 0 0),ob,rfl,rfl,rfl⟩ (wk [1,0] (fr (fc (x:=nl) (Zc.slh _ rfl) (fw (Y2 fl))))) ?_))))))))))))))
 rintro m F h ⟨k,v,Ya,rfl,rfl,rfl⟩
 refine ar (Z0 1 (ie (aq (ZG ((k:Int)<(((ZQ n.decls t).length:Nat):Int)) (fun Zb=>?_) (fun Zb=>?_)))))
 ·refine ak (aq (ab 1 (ar ?_)))
  obtain ⟨x1,Z3⟩:=Zr (ZQ n.decls t) k om
  refine Zm (Zh none (k:Int) 1 (ZW Z3)) (Z0 2 (ie (az (Z5 4 [0] (Zw [] (Z2e n.decls x1 (hc:=(by have:=Rf Xh Z3;omega))) (iL (XX [ZU n.decls x1]) 1 1 fun v1=>ZP 0 [(22,UL [ZU n.decls x1])] (ip 2 (XX (((ZQ n.decls t).take (k+1)).map (ZU n.decls))) (XX (((ZQ n.decls t).take k).map (ZU n.decls))) (XX [ZU n.decls x1]) v none 1 (JW _) (JW _) (DB _) (by simp;omega) (by rw [Wv Z3];simp [XX]) fun v2=>Z0 1 (ie (az (ZD k (Z0 1 (ie ?_))))))))))))
  have hdr:=Y4 Z3
  exact ZI ⟨k+1,v2,ob,rfl,rfl,rfl⟩ (wk [2,0] (fq (ZM k fl)))
 exact ax 0 (ar (Z0 2 (ie (Za (ZX (BG (((ZQ n.decls t).take k).map (ZU n.decls)) v) (Zc.sl _ (Yj XX (by rw [Va om]))))))))
theorem Z2h (n:Zt) (op:Int) (num:Int) (ts:LI) (hn:X0 n:=by exact ob) (hl_ts:ts.length<=4294967296:=by exact ob) (hnum:-9223372036854775808<=num/\num<=9223372036854775807:=by exact ob):Zk 132 [.agg [Zy n.decls,XB n],.i op,.i num,Z2 ts] [] (fun r h=>∃(t:Int),r=.tup [.i t,.b ((Xk n op num ts).isSome)]/\h=[]/\∀x,Xk n op num ts=some x->t=x):=by
 have Xh:=hn.decls
 have hrl:=hn.len
 have hcfl:(ZU n.decls num).length<=4294967296:=by have:=VG Xh num;omega
 have hdl:n.decls.length<=4294967296:=by have:=Xh.len;omega
 refine ZE 149 Tryz.func132 (ar (iA [Zy n.decls,XB n] fun b1=>Z0 2 (ie (ar (Z0 2 (ie (aq (ar (Z0 1 (ie (ab 0 (ar (Z0 2 (ie (ac (op==0) Zp (fun Zb=>?_) (fun Zb=>?_))))))))))))))))
 ·refine ar (XH 6 [(3,Z2 ts),(26,.b ((decide (num>=(-999)))&&(decide (num<=999))))] [.obj b1 [Zy n.decls,XB n]] ?_ (fun hj1=>?_))
  ·refine XH 11 [(31,.b (((decide (num>=(-999)))&&(decide (num<=999)))&&((ts.length:Int)==0)))] [.obj b1 [Zy n.decls,XB n]] ?_ (fun hj2=>?_)
   ·refine Z0 2 (ie ?_)
    have hF:=sf0 (n:=n) (num:=num) (ts:=ts) Zb
    exact Za (r2 [] [.i 0,.b (((decide (num>=(-999)))&&(decide (num<=999)))&&((ts.length:Int)==0))] ⟨0,rfl,rfl,(Af hF)⟩ (Zc.tup (.cons (lr _) (.cons (lb (Ae hF (by simp [*];try omega))) .nil))))
   refine Z0 1 (ib (b:=((decide (num>=(-999)))&&(decide (num<=999)))) 27 (fun Zd=>?_) (fun Zd=>?_))
   ·have Y1:(num>=(-999))/\(num<=999):=((YB dq dq)).1 Zd
    exact Z0 1 (iw (Y5 ts) (Z0 2 (Yz (wk [0] (Zu ((ts.length:Int)==0) Zd fl)) hj2)))
   have Yi:¬((num>=(-999))/\(num<=999)):=Yg (YB dq dq) Zd
   exact Z0 4 (Yz (wk [0] (Zu false Zd fl)) hj2)
  refine Z0 3 (ib (b:=(decide (num>=(-999)))) 23 (fun ZL=>?_) (fun ZL=>?_))
  ·have YM:num>=(-999):=(dq).1 ZL
   exact Z0 3 (Yz (wk [0] (fr (Zu (decide (num<=999)) ZL fl))) hj1)
  have YW:¬(num>=(-999)):=Yg dq ZL
  exact Z0 3 (Yz (wk [0] (fr (Zu false ZL fl))) hj1)
 refine aq (ar (Z0 2 (ie (Xv (fun F h=>F=[(1,.i op),(2,.i num),(3,Z2 ts),(4,.p b1 0),(11,.i 0),(18,.i op),(32,.b ((op==1)||((op==2)||((op==3)||(op==4)))))]/\h=[.obj b1 [Zy n.decls,XB n]]) ?_ ?_))))
 ·refine ac (op==1) Zp (fun Zf=>?_) (fun Zf=>?_)
  ·exact ak (ZK ⟨rfl,rfl⟩ (wk [0] (fq (fw (fc (x:=.b (op==1)) (lb (by first|rfl|(rw [Zg Zf])|(rw [Z9 Zf])|(simp [Zf];done)|(rw [X7];simp [Zf];done)|omega)) fl)))))
  refine ar (Z0 2 (ie (ac (op==2) Zp (fun ZB=>?_) (fun ZB=>?_))))
  ·exact ak (ZK ⟨rfl,rfl⟩ (wk [0] (fq (fw (fc (x:=.b (op==2)) (lb (by first|rfl|(rw [Zg Zf])|(rw [Z9 Zf])|(simp [Zf,ZB];done)|(rw [X7];simp [Zf,ZB];done)|omega)) fl)))))
  refine ar (Z0 2 (ie (ac (op==3) Zp (fun Yc=>?_) (fun Yc=>?_))))
  ·exact ak (ZK ⟨rfl,rfl⟩ (wk [0] (fq (fw (fc (x:=.b (op==3)) (lb (by first|rfl|(rw [Zg Zf])|(rw [Z9 Zf])|(simp [Zf,ZB,Yc];done)|(rw [X7];simp [Zf,ZB,Yc];done)|omega)) fl)))))
  exact az (Z0 2 (ie (ZK ⟨rfl,rfl⟩ (wk [0] (fq (fw (fc (x:=.b (op==4)) (lb (by first|rfl|(rw [Zg Zf])|(rw [Z9 Zf])|(simp [Zf,ZB,Yc];done)|(rw [X7];simp [Zf,ZB,Yc];done)|omega)) fl)))))))
 rintro F h ⟨rfl,rfl⟩
 refine ac ((op==1)||((op==2)||((op==3)||(op==4)))) (p:=(op=1)∨((op=2)∨((op=3)∨(op=4)))) (Ys Zp (Ys Zp (Ys Zp Zp))) (fun X1=>?_) (fun X1=>?_)
 ·refine az (iL (Z7 [0,0]) 2 1 fun v1=>Z0 1 (ie (ar (XH 8 [(141,.i 0),(148,.b ((num==0)&&(decide (ts=[0,0]))))] [.tail v1 1,.obj b1 [Zy n.decls,XB n]] ?_ (fun hj3=>?_)))))
  ·refine Z0 2 (ie ?_)
   have hF:=sf1 (n:=n) (num:=num) (ts:=ts) X1
   exact Za (r2 [] [.i 0,.b ((num==0)&&(decide (ts=[0,0])))] ⟨0,rfl,rfl,(Af hF)⟩ (Zc.tup (.cons (lr _) (.cons (lb (Ae hF (by simp [*];try omega))) .nil))))
  refine Z0 4 (ib (b:=(num==0)) 144 (fun YF=>?_) (fun YF=>?_))
  ·have X5:num=0:=(Zp).1 YF
   exact ZP 2 [(146,Z2 [0,0])] (Zw [] (CX ts [0,0]) (Z0 1 (Yz (wk [0,0] (fr (Zu (decide (ts=[0,0])) YF fl))) hj3)))
  have XQ:¬(num=0):=Yg Zp YF
  exact Z0 4 (Yz (wk [0,0] (fr (Zu false YF fl))) hj3)
 refine ar (Z0 2 (ie (ac (op==5) Zp (fun X3=>?_) (fun X3=>?_))))
 ·refine az (iL (Z7 [0]) 1 1 fun v2=>Z0 1 (ie (ar (XH 8 [(141,.i 0),(148,.b ((num==0)&&(decide (ts=[0]))))] [.tail v2 1,.obj b1 [Zy n.decls,XB n]] ?_ (fun hj4=>?_)))))
  ·refine Z0 2 (ie ?_)
   have hF:=sf5 (n:=n) (num:=num) (ts:=ts) X3
   exact Za (r2 [] [.i 0,.b ((num==0)&&(decide (ts=[0])))] ⟨0,rfl,rfl,(Af hF)⟩ (Zc.tup (.cons (lr _) (.cons (lb (Ae hF (by simp [*];try omega))) .nil))))
  refine Z0 4 (ib (b:=(num==0)) 144 (fun Xd=>?_) (fun Xd=>?_))
  ·have Wr:num=0:=(Zp).1 Xd
   exact ZP 2 [(146,Z2 [0])] (Zw [] (CX ts [0]) (Z0 1 (Yz (wk [0,0] (fr (Zu (decide (ts=[0])) Xd fl))) hj4)))
  have V6:¬(num=0):=Yg Zp Xd
  exact Z0 4 (Yz (wk [0,0] (fr (Zu false Xd fl))) hj4)
 refine ar (Z0 2 (ie (ac (op==11) Zp (fun Vq=>?_) (fun Vq=>?_))))
 ·refine aq (ar (Z0 1 (iw (Y5 ts) (Z0 1 (ie (ac ((ts.length:Int) != 2) Yp (fun Vj=>?_) (fun Vj=>?_)))))))
  ·refine ar (Z0 2 (ie ?_))
   have hF:=Z6i (n:=n) (num:=num) Vq Vj
   exact Za (r2 [] [.i (-1),.b false] ⟨(-1),rfl,rfl,(CW hF)⟩ (Zc.tup (.cons (lr _) (.cons (lb (CV hF)) .nil))))
  refine ak (aD 12 (ZF 9 12 [0,1,2] [0] ?_))
  obtain ⟨x1,Z3⟩:=Zr ts 0 om
  refine dx 3 (Zh none 0 1 (ZW Z3)) (Zj 7 8 [4] (dK (fun F h=>∃(b2:Nat),F=[(2,.i num),(3,Z2 ts),(12,.p b2 0),(13,.b (Xu n.decls x1))]/\h=[.obj b2 (Wm (Vb n.decls x1)),.obj b1 [Zy n.decls,XB n]]) ?_ ?_))
  ·refine Wz 5 9 ?_ ?_
   ·exact Y7 5 [] [] [] (DV n.decls x1) (Zj 3 6 [6,7,8] (Z8 9 (dA 9 [] [] [.i 0,.i 0,nl] fun b2=>Z8 10 (Yv 10 0 [] [] b2 (Wm (Vb n.decls x1)) (Zj 0 1 [11] (de (ZK ⟨b2,rfl,rfl⟩ (wk [0,0] fl))))))))
   exact dA 9 [0] [b1] [.i 0,.i 0,nl] fun b3=>Z8 5 (Y7 5 [] [] [] (DV n.decls x1) (Zj 2 5 [6,7,8] (Z8 10 (Yv 10 0 [] [] b3 (Wm (Vb n.decls x1)) (Zj 0 1 [11] (de (ZK ⟨b3,rfl,rfl⟩ (wk [0,0] fl))))))))
  rintro F h ⟨b2,rfl,rfl⟩
  refine aD 17 (ZF 13 17 [0,1,2,3] [0] (db (b:=Xu n.decls x1) 58 (fun W8=>?_) (fun W8=>?_)))
  ·have Vk:Xu n.decls x1=true:=(Iff.rfl).1 W8
   refine Zj 12 13 [4] ?_
   obtain ⟨x2,Zs⟩:=Zr ts 1 om
   refine dx 5 (Zh none 1 1 (ZW Zs)) (ZF 4 11 [6,7,8,9,10,11,15] [0] (db (b:=(x2==((Vb n.decls x1).frm))) 66 (fun Wu=>?_) (fun Wu=>?_)))
   ·have UF:x2=((Vb n.decls x1).frm):=(Zp).1 Wu
    refine Zj 0 4 [12,13,14,16] (de ?_)
    have hF:=Hg (n:=n) (num:=num) Vq Vj Z3 Zs
    exact Za (r2 [] [.i ((Vb n.decls x1).to_),.b (num==0)] ⟨(Vb n.decls x1).to_,rfl,rfl,(Af hF)⟩ (Zc.tup (.cons (lr _) (.cons (lb (Ae hF (by simp [*];try omega))) .nil))))
   have UT:¬(x2=((Vb n.decls x1).frm)):=Yg Zp Wu
   refine Zj 0 4 [12,13,14,16] (de ?_)
   have hF:=Hg (n:=n) (num:=num) Vq Vj Z3 Zs
   exact Za (r2 [] [.i ((Vb n.decls x1).to_),.b false] ⟨(Vb n.decls x1).to_,rfl,rfl,(Af hF)⟩ (Zc.tup (.cons (lr _) (.cons (lb (Ae hF (by simp [*]))) .nil))))
  have Us:¬(Xu n.decls x1=true):=Yg Iff.rfl W8
  refine Zj 0 13 [4,5,6,7,8,9,10,11,12,13,14,15,16] (de ?_)
  have hF:=Z6h (n:=n) (num:=num) Vq Vj Z3 (by assumption)
  exact Za (r2 [] [.i ((Vb n.decls x1).to_),.b false] ⟨(Vb n.decls x1).to_,rfl,rfl,(CW hF)⟩ (Zc.tup (.cons (lr _) (.cons (lb (CV hF)) .nil))))
 refine ar (Z0 2 (ie (ac (op==6) Zp (fun Vw=>?_) (fun Vw=>?_))))
 ·refine ar (Z5 3 [0] (Zw [] (M6 n.decls num) (Z0 3 (iA [nl] fun b4=>Z0 1 (ZA 0 b4 [Z2 (ZU n.decls num)] (ie (ar (XH 9 [(79,.i (XJ n.decls num)),(87,.b ((decide ((XJ n.decls num)>=0))&&(decide (ts=(ZU n.decls num)))))] [.obj b4 [Z2 (ZU n.decls num)],.obj b1 [Zy n.decls,XB n]] ?_ (fun hj5=>?_)))))))))
  ·refine Z0 2 (ie ?_)
   have hF:=sf6 (n:=n) (num:=num) (ts:=ts) Vw
   exact Za (r2 [] [.i (XJ n.decls num),.b ((decide ((XJ n.decls num)>=0))&&(decide (ts=(ZU n.decls num))))] ⟨XJ n.decls num,rfl,rfl,(Af hF)⟩ (Zc.tup (.cons (lr _) (.cons (lb (Ae hF (by simp [*];try omega))) .nil))))
  refine Z0 4 (ib (b:=(decide ((XJ n.decls num)>=0))) 82 (fun WL=>?_) (fun WL=>?_))
  ·have TB:(XJ n.decls num)>=0:=(dq).1 WL
   exact Z5 3 [0] (Zw [] (CX ts (ZU n.decls num)) (Z0 1 (Yz (wk [0,0] (fr (Zu (decide (ts=(ZU n.decls num))) WL fl))) hj5)))
  have Tk:¬((XJ n.decls num)>=0):=Yg dq WL
  exact Z0 5 (Yz (wk [0,0] (fr (Zu false WL fl))) hj5)
 refine aq (ar (Z0 2 (ie (Xv (fun F h=>F=[(1,.i op),(2,.i num),(3,Z2 ts),(4,.p b1 0),(88,.b ((op==9)||(op==10)))]/\h=[.obj b1 [Zy n.decls,XB n]]) ?_ ?_))))
 ·refine ac (op==9) Zp (fun UE=>?_) (fun UE=>?_)
  ·exact ak (ZK ⟨rfl,rfl⟩ (wk [0] (fq (fc (x:=.b (op==9)) (lb (by first|rfl|(rw [Zg UE])|(rw [Z9 UE])|(simp [UE];done)|(rw [X7];simp [UE];done)|omega)) fl))))
  exact az (Z0 2 (ie (ZK ⟨rfl,rfl⟩ (wk [0] (fq (fc (x:=.b (op==10)) (lb (by first|rfl|(rw [Zg UE])|(rw [Z9 UE])|(simp [UE];done)|(rw [X7];simp [UE];done)|omega)) fl))))))
 rintro F h ⟨rfl,rfl⟩
 refine ac ((op==9)||(op==10)) (p:=(op=9)∨(op=10)) (Ys Zp Zp) (fun K7=>?_) (fun K7=>?_)
 ·refine aq (ar (Xa [(1,.i op),(2,.i num),(3,Z2 ts),(4,.p b1 0),(99,.b ((decide (num<0))||(decide (num>=(((n.routines.map Xy).length:Nat):Int)))))] [.obj b1 [Zy n.decls,XB n]] ?_ ?_))
  ·refine Z0 3 (ib (b:=(decide (num<0))) 93 (fun WB=>?_) (fun WB=>?_))
   ·have QI:num<0:=(dq).1 WB
    exact Z0 6 (ie (wk [0] (fq (Zu true WB fl))))
   have QJ:¬(num<0):=Yg dq WB
   exact Z5 3 [0] (io (.i (((n.routines.map Xy).length:Nat):Int)) (.i (((UC (n.routines.map Xy)).length:Nat):Int)) (li (by rw [C9])) (Z0 2 (ie (wk [0] (fq (Zu (decide (num>=(((n.routines.map Xy).length:Nat):Int))) WB fl))))))
  refine ac ((decide (num<0))||(decide (num>=(((n.routines.map Xy).length:Nat):Int)))) (p:=(num<0)∨(num>=(((n.routines.map Xy).length:Nat):Int))) (Ys dq dq) (fun T4=>?_) (fun T4=>?_)
  ·refine ar (Z0 2 (ie ?_))
   have hF:=Z6j (n:=n) (ts:=ts) K7 T4
   exact Za (r2 [] [.i (-1),.b false] ⟨(-1),rfl,rfl,(CW hF)⟩ (Zc.tup (.cons (lr _) (.cons (lb (CV hF)) .nil))))
  refine ak (aD 14 (ZF 11 14 [0,1,2] [0] ?_))
  obtain ⟨x3,YD⟩:=Zr (n.routines.map Xy) num.toNat om
  obtain ⟨r,hr,hrx⟩:=EB YD
  have hrp:=hn.params_at hr
  have hpx:x3.pms=r.params:=by rw [hrx];rfl
  have hpl:x3.pms.length<=3:=by rw [hpx];exact hrp
  refine dx 3 (Zh none num 3 (Bm YD)) (ZF 5 10 [4,5,6,7,8] [0] (dx 9 (Zh none num 3 (Bm YD)) (Zj 0 4 [10,11,12,13] (de (aq (ar (Z0 2 (ie (ac (op==9) Zp (fun QH=>?_) (fun QH=>?_))))))))))
  ·refine ar (Z0 3 (Zw [] (CX ts x3.pms) (Z0 2 (ie ?_))))
   have hF:=sf9 (ts:=ts) QH T4 YD
   exact Za (r2 [] [.i x3.res,.b (decide (ts=x3.pms))] ⟨x3.res,rfl,rfl,(Af hF)⟩ (Zc.tup (.cons (lr _) (.cons (lb (Ae hF (by simp [*];try omega))) .nil))))
  refine ak (ar (Z0 1 (iw (Y5 x3.pms) (ia (((x3.pms.length:Int)-1)) (((x3.pms.length:Int))-(1)) (Z0 1 (ie (aq (ar (Z0 2 (ie (ZG (((x3.pms.length:Int)-1)<0) (fun AN=>?_) (fun AN=>?_))))))))))))
  ·refine ar (Z0 2 (ie ?_))
   have hF:=Z6g (ts:=ts) (K7.resolve_left QH) T4 YD AN
   exact Za (r2 [] [.i (-1),.b false] ⟨(-1),rfl,rfl,(CW hF)⟩ (Zc.tup (.cons (lr _) (.cons (lb (CV hF)) .nil))))
  refine ak (aD 9 (ZF 5 9 [0,1,2,3] [0] ?_))
  obtain ⟨x4,Vx⟩:=Zr x3.pms (((x3.pms.length:Int)-1).toNat) om
  refine dx 4 (Zh none ((x3.pms.length:Int)-1) 1 (ZW Vx)) (Zj 2 4 [5,6] (Z8 7 (Y7 7 [] [] [] (Z26 n.decls x4 x3.res) (Zj 0 1 [8] (de (ar (XH 10 [(131,.i (VF n.decls x4 x3.res)),(140,.b ((decide ((VF n.decls x4 x3.res)>=0))&&(decide (ts=(x3.pms.take (((x3.pms.length:Int)-1).toNat))))))] [.obj b1 [Zy n.decls,XB n]] ?_ (fun hj6=>?_))))))))
  ·refine Z0 2 (ie ?_)
   have hF:=Z6f (ts:=ts) (K7.resolve_left QH) T4 YD AN Vx
   exact Za (r2 [] [.i (VF n.decls x4 x3.res),.b ((decide ((VF n.decls x4 x3.res)>=0))&&(decide (ts=(x3.pms.take (((x3.pms.length:Int)-1).toNat)))))] ⟨VF n.decls x4 x3.res,rfl,rfl,(Af hF)⟩ (Zc.tup (.cons (lr _) (.cons (lb (Ae hF (by rw [X7];simp))) .nil))))
  refine Z0 4 (ib (b:=(decide ((VF n.decls x4 x3.res)>=0))) 134 (fun WC=>?_) (fun WC=>?_))
  ·have A5:(VF n.decls x4 x3.res)>=0:=(dq).1 WC
   exact Z0 3 (Zm (Qs (es:=Z7 x3.pms) (hv:=none) (l:=0) (m:=((x3.pms.length:Int)-1)) (sz:=1) (es':=Z7 (x3.pms.take (((x3.pms.length:Int)-1).toNat))) kr om (by simp<;>omega) (by simp<;>omega) (Yq _) (by first|(simp only [V1,WF,KD,J6];done)|(simp only [V1,WF,KD,J6];rfl)|(simp [KD,J6];done))) (Zw [] (CX ts (x3.pms.take (((x3.pms.length:Int)-1).toNat))) (Z0 1 (Yz (wk [0] (fr (Zu (decide (ts=(x3.pms.take (((x3.pms.length:Int)-1).toNat)))) WC fl))) hj6))))
  have K9:¬((VF n.decls x4 x3.res)>=0):=Yg dq WC
  exact Z0 6 (Yz (wk [0] (fr (Zu false WC fl))) hj6)
 refine ar (Z0 2 (ie ?_))
 have hF:=sfd (n:=n) (num:=num) (ts:=ts) Zb X1 X3 Vq Vw K7
 exact Za (r2 [] [.i (-1),.b false] ⟨(-1),rfl,rfl,(CW hF)⟩ (Zc.tup (.cons (lr _) (.cons (lb (CV hF)) .nil))))
theorem M7 (n:Zt) (us:LI) (ks:List Z6) (ms:List LI) (hn:X0 n:=by exact ob) (hnn:∀t∈us,0<=t) (hk:0<ks.length:=by exact ob) (hl:ks.length=ms.length:=by exact ob) (hb:us.length+3+4*YE ks<=1000000000:=by exact ob) (hr:Tw ks:=by exact ob) (hm3:∀m∈ms,m.length<=3) (hmn:∀m∈ms,∀f∈m,0<=f) (ih:∀(b:Z6) (us:LI),(b.sz<=YE ks)->(us.length+4*b.sz<=1000000000)->(b.rng)->(∀t∈us,0<=t)->Zk 56 [.agg [Zy n.decls,XB n],Z2 us,ZT b] [] (Yk (.i (YU n us b)))):Zk 130 [.agg [Zy n.decls,XB n],Z2 us,Xt ks,UL ms] [] (Yk (.tup [.i (XV n us ks ms true 0),.b (decide (0<=XV n us ks ms true 0))])):=by
 have hkl:=Ig ks
 refine ZE 45 Tryz.func130 (ar (iA [Zy n.decls,XB n] fun b1=>?_))
 refine Z0 2 (ie (ar (Z0 1 (ie (aq (ar (Z0 1 (iw (VI ks) (Z0 1 (ie (ab 0 (al (fun m F h=>∃(k:Nat) (t:Int),(k<=ks.length)/\(0<k->0<=t)/\(XV n us (ks.drop k) (ms.drop k) (decide (k=0)) t=XV n us ks ms true 0)/\F=[(1,Z2 us),(3,UL ms),(4,.p b1 0),(10,.i t),(14,Xt ks),(15,.i ks.length),(16,.i k)]/\h=[.obj b1 [Zy n.decls,XB n]]/\m=ks.length-k) _ _ _ ⟨0,(-1),ob,ob,(Z3b hk (-1)),rfl,rfl,rfl⟩ (wk [0] (fq (fw (Y2 fl)))) ?_))))))))))))
 rintro m F h ⟨k,t,Ya,Zl,Zv,rfl,rfl,rfl⟩
 refine ar (Z0 1 (ie (aq (ZG ((k:Int)<(ks.length:Int)) (fun Zb=>?_) (fun Zb=>?_)))))
 ·refine ak (aq (ab 1 (ar (Z0 1 ?_))))
  obtain ⟨x1,Z3⟩:=Zr ks k om
  have Zz:=Ih Z3
  have hbr:=If hr Z3
  refine Zm (Zh none (k:Int) 2 (Uc Z3)) (Z0 1 (iA [nl,.i 0] fun b2=>Z0 1 (ZA 0 b2 (Yb x1) (ie (aD 11 (ZF 7 11 [0,1,2,3] [1] ?_))))))
  obtain ⟨x2,Zs⟩:=Zr ms k om
  have hxl:=hm3 x2 (ZZ Zs)
  have hxn:=hmn x2 (ZZ Zs)
  refine dx 4 (Zh none (k:Int) 1 (Dz Zs)) (ZF 4 6 [5,8] [0] (Z8 6 (dL 6 [0,1] [b2,b1] (XX [us,x2]) 2 1 fun v1=>Yf 3 3 [] [(27,UL [us,x2])] (Z8 7 (dc 7 [] [0,1] [b2,b1] (Z6o [us,x2] (hf:=(by simp only [D4,Ym];omega))) ?_)))))
  rintro _ _ ⟨v2,rfl,rfl⟩
  refine Yf 2 2 [] [(28,Z2 ([us,x2].flatten))] (Z8 9 (Y7 9 [] [] [] (ih x1 ([us,x2].flatten) ob (by simp only [D4,Ym];omega) ob (by rw [D4];exact MK hnn hxn)) (Zj 0 1 [10] (de (aq (ar (Xa [(1,Z2 us),(3,UL ms),(4,.p b1 0),(13,.i (YU n ([us,x2].flatten) x1)),(14,Xt ks),(15,.i ks.length),(16,.i k),(41,.b ((decide ((YU n ([us,x2].flatten) x1)<0))||((decide ((k:Int)>0))&&((YU n ([us,x2].flatten) x1) != t))))] [.tail v2 1,.tail v1 1,.obj b2 (Yb x1),.obj b1 [Zy n.decls,XB n]] ?_ ?_)))))))
  ·refine Z0 3 (ib (b:=(decide ((YU n ([us,x2].flatten) x1)<0))) 33 (fun Zd=>?_) (fun Zd=>?_))
   ·exact Z0 8 (ie (ZO 4 (fq (fw (fr (Zu true Zd fl))))))
   refine Z0 3 (ib (b:=(decide ((k:Int)>0))) 36 (fun ZL=>?_) (fun ZL=>?_))
   ·exact Z0 5 (ie (ZO 4 (fq (fw (fr (Zu ((YU n ([us,x2].flatten) x1) != t) (And.intro Zd ZL) fl))))))
   exact Z0 5 (ie (ZO 4 (fq (fw (fr (Zu false (And.intro Zd ZL) fl))))))
  refine ac ((decide ((YU n ([us,x2].flatten) x1)<0))||((decide ((k:Int)>0))&&((YU n ([us,x2].flatten) x1) != t))) (p:=((YU n ([us,x2].flatten) x1)<0)∨(((k:Int)>0)/\((YU n ([us,x2].flatten) x1)≠t))) (Ys dq (YB dq Yp)) (fun Zf=>?_) (fun Zf=>?_)
  ·refine ar (Z0 2 (ie ?_))
   have hK:XV n us ks ms true 0=-1:=by rw [<-Zv];rw [D4] at Zf;exact Mo Z3 Zs Zf
   exact Za (r2 [] [.i (-1),.b false] ⟨rfl,rfl⟩ (Zc.tup (.cons (li (by rw [hK])) (.cons (lb (by rw [hK];rfl)) .nil))))
  exact ak (az (Z0 2 (ie (az (ZD k (Z0 1 (ie (ZI ⟨k+1,YU n ([us,x2].flatten) x1,ob,(by intro _;omega),(by rw [D4] at Zf ⊢;rw [<-Zv];exact (Mq Z3 Zs Zf).symm),rfl,rfl,rfl⟩ (wk [3] (fq (fw (ZM k fl))))))))))))
 refine ax 0 (ar (Z0 3 (ie ?_)))
 have hK:XV n us ks ms true 0=t:=by rw [<-Zv];exact Mp om
 exact Za (r2 [] [.i t,.b true] ⟨rfl,rfl⟩ (Zc.tup (.cons (li (by rw [hK])) (.cons (lb (by rw [hK];exact (decide_eq_true (Zl om)).symm)) .nil))))
theorem Z2i (n:Zt) (us:LI) (s:Z4) (hn:X0 n) (hty:B8 n) (hnn:∀t∈us,0<=t) (hb:us.length+4*s.sz<=1000000000) (hr:s.rng) (ih:∀(b:Z6) (us:LI),(b.sz<s.sz)->(us.length+4*b.sz<=1000000000)->(b.rng)->(∀t∈us,0<=t)->Zk 56 [.agg [Zy n.decls,XB n],Z2 us,ZT b] [] (Yk (.i (YU n us b)))):Zk 93 [.agg [Zy n.decls,XB n],Z2 us,Yt s] [] (fun r h=>∃(t:Int),r=.tup [.i t,.b (decide (0<=Y0 n us s))]/\h=[]/\(¬Yl s.op=true->0<=Y0 n us s->t=Y0 n us s)):=by
 have Xh:=hn.decls
 have hkz:=UJ s
 have haz:=Qe s
 have hse:=s.sz_eq
 rw [s.rng_eq] at hr
 obtain ⟨hnum,hkr⟩:=hr
 refine ZE 233 Tryz.func93 (ar (iA [Zy n.decls,XB n] fun b1=>iA (Y6 s) fun b2=>Z0 2 (ie (ar (Z5 2 [0] (iw (Y5 s.args) (iM 0 s.args.length fun v1=>?_)))))))
 refine Z0 1 (ie (aq (ar (Z5 2 [1] (iw (Y5 s.args) (Z0 1 (ie (ab 0 (al (fun m F h=>∃(k:Nat) (ts:LI) (v:Value),(k<=s.args.length)/\(ts.length=k)/\(XP us (s.args.take k)=some ts)/\F=[(1,Z2 us),(3,.p b1 0),(5,.p b2 0),(8,ZJ ts v),(20,Z2 s.args),(21,.i s.args.length),(22,.i k)]/\h=[.obj b2 (Y6 s),.obj b1 [Zy n.decls,XB n],.tail v 1]/\m=s.args.length-k) _ _ _ ⟨0,[],v1,ob,ob,ob,rfl,rfl,rfl⟩ (wk [1,1,0] (fq (fw (Y2 fl)))) ?_)))))))))
 rintro m F h ⟨k,ts,v,Ya,Zl,Zv,rfl,rfl,rfl⟩
 refine ar (Z0 1 (ie (aq (ZG ((k:Int)<(s.args.length:Int)) (fun Zb=>?_) (fun Zb=>?_)))))
 ·refine ak (aq (ab 1 (ar ?_)))
  obtain ⟨x1,Z3⟩:=Zr s.args k om
  refine Zm (Zh none (k:Int) 1 (ZW Z3)) (Z0 2 (ie (aq (ar (Xa [(1,Z2 us),(3,.p b1 0),(5,.p b2 0),(8,ZJ ts v),(10,.i x1),(20,Z2 s.args),(21,.i s.args.length),(22,.i k),(33,.b ((decide (x1<0))||(decide (x1>=(us.length:Int)))))] [.obj b2 (Y6 s),.obj b1 [Zy n.decls,XB n],.tail v 1] ?_ ?_)))))
  ·refine Z0 3 (ib (b:=(decide (x1<0))) 28 (fun Zd=>?_) (fun Zd=>?_))
   ·have Y1:x1<0:=(dq).1 Zd
    exact Z0 5 (ie (ZO 3 (fq (fq (Zu true Zd fl)))))
   have Yi:¬(x1<0):=Yg dq Zd
   exact Z0 2 (iw (Y5 us) (Z0 2 (ie (ZO 3 (fq (fq (Zu (decide (x1>=(us.length:Int))) Zd fl)))))))
  refine ac ((decide (x1<0))||(decide (x1>=(us.length:Int)))) (p:=(x1<0)∨(x1>=(us.length:Int))) (Ys dq dq) (fun Zf=>?_) (fun Zf=>?_)
  ·refine ar (Z0 2 (ie ?_))
   have hS:Y0 n us s=-1:=Z8n (HZ Z3 (Qg om))
   exact Za (r2 [] [.i (-1),.b false] ⟨(-1),rfl,rfl,(by intro _ h;rw [hS] at h;omega)⟩ (Zc.tup (.cons (lr _) (.cons (lb (by rw [hS];rfl)) .nil))))
  refine ak (az (Z0 3 ?_))
  obtain ⟨x2,Zs⟩:=Zr us x1.toNat om
  exact Zm (Zh none x1 1 (ZW Zs)) (Z0 1 (iL (Z7 [x2]) 1 1 fun v2=>ZP 0 [(39,Z2 [x2])] (ip 3 (Z7 (ts++[x2])) (Z7 ts) (Z7 [x2]) v none 1 (Yq _) (Yq _) (XL _) (by simp<;>omega) (by simp [XK,Z7]) fun v3=>Z0 1 (ie (az (ZD k (Z0 1 (ie (ZI ⟨k+1,(ts++[x2]),v3,ob,ob,(Pq Zv Z3 (by rw [Tv om Zs])),rfl,rfl,rfl⟩ (wk [2,2,0] (fq (fw (ZM k fl)))))))))))))
 refine ax 0 (aq (ar (Xa [(1,Z2 us),(3,.p b1 0),(5,.p b2 0),(8,ZJ ts v),(70,.b ((s.into != 0)&&((s.op != 6)||((decide (s.into<1))||((decide (s.into>(us.length:Int)))||((gI us (s.into-1))==0))))))] [.obj b2 (Y6 s),.obj b1 [Zy n.decls,XB n],.tail v 1] ?_ ?_)))
 ·refine Z5 4 [0] (ib (b:=(s.into != 0)) 45 (fun ZL=>?_) (fun ZL=>?_))
  ·have YM:s.into≠0:=(Yp).1 ZL
   refine Z5 4 [0] (ib (b:=(s.op != 6)) 49 (fun YF=>?_) (fun YF=>?_))
   ·have YW:s.op≠6:=(Yp).1 YF
    exact Z0 21 (ie (ZO 3 (fq (Zu true (And.intro ZL YF) fl))))
   have X5:¬(s.op≠6):=Yg Yp YF
   refine Z5 5 [0] (ib (b:=(decide (s.into<1))) 54 (fun Xd=>?_) (fun Xd=>?_))
   ·have XQ:s.into<1:=(dq).1 Xd
    exact Z0 16 (ie (ZO 3 (fq (Zu true (And.intro ZL (And.intro YF Xd)) fl))))
   have Wr:¬(s.into<1):=Yg dq Xd
   refine Z5 3 [0] (iw (Y5 us) (Z0 3 (ib (b:=(decide (s.into>(us.length:Int)))) 61 (fun W8=>?_) (fun W8=>?_))))
   ·have V6:s.into>(us.length:Int):=(dq).1 W8
    exact Z0 9 (ie (ZO 3 (fq (Zu true (And.intro ZL (And.intro YF (And.intro Xd W8))) fl))))
   have Vk:¬(s.into>(us.length:Int)):=Yg dq W8
   exact Z5 3 [0] (ia ((s.into-1)) ((s.into)-(1)) (Zm (Ai (es:=Z7 us) (hv:=none) (j:=(s.into-1)) (sz:=1) (y:=.i (gI us (s.into-1))) kr om (ZW (Ls om)) rfl) (Z0 4 (ie (ZO 3 (fq (Zu ((gI us (s.into-1))==0) (And.intro ZL (And.intro YF (And.intro Xd W8))) fl)))))))
  have UF:¬(s.into≠0):=Yg Yp ZL
  exact Z0 25 (ie (ZO 3 (fq (Zu false ZL fl))))
 refine ac ((s.into != 0)&&((s.op != 6)||((decide (s.into<1))||((decide (s.into>(us.length:Int)))||((gI us (s.into-1))==0))))) (p:=(s.into≠0)/\((s.op≠6)∨((s.into<1)∨((s.into>(us.length:Int))∨((gI us (s.into-1))=0))))) (YB Yp (Ys Yp (Ys dq (Ys dq Zp)))) (fun ZB=>?_) (fun ZB=>?_)
 ·refine ar (Z0 2 (ie ?_))
  have hS:Y0 n us s=-1:=Z8o (Ji.1 ZB)
  exact Za (r2 [] [.i (-1),.b false] ⟨(-1),rfl,rfl,(by intro _ h;rw [hS] at h;omega)⟩ (Zc.tup (.cons (lr _) (.cons (lb (by rw [hS];rfl)) .nil))))
 refine ak (aq (ab 2 (ar (Z5 2 [0] (Zw [] (Gu s.op) (Z0 1 (ie (ac (Yl s.op) Iff.rfl (fun Yc=>?_) (fun Yc=>?_)))))))))
 ·refine ar (Z0 1 (iw (Y5 ts) (XH 9 [(3,.p b1 0),(5,.p b2 0),(8,ZJ ts v),(83,.b (((ts.length:Int)==1)&&((gI ts 0) != 0)))] [.obj b2 (Y6 s),.obj b1 [Zy n.decls,XB n],.tail v 1] ?_ (fun hj1=>?_))))
  ·refine XH 14 [(3,.p b1 0),(5,.p b2 0),(8,ZJ ts v),(88,.b ((((ts.length:Int)==1)&&((gI ts 0) != 0))&&(s.num==0)))] [.obj b2 (Y6 s),.obj b1 [Zy n.decls,XB n],.tail v 1] ?_ (fun hj2=>?_)
   ·refine XH 20 [(3,.p b1 0),(5,.p b2 0),(8,ZJ ts v),(94,.b (((((ts.length:Int)==1)&&((gI ts 0) != 0))&&(s.num==0))&&((s.kids.length:Int)==0)))] [.obj b2 (Y6 s),.obj b1 [Zy n.decls,XB n],.tail v 1] ?_ (fun hj3=>?_)
    ·refine Z0 1 (ie (aq (ar (Xa [(3,.p b1 0),(8,ZJ ts v),(11,.b (((((ts.length:Int)==1)&&((gI ts 0) != 0))&&(s.num==0))&&((s.kids.length:Int)==0))),(105,.b ((((((ts.length:Int)==1)&&((gI ts 0) != 0))&&(s.num==0))&&((s.kids.length:Int)==0))&&((s.op==16)||(s.op==17))))] [.obj b2 (Y6 s),.obj b1 [Zy n.decls,XB n],.tail v 1] ?_ ?_))))
     ·refine Z0 2 (ib (b:=(((((ts.length:Int)==1)&&((gI ts 0) != 0))&&(s.num==0))&&((s.kids.length:Int)==0))) 96 (fun Wu=>?_) (fun Wu=>?_))
      ·have UT:((((ts.length:Int)=1)/\((gI ts 0)≠0))/\(s.num=0))/\((s.kids.length:Int)=0):=((YB (YB (YB Zp Yp) Zp) Zp)).1 Wu
       refine Z5 4 [0] (ib (b:=(s.op==16)) 100 (fun WL=>?_) (fun WL=>?_))
       ·have Us:s.op=16:=(Zp).1 WL
        exact Z0 5 (ie (ZO 3 (fw (fr (Zu true (And.intro Wu WL) fl)))))
       have TB:¬(s.op=16):=Yg Zp WL
       exact Z5 5 [0] (ie (ZO 3 (fw (fr (Zu (s.op==17) (And.intro Wu WL) fl)))))
      have Tk:¬(((((ts.length:Int)=1)/\((gI ts 0)≠0))/\(s.num=0))/\((s.kids.length:Int)=0)):=Yg (YB (YB (YB Zp Yp) Zp) Zp) Wu
      exact Z0 9 (ie (ZO 3 (fw (fr (Zu false Wu fl)))))
     refine ac ((((((ts.length:Int)==1)&&((gI ts 0) != 0))&&(s.num==0))&&((s.kids.length:Int)==0))&&((s.op==16)||(s.op==17))) (p:=(((((ts.length:Int)=1)/\((gI ts 0)≠0))/\(s.num=0))/\((s.kids.length:Int)=0))/\((s.op=16)∨(s.op=17))) (YB (YB (YB (YB Zp Yp) Zp) Zp) (Ys Zp Zp)) (fun X1=>?_) (fun X1=>?_)
     ·refine aD 12 (ZF 9 12 [0,1,2] [1] (dx 3 (Ai (es:=Z7 ts) (hv:=some v) (j:=0) (sz:=1) (y:=.i (gI ts 0)) kr om (ZW (DL om)) rfl) (Zj 7 8 [4] (dK (fun F h=>F=[(13,.b (Xu n.decls (gI ts 0)))]/\h=[.obj b2 (Y6 s),.obj b1 [Zy n.decls,XB n],.tail v 1]) ?_ ?_))))
      ·refine Wz 5 9 ?_ ?_
       ·exact Y7 5 [] [] [] (DV n.decls (gI ts 0)) (Zj 3 6 [6,7,8] (Z8 9 (dA 9 [] [] [.i 0,.i 0,nl] fun b3=>Z8 10 (Yv 10 0 [] [] b3 (Wm (Vb n.decls (gI ts 0))) (Zj 0 1 [11] (de (ZK ⟨rfl,rfl⟩ (wk [1,1,1] fl))))))))
       exact dA 9 [1] [b1] [.i 0,.i 0,nl] fun b4=>Z8 5 (Y7 5 [] [] [] (DV n.decls (gI ts 0)) (Zj 2 5 [6,7,8] (Z8 10 (Yv 10 0 [] [] b4 (Wm (Vb n.decls (gI ts 0))) (Zj 0 1 [11] (de (ZK ⟨rfl,rfl⟩ (wk [1,1,1] fl))))))))
      rintro F h ⟨rfl,rfl⟩
      refine az (Z0 3 (ie (ar (Z0 3 (ie ?_)))))
      have hS0:=Ak (n:=n) hnn (JN Zv om) (fun q=>ZB (Ji.2 q))
      exact Za (r2 [] [.i (-1),.b (!Xu n.decls (gI ts 0))] ⟨(-1),rfl,rfl,(fun q=>absurd Yc q)⟩ (Zc.tup (.cons (lr _) (.cons (lb (Z85 hS0 Yc X1)) .nil))))
     refine ak (ar (Z0 3 (ie ?_)))
     have hS0:=Ak (n:=n) hnn (JN Zv om) (fun q=>ZB (Ji.2 q))
     exact Za (r2 [] [.i (-1),.b (((((ts.length:Int)==1)&&((gI ts 0) != 0))&&(s.num==0))&&((s.kids.length:Int)==0))] ⟨(-1),rfl,rfl,(fun q=>absurd Yc q)⟩ (Zc.tup (.cons (lr _) (.cons (lb (Z86 hS0 Yc X1)) .nil))))
    refine Z0 1 (ib (b:=((((ts.length:Int)==1)&&((gI ts 0) != 0))&&(s.num==0))) 89 (fun WB=>?_) (fun WB=>?_))
    ·have QI:(((ts.length:Int)=1)/\((gI ts 0)≠0))/\(s.num=0):=((YB (YB Zp Yp) Zp)).1 WB
     exact Z5 2 [0] (iw (VI s.kids) (Z0 2 (Yz (ZO 3 (fw (fr (Zu ((s.kids.length:Int)==0) WB fl)))) hj3)))
    have QJ:¬((((ts.length:Int)=1)/\((gI ts 0)≠0))/\(s.num=0)):=Yg (YB (YB Zp Yp) Zp) WB
    exact Z0 5 (Yz (ZO 3 (fw (fr (Zu false WB fl)))) hj3)
   refine Z0 1 (ib (b:=(((ts.length:Int)==1)&&((gI ts 0) != 0))) 84 (fun WC=>?_) (fun WC=>?_))
   ·have A5:((ts.length:Int)=1)/\((gI ts 0)≠0):=((YB Zp Yp)).1 WC
    exact Z5 4 [0] (Yz (ZO 3 (fw (fr (Zu (s.num==0) WC fl)))) hj2)
   have K9:¬(((ts.length:Int)=1)/\((gI ts 0)≠0)):=Yg (YB Zp Yp) WC
   exact Z0 4 (Yz (ZO 3 (fw (fr (Zu false WC fl)))) hj2)
  refine Z0 2 (ib (b:=((ts.length:Int)==1)) 78 (fun TA=>?_) (fun TA=>?_))
  ·have LX:(ts.length:Int)=1:=(Zp).1 TA
   exact Z0 1 (Zm (Ai (es:=Z7 ts) (hv:=some v) (j:=0) (sz:=1) (y:=.i (gI ts 0)) kr om (ZW (DL om)) rfl) (Z0 3 (Yz (ZO 3 (fw (fr (Zu ((gI ts 0) != 0) TA fl)))) hj1)))
  have LY:¬((ts.length:Int)=1):=Yg Zp TA
  exact Z0 5 (Yz (ZO 3 (fw (fr (Zu false TA fl)))) hj1)
 refine ar (Z5 4 [0] (ie (ac (s.op==7) Zp (fun X3=>?_) (fun X3=>?_))))
 ·refine aq (ar (Z0 1 (iw (Y5 ts) (XH 9 [(1,Z2 us),(3,.p b1 0),(5,.p b2 0),(130,.b (((ts.length:Int) != 1)||((gI ts 0) != 0)))] [.obj b2 (Y6 s),.obj b1 [Zy n.decls,XB n],.tail v 1] ?_ (fun hj4=>?_)))))
  ·refine XH 14 [(1,Z2 us),(3,.p b1 0),(5,.p b2 0),(135,.b ((((ts.length:Int) != 1)||((gI ts 0) != 0))||(s.num != 0)))] [.obj b2 (Y6 s),.obj b1 [Zy n.decls,XB n],.tail v 1] ?_ (fun hj5=>?_)
   ·refine Xa [(1,Z2 us),(3,.p b1 0),(5,.p b2 0),(141,.b (((((ts.length:Int) != 1)||((gI ts 0) != 0))||(s.num != 0))||((s.kids.length:Int) != 2)))] [.obj b2 (Y6 s),.obj b1 [Zy n.decls,XB n],.tail v 1] ?_ ?_
    ·refine Z0 1 (ib (b:=((((ts.length:Int) != 1)||((gI ts 0) != 0))||(s.num != 0))) 136 (fun Jf=>?_) (fun Jf=>?_))
     ·have Gp:(((ts.length:Int)≠1)∨((gI ts 0)≠0))∨(s.num≠0):=((Ys (Ys Yp Yp) Yp)).1 Jf
      exact Z0 5 (ie (ZO 3 (fw (fr (Zu true Jf fl)))))
     have Z1g:¬((((ts.length:Int)≠1)∨((gI ts 0)≠0))∨(s.num≠0)):=Yg (Ys (Ys Yp Yp) Yp) Jf
     exact Z5 2 [0] (iw (VI s.kids) (Z0 2 (ie (ZO 3 (fw (fr (Zu ((s.kids.length:Int) != 2) Jf fl)))))))
    refine ac (((((ts.length:Int) != 1)||((gI ts 0) != 0))||(s.num != 0))||((s.kids.length:Int) != 2)) (p:=((((ts.length:Int)≠1)∨((gI ts 0)≠0))∨(s.num≠0))∨((s.kids.length:Int)≠2)) (Ys (Ys (Ys Yp Yp) Yp) Yp) (fun Vq=>?_) (fun Vq=>?_)
    ·refine ar (Z0 2 (ie ?_))
     have hS0:=Ak (n:=n) hnn (JN Zv om) (fun q=>ZB (Ji.2 q))
     have hS:=Z81 hS0 Yc X3 Vq
     exact Za (r2 [] [.i (-1),.b false] ⟨(-1),rfl,rfl,(by intro _ h;rw [hS] at h;omega)⟩ (Zc.tup (.cons (lr _) (.cons (lb (by rw [hS];rfl)) .nil))))
    refine ak (aD 10 (ZF 6 10 [0,1,2,3] [1,0] (Z8 4 (Rq 4 [0,1] [b2,b1] 2 2 fun v4=>Yf 5 5 [] [(146,UL (List.replicate 2 []))] (Z8 5 (Y7 5 [] [] [] (M7 n us s.kids (List.replicate 2 []) (hnn:=hnn) (hm3:=(by intro m hm;first|(rw [EV hm];simp;done)|(obtain ⟨c,_,rfl⟩:=XS.1 hm;exact VG Xh c))) (hmn:=(by intro m hm f hf;first|(rw [EV hm] at hf;simp at hf;done)|(obtain ⟨c,_,rfl⟩:=XS.1 hm;exact hty.fields c f hf))) (ih:=(fun b us2 h1 h2 h3 h4=>ih b us2 om h2 h3 h4))) (Zj 0 4 [6,7,8,9] (de ?_))))))))
    have hS0:=Ak (n:=n) hnn (JN Zv om) (fun q=>ZB (Ji.2 q))
    have hS:=Z82 hS0 Yc X3 Vq
    exact Za (r2 [] [.i (XV n us s.kids (List.replicate 2 []) true 0),.b (decide (0<=XV n us s.kids (List.replicate 2 []) true 0))] ⟨XV n us s.kids (List.replicate 2 []) true 0,rfl,rfl,(fun _ _=>hS.symm)⟩ (Zc.tup (.cons (lr _) (.cons (lb (by rw [hS])) .nil))))
   refine Z0 1 (ib (b:=(((ts.length:Int) != 1)||((gI ts 0) != 0))) 131 (fun Jg=>?_) (fun Jg=>?_))
   ·have Z1h:((ts.length:Int)≠1)∨((gI ts 0)≠0):=((Ys Yp Yp)).1 Jg
    exact Z0 4 (Yz (ZO 3 (fw (fr (Zu true Jg fl)))) hj5)
   have Z1i:¬(((ts.length:Int)≠1)∨((gI ts 0)≠0)):=Yg (Ys Yp Yp) Jg
   exact Z5 4 [0] (Yz (ZO 3 (fw (fr (Zu (s.num != 0) Jg fl)))) hj5)
  refine Z0 2 (ib (b:=((ts.length:Int) != 1)) 125 (fun Cl=>?_) (fun Cl=>?_))
  ·have Z1j:(ts.length:Int)≠1:=(Yp).1 Cl
   exact Z0 5 (Yz (ZO 3 (fw (fr (Zu true Cl fl)))) hj4)
  have Z1k:¬((ts.length:Int)≠1):=Yg Yp Cl
  exact Z0 1 (Zm (Ai (es:=Z7 ts) (hv:=some v) (j:=0) (sz:=1) (y:=.i (gI ts 0)) kr om (ZW (DL om)) rfl) (Z0 3 (Yz (ZO 3 (fw (fr (Zu ((gI ts 0) != 0) Cl fl)))) hj4)))
 refine ar (Z5 4 [0] (ie (ac (s.op==8) Zp (fun Vj=>?_) (fun Vj=>?_))))
 ·refine ar (Z5 3 [1,0] (Zw [] (Z2g _ s.num) (Z0 1 (ie (aq (aD 24 (Zj 23 24 [0] (dw 1 (Y5 ts) (JV [(1,Z2 us),(3,.p b1 0),(5,.p b2 0),(14,UL ((ZQ n.decls s.num).map (ZU n.decls))),(181,.b (((ts.length:Int) != 1)||(((gI ts 0) != s.num)||((((((ZQ n.decls s.num).map (ZU n.decls)).length:Nat):Int)==0)||((s.kids.length:Int) != ((((ZQ n.decls s.num).map (ZU n.decls)).length:Nat):Int))))))] [.obj b2 (Y6 s),.obj b1 [Zy n.decls,XB n],.tail v 1] ?_ ?_)))))))))
  ·refine Zj 20 22 [2,3] (db (b:=((ts.length:Int) != 1)) 161 (fun AL=>?_) (fun AL=>?_))
   ·have Z1l:(ts.length:Int)≠1:=(Yp).1 AL
    exact Zj 0 20 [4,5,6,7,8,9,10,11,12,13,14,15,16,17,18,19,20,21,22,23] (de (ZO 3 (fq (Zu true AL fl))))
   have Z1m:¬((ts.length:Int)≠1):=Yg Yp AL
   refine Zj 19 20 [4] (dx 5 (Ai (es:=Z7 ts) (hv:=some v) (j:=0) (sz:=1) (y:=.i (gI ts 0)) kr om (ZW (DL om)) rfl) (ZF 12 18 [6,7,8,9,10,11] [0] (db (b:=((gI ts 0) != s.num)) 169 (fun Bv=>?_) (fun Bv=>?_))))
   ·have Z1n:(gI ts 0)≠s.num:=(Yp).1 Bv
    exact Zj 0 12 [12,13,14,15,16,17,18,19,20,21,22,23] (de (ZO 3 (fq (Zu true (And.intro AL Bv) fl))))
   have Gq:¬((gI ts 0)≠s.num):=Yg Yp Bv
   refine Zj 11 12 [12] (dn 13 (.i ((((ZQ n.decls s.num).map (ZU n.decls)).length:Nat):Int)) (.i (((XX ((ZQ n.decls s.num).map (ZU n.decls))).length:Nat):Int)) (li (by rw [DA])) (Zj 7 10 [14,15,16] (db (b:=(((((ZQ n.decls s.num).map (ZU n.decls)).length:Nat):Int)==0)) 174 (fun Cm=>?_) (fun Cm=>?_))))
   ·have Gr:((((ZQ n.decls s.num).map (ZU n.decls)).length:Nat):Int)=0:=(Zp).1 Cm
    exact Zj 0 7 [17,18,19,20,21,22,23] (de (ZO 3 (fq (Zu true (And.intro AL (And.intro Bv Cm)) fl))))
   have LZ:¬(((((ZQ n.decls s.num).map (ZU n.decls)).length:Nat):Int)=0):=Yg Zp Cm
   exact ZF 5 7 [17,18] [0] (dw 19 (VI s.kids) (Zj 3 4 [20] (dn 21 (.i ((((ZQ n.decls s.num).map (ZU n.decls)).length:Nat):Int)) (.i (((XX ((ZQ n.decls s.num).map (ZU n.decls))).length:Nat):Int)) (li (by rw [DA])) (Zj 0 2 [22,23] (de (ZO 3 (fq (Zu ((s.kids.length:Int) != ((((ZQ n.decls s.num).map (ZU n.decls)).length:Nat):Int)) (And.intro AL (And.intro Bv Cm)) fl))))))))
  refine ac (((ts.length:Int) != 1)||(((gI ts 0) != s.num)||((((((ZQ n.decls s.num).map (ZU n.decls)).length:Nat):Int)==0)||((s.kids.length:Int) != ((((ZQ n.decls s.num).map (ZU n.decls)).length:Nat):Int))))) (p:=((ts.length:Int)≠1)∨(((gI ts 0)≠s.num)∨((((((ZQ n.decls s.num).map (ZU n.decls)).length:Nat):Int)=0)∨((s.kids.length:Int)≠((((ZQ n.decls s.num).map (ZU n.decls)).length:Nat):Int))))) (Ys Yp (Ys Yp (Ys Zp Yp))) (fun Vw=>?_) (fun Vw=>?_)
  ·refine ar (Z0 2 (ie ?_))
   have hS0:=Ak (n:=n) hnn (JN Zv om) (fun q=>ZB (Ji.2 q))
   have hS:=Z83 hS0 Yc X3 Vj Vw
   exact Za (r2 [] [.i (-1),.b false] ⟨(-1),rfl,rfl,(by intro _ h;rw [hS] at h;omega)⟩ (Zc.tup (.cons (lr _) (.cons (lb (by rw [hS];rfl)) .nil))))
  refine ak (ar (Z5 5 [1,0] (Zw [] (M7 n us s.kids ((ZQ n.decls s.num).map (ZU n.decls)) (hnn:=hnn) (hm3:=(by intro m hm;first|(rw [EV hm];simp;done)|(obtain ⟨c,_,rfl⟩:=XS.1 hm;exact VG Xh c))) (hmn:=(by intro m hm f hf;first|(rw [EV hm] at hf;simp at hf;done)|(obtain ⟨c,_,rfl⟩:=XS.1 hm;exact hty.fields c f hf))) (ih:=(fun b us2 h1 h2 h3 h4=>ih b us2 om h2 h3 h4))) (Z0 4 (ie ?_)))))
  have hS0:=Ak (n:=n) hnn (JN Zv om) (fun q=>ZB (Ji.2 q))
  have hS:=Z84 hS0 Yc X3 Vj Vw
  exact Za (r2 [] [.i (XV n us s.kids ((ZQ n.decls s.num).map (ZU n.decls)) true 0),.b (decide (0<=XV n us s.kids ((ZQ n.decls s.num).map (ZU n.decls)) true 0))] ⟨XV n us s.kids ((ZQ n.decls s.num).map (ZU n.decls)) true 0,rfl,rfl,(fun _ _=>hS.symm)⟩ (Zc.tup (.cons (lr _) (.cons (lb (by rw [hS])) .nil))))
 refine ar (Z5 2 [0] (iw (VI s.kids) (XH 33 [(3,.p b1 0),(5,.p b2 0),(8,ZJ ts v),(223,.b ((decide ((s.kids.length:Int)>0))||((s.op==10)&&((decide (s.num>=0))&&((decide (s.num<(((n.routines.map Xy).length:Nat):Int)))&&(decide (((((Q5 n s.num).lnt).length:Nat):Int)>0)))))))] [.obj b2 (Y6 s),.obj b1 [Zy n.decls,XB n],.tail v 1] ?_ (fun hj6=>?_))))
 ·refine Z0 1 (ie (ac ((decide ((s.kids.length:Int)>0))||((s.op==10)&&((decide (s.num>=0))&&((decide (s.num<(((n.routines.map Xy).length:Nat):Int)))&&(decide (((((Q5 n s.num).lnt).length:Nat):Int)>0)))))) (p:=((s.kids.length:Int)>0)∨((s.op=10)/\((s.num>=0)/\((s.num<(((n.routines.map Xy).length:Nat):Int))/\(((((Q5 n s.num).lnt).length:Nat):Int)>0))))) (Ys dq (YB Zp (YB dq (YB dq dq)))) (fun UE=>?_) (fun UE=>?_)))
  ·refine ar (Z0 2 (ie ?_))
   have hS0:=Ak (n:=n) hnn (JN Zv om) (fun q=>ZB (Ji.2 q))
   have hS:=stB hS0 Yc X3 Vj UE
   exact Za (r2 [] [.i (-1),.b false] ⟨(-1),rfl,rfl,(by intro _ h;rw [hS] at h;omega)⟩ (Zc.tup (.cons (lr _) (.cons (lb (by rw [hS];rfl)) .nil))))
  refine ak (ar (TD 6 [(229,Z2 ts)] [1,0,0] (ic [] (Z2h _ s.op s.num ts) ?_)))
  rintro _ _ ⟨t1,rfl,rfl,DS⟩
  refine Z0 4 (ie ?_)
  have hS0:=Ak (n:=n) hnn (JN Zv om) (fun q=>ZB (Ji.2 q))
  have hS:=stS hS0 Yc X3 Vj UE
  exact Za (r2 [] [.i t1,.b ((Xk n s.op s.num ts).isSome)] ⟨t1,rfl,rfl,(Z88 hS DS)⟩ (Zc.tup (.cons (lr _) (.cons (lb (Z87 hty hS)) .nil))))
 refine Z0 2 (ib (b:=(decide ((s.kids.length:Int)>0))) 195 (fun A3=>?_) (fun A3=>?_))
 ·have Z9t:(s.kids.length:Int)>0:=(dq).1 A3
  exact Z0 28 (Yz (ZO 3 (fw (fr (Zu true A3 fl)))) hj6)
 have Z9u:¬((s.kids.length:Int)>0):=Yg dq A3
 refine Z5 4 [0] (ib (b:=(s.op==10)) 199 (fun AM=>?_) (fun AM=>?_))
 ·have Z9v:s.op=10:=(Zp).1 AM
  refine Z5 5 [0] (ib (b:=(decide (s.num>=0))) 204 (fun Bw=>?_) (fun Bw=>?_))
  ·have Z9w:s.num>=0:=(dq).1 Bw
   refine Z5 4 [0,1] (io (.i (((n.routines.map Xy).length:Nat):Int)) (.i (((UC (n.routines.map Xy)).length:Nat):Int)) (li (by rw [C9])) (Z0 3 (ib (b:=(decide (s.num<(((n.routines.map Xy).length:Nat):Int)))) 212 (fun Bx=>?_) (fun Bx=>?_))))
   ·have Z9x:s.num<(((n.routines.map Xy).length:Nat):Int):=(dq).1 Bx
    exact Z5 4 [1,0] (Zm (Ai (es:=UC (n.routines.map Xy)) (hv:=none) (j:=s.num) (sz:=3) (y:=Fb (Q5 n s.num)) kr om (Bm (Z6k om)) rfl) (Z0 2 (io (.i ((((Q5 n s.num).lnt).length:Nat):Int)) (.i (((Z7 ((Q5 n s.num).lnt)).length:Nat):Int)) (li (by rw [Y5])) (Z0 3 (Yz (ZO 3 (fw (fr (Zu (decide (((((Q5 n s.num).lnt).length:Nat):Int)>0)) (And.intro A3 (And.intro AM (And.intro Bw Bx))) fl)))) hj6)))))
   have Z9y:¬(s.num<(((n.routines.map Xy).length:Nat):Int)):=Yg dq Bx
   exact Z0 11 (Yz (ZO 3 (fw (fr (Zu false (And.intro A3 (And.intro AM (And.intro Bw Bx))) fl)))) hj6)
  have Z9z:¬(s.num>=0):=Yg dq Bw
  exact Z0 19 (Yz (ZO 3 (fw (fr (Zu false (And.intro A3 (And.intro AM Bw)) fl)))) hj6)
 have Za0:¬(s.op=10):=Yg Zp AM
 exact Z0 24 (Yz (ZO 3 (fw (fr (Zu false (And.intro A3 AM) fl)))) hj6)
theorem Z29 (n:Zt) (us:LI) (b:Z6) (hn:X0 n) (hnn:∀t∈us,0<=t) (hb:us.length+4*b.sz<=1000000000) (hr:b.rng) (ih:∀(s:Z4) (us:LI),(s.sz<b.sz)->(us.length+4*s.sz<=1000000000)->(s.rng)->(∀t∈us,0<=t)->Zk 93 [.agg [Zy n.decls,XB n],Z2 us,Yt s] [] (fun r h=>∃(t:Int),r=.tup [.i t,.b (decide (0<=Y0 n us s))]/\h=[]/\(¬Yl s.op=true->0<=Y0 n us s->t=Y0 n us s))):Zk 56 [.agg [Zy n.decls,XB n],Z2 us,ZT b] [] (Yk (.i (YU n us b))):=by
 have hbz:=Vg b
 have hbe:=Dj n us b
 rw [b.rng_eq] at hr
 refine ZE 54 Tryz.func56 (ar (iA [Zy n.decls,XB n] fun b1=>iA (Yb b) fun b2=>Z0 1 (ie (ar (Z0 1 (ic [] (PO us) ?_))))))
 rintro _ _ ⟨v1,rfl,rfl⟩
 refine Z0 1 (ie (aq (ar (Z5 2 [1] (iw (Vi b.steps) (Z0 1 (ie (ab 0 (al (fun m F h=>∃(k:Nat) (vs:LI) (v:Value),(k<=b.steps.length)/\(vs.length<=us.length+k)/\(∀t∈vs,0<=t)/\(Wb n (b.steps.drop k) vs=Wb n b.steps us)/\F=[(3,.p b1 0),(5,.p b2 0),(7,ZJ vs v),(15,Xw b.steps),(16,.i b.steps.length),(17,.i k)]/\h=[.obj b2 (Yb b),.obj b1 [Zy n.decls,XB n],.tail v 1]/\m=b.steps.length-k) _ _ _ ⟨0,us,v1,ob,ob,ob,ob,rfl,rfl,rfl⟩ (wk [1,1,0] (fq (fr (Y2 fl)))) ?_)))))))))
 rintro m F h ⟨k,vs,v,Ya,Zl,Zv,YC,rfl,rfl,rfl⟩
 refine ar (Z0 1 (ie (aq (ZG ((k:Int)<(b.steps.length:Int)) (fun Zb=>?_) (fun Zb=>?_)))))
 ·refine ak (aq (ab 1 (ar ?_)))
  obtain ⟨x1,Z3⟩:=Zr b.steps k om
  have hss:=Jt Z3
  have hsr:=Og hr Z3
  refine Zm (Zh none (k:Int) 5 (W3 Z3)) (Z0 1 (iA [.i 0,.i 0,.i 0,nl,nl] fun b3=>ZA 0 b3 (Y6 x1) (ie (ar (TD 3 [(23,Z2 vs)] [2,0] (ic [] (ih x1 vs ob ob ob ob) ?_))))))
  rintro _ _ ⟨t1,rfl,rfl,Y1⟩
  refine Z0 5 (ie (aq (ar (Z0 2 (ie (ac (!decide (0<=Y0 n vs x1)) (p:=¬(decide (0<=Y0 n vs x1)=true)) (YI Iff.rfl) (fun Zf=>?_) (fun Zf=>?_)))))))
  ·exact ar (Z0 1 (ie (Za (ZX (.i (-1)) (li (by rw [hbe,<-YC,Z8q Z3 (fun q=>Zf (decide_eq_true q)) rfl]))))))
  refine ak (ar (Z5 2 [0] (Zw [] (Gu x1.op) (Z0 1 (ie (JK (fun F h=>∃(w:Value),F=[(3,.p b1 0),(5,.p b2 0),(7,ZJ (if Yl x1.op=true then vs else vs++[t1]) w),(15,Xw b.steps),(16,.i b.steps.length),(17,.i k)]/\h=[.obj b2 (Yb b),.obj b1 [Zy n.decls,XB n],.tail w 1]) (fun _ _=>rfl) ?_ ?_))))))
  ·refine ac (!Yl x1.op) (p:=¬(Yl x1.op=true)) (YI Iff.rfl) (fun ZB=>?_) (fun ZB=>?_)
   ·exact az (Z0 2 (iL (Z7 [t1]) 1 1 fun v2=>ZP 0 [(36,Z2 [t1])] (ip 4 (Z7 (vs++[t1])) (Z7 vs) (Z7 [t1]) v none 1 (Yq _) (Yq _) (XL _) (by simp<;>omega) (by simp [XK,Z7]) fun v3=>Z0 1 (ie (ZK ⟨v3,rfl,rfl⟩ (wk [3,3,0] (fw (fc (x:=ZJ (vs++[t1]) v3) (Zc.slh _ (Yj Z7 (by first|rfl|(rw [Zg ZB])|(rw [Z9 ZB])|(simp [ZB];done)|(rw [X7];simp [ZB];done)|omega))) fl))))))))
   exact ak (ZK ⟨v,rfl,rfl⟩ (wk [1,1,1] (fw (fc (x:=ZJ vs v) (Zc.slh _ (Yj Z7 (by first|rfl|(rw [Zg ZB])|(rw [Z9 ZB])|(simp [ZB];done)|(rw [X7];simp [ZB];done)|omega))) fl))))
  rintro F h ⟨w,rfl,rfl⟩
  refine az (ZD k (Z0 1 (ie ?_)))
  have h0:0<=Y0 n vs x1:=of_decide_eq_true (VE.1 Zf)
  exact ZI ⟨k+1,(if Yl x1.op=true then vs else vs++[t1]),w,ob,(by split<;>(try simp)<;>omega),(Z46 Zv (fun q=>by rw [Y1 q h0];exact h0)),(Z8p Z3 h0 Y1 YC),rfl,rfl,rfl⟩ (ZO 3 (fq (fr (ZM k fl))))
 refine ax 0 (aq (ar (Xa [(5,.p b2 0),(7,ZJ vs v),(48,.b ((decide (b.result<0))||(decide (b.result>=(vs.length:Int)))))] [.obj b2 (Yb b),.obj b1 [Zy n.decls,XB n],.tail v 1] ?_ ?_)))
 ·refine Z5 4 [0] (ib (b:=(decide (b.result<0))) 42 (fun Zd=>?_) (fun Zd=>?_))
  ·exact Z0 6 (ie (ZO 3 (fw (Zu true Zd fl))))
  exact Z5 3 [0] (iw (Y5 vs) (Z0 2 (ie (ZO 3 (fw (Zu (decide (b.result>=(vs.length:Int))) Zd fl))))))
 refine ac ((decide (b.result<0))||(decide (b.result>=(vs.length:Int)))) (p:=(b.result<0)∨(b.result>=(vs.length:Int))) (Ys dq dq) (fun Yc=>?_) (fun Yc=>?_)
 ·exact ar (Z0 1 (ie (Za (ZX (.i (-1)) (li (by rw [hbe,<-YC,X8 om];show _=(YZ vs b.result).getD (-1);rw [Qg om];rfl))))))
 refine ak (ar (Z5 3 [0] ?_))
 obtain ⟨x2,Zs⟩:=Zr vs b.result.toNat om
 exact Zm (Zh (some v) b.result 1 (ZW Zs)) (Z0 2 (ie (Za (ZX (.i x2) (li (by rw [hbe,<-YC,X8 om];show _=(YZ vs b.result).getD (-1);rw [Tv om Zs];rfl))))))
theorem Z27 (n:Zt) (hn:X0 n) (hty:B8 n) (m:Nat):∀(b:Z6) (us:LI),(b.sz<=m)->(us.length+4*b.sz<=1000000000)->(b.rng)->(∀t∈us,0<=t)->Zk 56 [.agg [Zy n.decls,XB n],Z2 us,ZT b] [] (Yk (.i (YU n us b))):=by
 induction m with
 | zero=>intro b us h;have:=b.sz_pos;omega
 | succ m ih=>intro b us h1 h2 h3 h4;exact Z29 n us b hn h4 h2 h3 fun s us2 k1 k2 k3 k4=>Z2i n us2 s hn hty k4 k2 k3 fun b2 us3 q1 q2 q3 q4=>ih b2 us3 om q2 q3 q4
theorem Z28 (n:Zt) (us:LI) (b:Z6) (hn:X0 n) (hty:B8 n) (hnn:∀t∈us,0<=t) (hb:us.length+4*b.sz<=1000000000) (hr:b.rng):Zk 56 [.agg [Zy n.decls,XB n],Z2 us,ZT b] [] (Yk (.i (YU n us b))):=
 Z27 n hn hty b.sz b us (YX _) hb hr hnn
theorem Z24 (n:Zt) (hz:UX n:=by exact ob) (hr:∀r∈n.routines,r.body.rng):Zk 19 [Ye n] [] (Yk (.b (Wi n))):=by
 have hzl:=hz.len
 refine ZE 37 Tryz.func19 (ar (iA (ZH n) fun b1=>Z0 1 (ie (ar (Z5 1 [0] (ic [] (Z2f n) ?_))))))
 rintro _ _ (⟨rfl,rfl,Y1⟩|⟨rfl,rfl,Yi⟩)
 ·refine Z0 3 (iA [nl,nl] fun b2=>ZA 0 b2 [Zy n.decls,XB n] (Z0 1 (ie (aq (ar (Z0 2 (ie (ac (!VU n) (p:=¬(VU n=true)) (YI Iff.rfl) (fun Zb=>?_) (fun Zb=>?_)))))))))
  ·exact ar (Z0 1 (ie (Za (ZX (.b false) (lb (by rw [Wi,Km.2 Zb];rfl))))))
  have hsg:VU n=true:=by simpa using Zb
  have hok:=GW hz hsg
  have hty:=Z47 hsg
  refine ak (aq (ar (Z5 2 [1] (iw (VS n.routines) (Z0 1 (ie (ab 0 (al (fun m F h=>∃(k:Nat),(k<=n.routines.length)/\(T9 n (n.routines.drop k)=T9 n n.routines)/\F=[(3,.p b2 0),(15,T5 n.routines),(16,.i n.routines.length),(17,.i k)]/\h=[.obj b2 [Zy n.decls,XB n]]/\m=n.routines.length-k) _ _ _ ⟨0,ob,ob,rfl,rfl,rfl⟩ (wk [0] (fw (fr (Y2 fl)))) ?_))))))))
  rintro m F h ⟨k,Ya,Zl,rfl,rfl,rfl⟩
  refine ar (Z0 1 (ie (aq (ZG ((k:Int)<(n.routines.length:Int)) (fun Zf=>?_) (fun Zf=>?_)))))
  ·refine ak (aq (ab 1 (ar ?_)))
   obtain ⟨x1,Z3⟩:=Zr n.routines k om
   have hrm:=ZZ Z3
   have Zz:=hz.body _ hrm
   have hps:=hok.params_at Z3
   refine Zm (Zh none (k:Int) 5 (Wf Z3)) (Z0 1 (iA [nl,nl,.i 0,nl,.i 0] fun b3=>ZA 0 b3 (Vl x1) (ie (aD 15 (ZF 13 15 [0,1] [0] (Z8 2 (Y7 2 [] [] [] (M4 x1.body) (JV [(3,.p b2 0),(15,T5 n.routines),(16,.i n.routines.length),(17,.i k),(35,.b ((decide ((V9 x1.body)<0))||((YU n x1.params x1.body) != x1.result)))] [.obj b3 (Vl x1),.obj b2 [Zy n.decls,XB n]] ?_ ?_))))))))
   ·refine Zj 10 12 [3,4] (db (b:=(decide ((V9 x1.body)<0))) 25 (fun Zd=>?_) (fun Zd=>?_))
    ·have YM:(V9 x1.body)<0:=(dq).1 Zd
     exact Zj 0 10 [5,6,7,8,9,10,11,12,13,14] (de (wk [0,0] (fq (Zu true Zd fl))))
    have YW:¬((V9 x1.body)<0):=Yg dq Zd
    exact ZF 3 10 [5,6,7,8,9,11,12] [1,0,0,0] (Z8 10 (Y7 10 [] [0] [b3] (Z28 n x1.params x1.body ob hty (hty.params _ hrm) ob (hr _ hrm)) (Zj 0 2 [13,14] (de (wk [0,0] (fq (Zu ((YU n x1.params x1.body) != x1.result) Zd fl)))))))
   refine ac ((decide ((V9 x1.body)<0))||((YU n x1.params x1.body) != x1.result)) (p:=((V9 x1.body)<0)∨((YU n x1.params x1.body)≠x1.result)) (Ys dq Yp) (fun ZB=>?_) (fun ZB=>?_)
   ·refine ar (Z0 1 (ie ?_))
    rw [Y4 Z3] at Zl
    exact Za (ZX (.b false) (lb (by clear Z3;first|rfl|omega|grind [T9,Wi])))
   refine ak (az (ZD k (Z0 1 (ie ?_))))
   have hdr:=Y4 Z3
   exact ZI ⟨k+1,ob,(by rw [hdr] at Zl;clear hdr Z3;grind [T9]),rfl,rfl,rfl⟩ (wk [1] (fw (fr (ZM k fl))))
  refine ax 0 (ar (Z0 1 (ie ?_)))
  try rw [X8 (xs:=n.routines) (k:=k) om] at Zl
  exact Za (ZX (.b true) (lb (by first|rfl|omega|grind [T9,Wi])))
 exact Z0 3 (iA [nl,nl] fun b4=>ZA 0 b4 [Zy [],Qo []] (Z0 1 (ie (aq (ar (Z0 2 (ie (WJ (ar (Z0 1 (ie (Za (ZX (.b false) (lb (by rw [Wi,‹VU n=false›];rfl)))))))))))))))
open Go.Proofs
theorem Rn (s:Z4) (cc:Nat) (g:Hd) (c0:LI) (q:Int) (hcb:CB c0 q:=by exact ob) (hq:0<=q/\q<=4000000000000:=by exact ob):Zk 65 [Yt s,.p cc 0] [.obj cc [.h g],rV g c0] (fun r h=>h=[.obj cc [.h g],rV g (XI s.op c0)]):=by
 refine ZE 14 Tryz.func65 (ar (iA (Y6 s) fun b1=>ie (ar (Z5 2 [0] (Zw [] (Gu s.op) (ie (ac (Yl s.op) Iff.rfl (fun Zb=>?_) (fun Zb=>?_))))))))
 ·have hr:=IN Zb
  have hgx:0<=gI c0 (s.op-14)/\gI c0 (s.op-14)<=q:=hcb.at om
  have hlc:=hcb.len
  refine az (Z5 3 [1,0] (ia ((s.op-14)) ((s.op)-(14)) (Zm (V0 2 g c0 (s.op-14) ((s.op-14).toNat) (hq:=rfl)) ?_)))
  obtain ⟨x1,Z3⟩:=Zr c0 ((s.op-14).toNat) om
  have hgy:=VJ Z3
  exact Vz (UW 2 g c0 ((s.op-14).toNat) x1 Z3) (ia ((x1+1)) ((x1)+(1)) (Zm (V0 2 g c0 (s.op-14) ((s.op-14).toNat) (hq:=rfl)) (Gs 2 g c0 ((s.op-14).toNat) (x1+1) (ie (r2 [2,0] [] rfl (lr _) (eq:=(rc (rv (xs:=(c0.set ((s.op-14).toNat) (x1+1))) (by rw [Iq Zb,hgy]) rz))))))))
 exact ak (r2 [1,1] [] rfl (lr _) (eq:=(rc (rv (xs:=c0) (Ip Zb).symm rz))))
theorem Z2m (b:Z6) (cc:Nat) (g:Hd) (c0:LI) (q:Int) (hcb:CB c0 q) (hq:0<=q/\q+b.sz<=4000000000000) (hz:b.sz<=1000000000) (ih:∀(b2:Z6) (cc:Nat) (g:Hd) (c2:LI) (q2:Int),(CB c2 q2)->(0<=q2/\q2+b2.sz<=4000000000000)->(b2.sz<=1000000000)->(b2.sz<b.sz)->Zk 64 [ZT b2,.val (.func (.func 65) #[] #[.pointer (some ⟨cc,0,none⟩)])] [.obj cc [.h g],rV g c2] (fun r h=>h=[.obj cc [.h g],rV g (Wy b2 c2)])):Zk 64 [ZT b,.val (.func (.func 65) #[] #[.pointer (some ⟨cc,0,none⟩)])] [.obj cc [.h g],rV g c0] (fun r h=>h=[.obj cc [.h g],rV g (Wy b c0)]):=by
 have hbz:=Vg b
 have hbe:=b.sz_eq
 refine ZE 30 Tryz.func64 (ar (iA (Yb b) fun b1=>?_))
 refine ie (ar (Z5 2 [0] (iw (Vi b.steps) (Z0 1 (ie (ab 0 (al (fun m F h=>∃(k:Nat) (c:LI),(k<=b.steps.length)/\(CB c (q+Y8 (b.steps.take k)))/\(Vc (b.steps.drop k) c=Vc b.steps c0)/\F=[(1,.val (.func (.func 65) #[] #[.pointer (some ⟨cc,0,none⟩)])),(9,Xw b.steps),(10,.i b.steps.length),(11,.i k)]/\h=[.obj cc [.h g],rV g c]/\m=b.steps.length-k) _ _ _ ⟨0,c0,ob,(hcb.le (by rw [List.take_zero,Y8];omega)),rfl,rfl,rfl,rfl⟩ (wk [1,1] (fw (fr (Y2 fl)))) ?_)))))))
 rintro m F h ⟨k,c,Ya,Zl,Zv,rfl,rfl,rfl⟩
 refine ar (Z0 1 (ie (aq (ZG ((k:Int)<(b.steps.length:Int)) (fun Zb=>?_) (fun Zb=>?_)))))
 ·refine ak (aq (ab 1 (ar ?_)))
  obtain ⟨x1,Z3⟩:=Zr b.steps k om
  have Xi:=Jt Z3
  have hkz:=UJ x1
  have htk:=D0 Z3
  have htl:=TH b.steps (k+1)
  have hse:=x1.sz_eq
  refine Zm (Zh none (k:Int) 5 (W3 Z3)) (Z0 1 (iA [.i 0,.i 0,.i 0,nl,nl] fun b2=>ZA 0 b2 (Y6 x1) (ie (ar (Z5 2 [0] (ic [1,1] (Rn x1 cc g c (q+Y8 (b.steps.take k)) (hcb:=Zl)) ?_))))))
  rintro _ _ rfl
  refine ie (ar (Z5 2 [2] (iw (VI x1.kids) (Z0 1 (ie (ab 2 (al (fun m F h=>∃(j:Nat) (c2:LI),(j<=x1.kids.length)/\(CB c2 (q+Y8 (b.steps.take k)+1+YE (x1.kids.take j)))/\(WT (x1.kids.drop j) c2=WT x1.kids (XI x1.op c))/\F=[(1,.val (.func (.func 65) #[] #[.pointer (some ⟨cc,0,none⟩)])),(9,Xw b.steps),(10,.i b.steps.length),(11,.i k),(19,Xt x1.kids),(20,.i x1.kids.length),(21,.i j)]/\h=[.obj cc [.h g],rV g c2]/\m=x1.kids.length-j) _ _ _ ⟨0,(XI x1.op c),ob,((Zl.one om x1.op).le (by rw [List.take_zero,YE];omega)),rfl,rfl,rfl,rfl⟩ (wk [0,0] (fq (fw (Y2 fl)))) ?_)))))))
  rintro m F h ⟨j,c2,VQ,XA,Xm,rfl,rfl,rfl⟩
  refine ar (Z0 1 (ie (aq (ZG ((j:Int)<(x1.kids.length:Int)) (fun Zf=>?_) (fun Zf=>?_)))))
  ·refine ak (aq (ab 3 (ar ?_)))
   obtain ⟨x2,Zs⟩:=Zr x1.kids j om
   have hks:=UH Zs
   have hbt:=Ba Zs
   refine Zm (Zh none (j:Int) 2 (Uc Zs)) (Z0 1 (iA [nl,.i 0] fun b3=>ZA 0 b3 (Yb x2) (ie (az (Z5 2 [0] (ic [1,1] (ih x2 cc g c2 (q+Y8 (b.steps.take k)+1+YE (x1.kids.take j)) XA ob ob ob) ?_))))))
   rintro _ _ rfl
   exact ie (az (ZD j (Z0 1 (ie (ZI ⟨j+1,(Wy x2 c2),ob,(by rw [Wv Zs,Fl];exact ((XA.b x2 om).le om)),(It Zs Xm),rfl,rfl,rfl⟩ (wk [0,0] (fq (fw (ZM j fl)))))))))
  have hKe:=Is om Xm
  have hbj:=C4 (xs:=x1.kids) (k:=j) om
  exact ax 2 (az (ZD k (Z0 1 (ie (ZI ⟨k+1,(WT x1.kids (XI x1.op c)),ob,(by rw [<-hKe];exact XA.le om),(IC Z3 Zv),rfl,rfl,rfl⟩ (wk [0,0] (fw (fr (ZM k fl))) (e:=(rc (rv (xs:=c2) hKe rz)))))))))
 exact ax 0 (r2 [0,0] [] rfl (lr _) (eq:=(rc (rv (xs:=c) (by rw [Dq];exact IB om Zv) rz))))
theorem Z2k (k:Nat):∀(b2:Z6) (cc:Nat) (g:Hd) (c2:LI) (q2:Int),(CB c2 q2)->(0<=q2/\q2+b2.sz<=4000000000000)->(b2.sz<=1000000000)->(b2.sz<k)->Zk 64 [ZT b2,.val (.func (.func 65) #[] #[.pointer (some ⟨cc,0,none⟩)])] [.obj cc [.h g],rV g c2] (fun r h=>h=[.obj cc [.h g],rV g (Wy b2 c2)]):=by
 induction k with
 | zero=>intro b cc g c q _ _ _ h;omega
 | succ k ih=>intro b cc g c q h1 h2 h3 h4;exact Z2m b cc g c q h1 h2 h3 fun b2 cc2 g2 c2 q2 k1 k2 k3 k4=>ih b2 cc2 g2 c2 q2 k1 k2 k3 om
theorem Z2l (b:Z6) (cc:Nat) (g:Hd) (c0:LI) (q:Int) (hcb:CB c0 q:=by exact ob) (hq:0<=q/\q+b.sz<=4000000000000:=by exact ob) (hz:b.sz<=1000000000:=by exact ob):Zk 64 [ZT b,.val (.func (.func 65) #[] #[.pointer (some ⟨cc,0,none⟩)])] [.obj cc [.h g],rV g c0] (fun r h=>h=[.obj cc [.h g],rV g (Wy b c0)]):=Z2k (b.sz+1) b cc g c0 q hcb hq hz om
theorem Z23 (n:Zt) (hz:UX n:=by exact ob) (hr:∀r∈n.routines,r.body.rng):Zk 26 [Ye n] [] (fun r h=>∃(w:Hd),r=.h w/\h=[rV w (if Wi n=true then Qi n else [])]):=by
 refine ZE 23 Tryz.func26 (ar (iA (ZH n) fun b1=>Z0 1 (ie (aq (ar (Z5 1 [0] (Zw [] (Z24 n (hr:=hr)) (Z0 1 (ie (ac (!Wi n) (p:=¬(Wi n=true)) (YI Iff.rfl) (fun Zb=>?_) (fun Zb=>?_)))))))))))
 ·exact ar (Z0 1 (ie (Df Ju (Za (r2 [0] [nl] ⟨hN,rfl,rfl⟩ (Zc.hd (v:=hN)) (eq:=(rv (xs:=[]) (by rw [Z9 Zb]) rz)))))))
 have hV:Wi n=true:=VE.1 Zb
 obtain ⟨hn,hvt⟩:=HI hz hV
 have hzl:=hn.len
 refine ak (ar (iVM 4 fun v1=>iA [nl] fun b2=>?_))
 refine ZA 0 b2 [.h v1] (ie (aq (ar (Z5 2 [2] (iw (VS n.routines) (Z0 1 (ie (ab 0 (al (fun m F h=>∃(k:Nat) (c:LI),(k<=n.routines.length)/\(CB c (10000000*k))/\(WU (n.routines.drop k) c=Qi n)/\F=[(3,.p b2 0),(11,T5 n.routines),(12,.i n.routines.length),(13,.i k)]/\h=[.obj b2 [.h v1],rV v1 c]/\m=n.routines.length-k) _ _ _ ⟨0,(List.replicate 4 0),ob,⟨rfl,fun x hx=>by simp at hx;omega⟩,rfl,rfl,rfl,rfl⟩ (wk [0,0] (fw (fr (Y2 fl)))) ?_)))))))))
 rintro m F h ⟨k,c,Ya,Zl,Zv,rfl,rfl,rfl⟩
 refine ar (Z0 1 (ie (aq (ZG ((k:Int)<(n.routines.length:Int)) (fun Zf=>?_) (fun Zf=>?_)))))
 ·refine ak (aq (ab 1 (ar ?_)))
  obtain ⟨x1,Z3⟩:=Zr n.routines k om
  have hrm:=ZZ Z3
  have hbz:=hz.body _ hrm
  refine Zm (Zh none (k:Int) 5 (Wf Z3)) (Z0 1 (iA [nl,nl,.i 0,nl,.i 0] fun b3=>ZA 0 b3 (Vl x1) (ie (az (Z5 3 [0] (ic [1,1] (Z2l x1.body b2 v1 c (10000000*(k:Int)) (hcb:=Zl)) ?_))))))
  rintro _ _ rfl
  exact ie (az (ZD k (Z0 1 (ie (ZI ⟨k+1,(Wy x1.body c),ob,((Zl.b x1.body om).le om),(Ix Z3 Zv),rfl,rfl,rfl⟩ (wk [0,0] (fw (fr (ZM k fl)))))))))
 exact ax 0 (ar (Z5 2 [0] (ie (Za (r1 [1] ⟨v1,rfl,rfl⟩ (eq:=(rv (xs:=c) (by rw [Zg hV];exact Iw om Zv) rz)))))))
abbrev Mem:=Nat->Nat->Option Value
abbrev Ar:=Nat × Nat
def upd (m:Mem) (a:Ar) (z:Int):Mem:=fun g o=>if g=a.1/\o=a.2 then some (.int .i64 z) else m g o
def wr (m:Mem):List Ar->Int->Mem
 | [],_=>m
 | a::r,k=>wr (upd m a k) r (k+1)
def DR (m:Mem):List Ar->Int->Prop
 | [],_=>True
 | a::r,k=>m a.1 a.2=some (.int .i64 k)/\DR m r (k+1)
def Mb (m:Mem) (a:Ar):Prop:=∃z,m a.1 a.2=some (.int .i64 z)
structure Kp (m m':Mem):Prop where
 i:∀{a:Ar},Mb m a->Mb m' a
 h:∀{g o:Nat} {v:Value},m g o=some v->(∀z,v≠.int .i64 z)->m' g o=some v
section
variable {P:Program} {n:Nat} {ops:Array Oper} {B:Fr->List Res->Prop} {k:Nat} {F:Fr} {h h2:List Res}
end
section
variable {m m':Mem} {B:List Nat}
end
section
variable {m:Mem} {B:List Nat} {g:Nat}
end
section
variable {m:Mem} {B:List Nat}
end
def Zn (g lo hi:Nat) (X:List Nat) (a:Ar):Prop:=(a.1=g/\lo<=a.2/\a.2<hi)∨a.1∈X
structure Nd (g lo hi:Nat) (X:List Nat) (as1:List Ar):Prop where
 nd:(X.Nodup/\g∉X)->as1.Nodup
 zn:∀a∈as1,Zn g lo hi X a
section
variable {m:Mem} {B:List Nat}
end
def GB (B:List Nat):Y3:=fun b _=>b∈B
section
variable {w:World} {G:Y3} {B:List Nat}
end
section
variable {w:World} {G:Y3} {B:List Nat}
def LV:Value->Hd
 | .slice a l c=>⟨a,l,c⟩
 | _=>⟨none,0,0⟩
abbrev av (y:OY):AV:=.agg [.h (LV y.dv),.h (LV y.rv)]
end
def P1 (B:List Nat) (m:Mem) (x:AV) (u:Value):Prop:=
 ∀w:World,(∀b∈B,∃cs e,w.heap[b]? = some (.cells cs e (0,0))/\∀o,cs[o]? = m b o)->RV w (GB B) x u
inductive BW (bs:List Res):List AV->List AV->Prop
 | nil:BW bs [] []
 | same {x as1 xs} (t:BW bs as1 xs):BW bs (x::as1) (x::xs)
 | gen {B m x a u as1 xs} (h:Res.own B m∈bs) (hr:P1 B m x u) (ha:∀w G v,RV w G a v->v=u) (t:BW bs as1 xs):BW bs (a::as1) (x::xs)
section
variable {P:Program} {n:Nat} {ops:Array Oper} {B:Fr->List Res->Prop} {k:Nat} {F:Fr} {h:List Res}
end
end Go.Abs
section
namespace Go.Abs
section
variable {P:Program} {n:Nat} {ops:Array Oper} {B:Fr->List Res->Prop} {k:Nat} {F:Fr} {h:List Res}
end
end Go.Abs
namespace Go.Abs
theorem XW.frzI {P:Program} {f:FuncId} {as1:List AV} {h0:List Res} {xs:LI} (H:XW P f as1 h0 (fun r h=>∃v:Hd,r=.h v/\h=[rV v xs])) :
  XW P f as1 h0 (fun r h=>r=Z2 xs/\h=[]):=by
 intro w G vs hv hh
 refine (H w G vs hv hh).mono ?_
 rintro e w' ⟨u,r,h',G',he,⟨v,rfl,rfl⟩,hr,hh',hx⟩
 obtain ⟨G2,h1,h2,h3⟩:=OM hh' (fun y hy=>by simp only [Z7,XS] at hy;obtain ⟨x,_,rfl⟩:=hy;rfl)
 have hrv:=hr.val_inv
 subst hrv
 have hw:Zc (.sl (Z7 xs) (some v.v)) (Z2 xs):=Zc.forget _ _
 exact ⟨_,_,[],G2,he,⟨rfl,rfl⟩,hw _ _ _ h3,h1.sub (KS _ _),(hx.trans h2).sub' (KS _ _)⟩
end Go.Abs
namespace Go.Abs
end Go.Abs
end
namespace Go.Abs
open Go.Proofs
theorem E4 (xs:LI) (ys:LI) (hxl:xs.length<=1000000000:=by exact ob) (hyl:ys.length<=1000000000:=by exact ob):Zk 27 [Z2 xs,Z2 ys] [] (Yk (.b (decide (xs=ys)))):=by
 refine ZE 26 Tryz.func27 (ar (Z0 1 (ie (aq (ar (Z0 1 (iw (Y5 xs) (Z0 1 (iw (Y5 ys) (Z0 1 (ie (ac ((xs.length:Int) != (ys.length:Int)) Yp (fun Zb=>?_) (fun Zb=>?_)))))))))))))
 ·exact ar (Z0 1 (ie (Za (ZX (.b false) (lb (decide_eq_false (fun z=>Zb (by rw [z]))).symm)))))
 refine ak (aq (ar (Z0 1 (ie (ab 0 (al (fun m F h=>∃(k:Nat),(k<=xs.length)/\(∀i,i<k->xs[i]? = ys[i]?)/\F=[(0,Z2 xs),(1,Z2 ys),(5,.i k)]/\h=[]/\m=xs.length-k) _ _ _ ⟨0,ob,(fun i h=>absurd h om),rfl,rfl,rfl⟩ (wk [] (fw (Y2 fl))) ?_))))))
 rintro m F h ⟨k,Ya,Zl,rfl,rfl,rfl⟩
 refine aq (ar (Z0 2 (iw (Y5 xs) (Z0 1 (ie (ZG ((k:Int)<(xs.length:Int)) (fun Zf=>?_) (fun Zf=>?_)))))))
 ·refine ak (aq (ab 1 (aD 9 (Zj 7 9 [0,1] ?_))))
  obtain ⟨x1,Z3⟩:=Zr xs k om
  refine dx 2 (Zh none (k:Int) 1 (ZW Z3)) (Zj 3 6 [3,4,5] ?_)
  obtain ⟨x2,Zs⟩:=Zr ys k om
  refine dx 6 (Zh none (k:Int) 1 (ZW Zs)) (Zj 0 2 [7,8] (de (ac (x1 != x2) Yp (fun ZB=>?_) (fun ZB=>?_))))
  ·exact ar (Z0 1 (ie (Za (ZX (.b false) (lb (decide_eq_false (fun z=>ZB (by rw [z,Zs] at Z3;cases Z3;rfl))).symm)))))
  exact ak (az (Z0 1 (ZD k (Z0 1 (ie (ZI ⟨k+1,ob,(fun i h=>(Nat.lt_succ_iff_lt_or_eq.1 h).elim (Zl i) (fun z=>by rw [z,Z3,Zs,VE.1 ZB])),rfl,rfl,rfl⟩ (wk [] (fw (ZM k fl)))))))))
 exact ax 0 (ar (Z0 1 (ie (Za (ZX (.b true) (lb (decide_eq_true (Sf om (fun i hi=>Zl i om))).symm))))))
theorem Z77 (b:Z6) (c0:LI) (q:Int) (hcb:CB c0 q) (hq:0<=q/\q+b.sz<=4000000000000) (hz:b.sz<=1000000000) (ih:∀(b2:Z6) (c2:LI) (q:Int),(CB c2 q)->(0<=q/\q+b2.sz<=4000000000000)->(b2.sz<=1000000000)->(b2.sz<b.sz)->Zk 102 [ZT b2,Z2 c2] [] (fun r h=>∃(w:Hd),r=.h w/\h=[rV w (Wy b2 c2)])):Zk 102 [ZT b,Z2 c0] [] (fun r h=>∃(w:Hd),r=.h w/\h=[rV w (Wy b c0)]):=by
 have hbz:=Vg b
 have hbe:=b.sz_eq
 have hlc0:=hcb.len
 refine ZE 67 Tryz.func102 (ar (iA (Yb b) fun b1=>Z0 1 (ie (ar (Z0 1 (ic [] (Js c0) ?_))))))
 rintro _ _ ⟨v1,rfl,rfl⟩
 refine Z0 1 (ie (aq (ar (Z0 1 (ie (ab 0 (al (fun m F h=>∃(k:Nat) (c:LI) (w:Hd),(k<=b.steps.length)/\(CB c (q+Y8 (b.steps.take k)))/\(Vc (b.steps.drop k) c=Vc b.steps c0)/\F=[(2,.p b1 0),(5,.h w),(6,.i k)]/\h=[.obj b1 (Yb b),rV w c]/\m=b.steps.length-k) _ _ _ ⟨0,c0,v1,ob,(hcb.le (by rw [List.take_zero,Y8];omega)),rfl,rfl,rfl,rfl⟩ (wk [1,0] (fw (Y2 fl))) ?_)))))))
 rintro m F h ⟨k,c,w,Ya,Zl,Zv,rfl,rfl,rfl⟩
 refine aq (ar (Z5 3 [0] (iw (Vi b.steps) (Z0 1 (ie (ZG ((k:Int)<(b.steps.length:Int)) (fun Zb=>?_) (fun Zb=>?_)))))))
 ·refine ak (aq (ab 1 (aq (ar (Z5 3 [0] ?_)))))
  obtain ⟨x1,Z3⟩:=Zr b.steps k om
  have Xi:=Jt Z3
  have hlc:=Zl.len
  have hkz:=UJ x1
  have htk:=D0 Z3
  have htl:=TH b.steps (k+1)
  have hse:=x1.sz_eq
  refine Zm (Zh none (k:Int) 5 (W3 Z3)) (Z0 2 (Zw [] (Hq x1.op) (ie (Xv (fun F h=>∃(w2:Hd),F=[(2,.p b1 0),(5,.h w2),(6,.i k)]/\h=[.obj b1 (Yb b),rV w2 (XI x1.op c)]) ?_ ?_))))
  ·refine ac (Yl x1.op) Iff.rfl (fun Zf=>?_) (fun Zf=>?_)
   ·have hr:=IN Zf
    have hgx:0<=gI c (x1.op-14)/\gI c (x1.op-14)<=q+Y8 (b.steps.take k):=Zl.at om
    refine aE 21 (ZF 17 21 [0,1,2,3] [0] (dx 4 (Zh none (k:Int) 5 (W3 Z3)) (Zj 14 16 [5,6] (da 7 ((x1.op-14)) ((x1.op)-(14)) (ZF 9 13 [8,9,10,11] [0] (dx 12 (Zh none (k:Int) 5 (W3 Z3)) (Zj 6 8 [13,14] (da 15 ((x1.op-14)) ((x1.op)-(14)) (dx 16 (V0 1 w c (x1.op-14) ((x1.op-14).toNat) (hq:=rfl)) ?_)))))))))
    obtain ⟨x2,Zs⟩:=Zr c ((x1.op-14).toNat) om
    have hgy:=VJ Zs
    exact VH 17 (UW 1 w c ((x1.op-14).toNat) x2 Zs) (da 18 ((x2+1)) ((x2)+(1)) (dx 19 (V0 1 w c (x1.op-14) ((x1.op-14).toNat) (hq:=rfl)) (Z8 20 (J4 20 1 [] [] w c ((x1.op-14).toNat) (x2+1) (de (ZK ⟨w,rfl,rfl⟩ (wk [1,0] fl (e:=(rc (rv (xs:=(c.set ((x1.op-14).toNat) (x2+1))) (by rw [Iq Zf,hgy]) rz))))))))))
   exact ak (ZK ⟨w,rfl,rfl⟩ (wk [0,0] fl (e:=(rc (rv (xs:=c) (Ip Zf).symm rz)))))
  rintro F h ⟨w2,rfl,rfl⟩
  refine ar (Z0 1 (ie (ab 2 (al (fun m F h=>∃(j:Nat) (c2:LI) (u:Hd),(j<=x1.kids.length)/\(CB c2 (q+Y8 (b.steps.take k)+1+YE (x1.kids.take j)))/\(WT (x1.kids.drop j) c2=WT x1.kids (XI x1.op c))/\F=[(2,.p b1 0),(5,.h u),(6,.i k),(7,.i j)]/\h=[.obj b1 (Yb b),rV u c2]/\m=x1.kids.length-j) _ _ _ ⟨0,(XI x1.op c),w2,ob,((Zl.one om x1.op).le (by rw [List.take_zero,YE];omega)),rfl,rfl,rfl,rfl⟩ (wk [0,0] (fw (fr (Y2 fl)))) ?_))))
  rintro m F h ⟨j,c2,u,VQ,XA,Xm,rfl,rfl,rfl⟩
  refine aq (ar (Z5 4 [0] (Zm (Zh none (k:Int) 5 (W3 Z3)) (Z0 2 (iw (VI x1.kids) (Z0 1 (ie (ZG ((j:Int)<(x1.kids.length:Int)) (fun ZB=>?_) (fun ZB=>?_)))))))))
  ·refine ak (aq (ab 3 (az (Z5 3 [0] (Zm (Zh none (k:Int) 5 (W3 Z3)) (Z0 3 ?_))))))
   obtain ⟨x3,YD⟩:=Zr x1.kids j om
   have hks:=UH YD
   have hbt:=Ba YD
   refine Zm (Zh none (j:Int) 2 (Uc YD)) (Z0 2 (M0 [1] [rV u c2] (ih x3 c2 (q+Y8 (b.steps.take k)+1+YE (x1.kids.take j)) XA ob ob ob) JS (gS (gL (v:=u) 0 gN)) (TY QM) ?_))
   rintro _ _ ⟨w1,rfl,rfl⟩
   exact Z0 1 (ie (az (Z0 1 (ZD j (Z0 1 (ie (ZI ⟨j+1,(Wy x3 c2),w1,ob,(by rw [Wv YD,Fl];exact ((XA.b x3 om).le om)),(It YD Xm),rfl,rfl,rfl⟩ (wk [2,0] (fw (fr (ZM j fl)))))))))))
  have hKe:=Is om Xm
  have hbj:=C4 (xs:=x1.kids) (k:=j) om
  exact ax 2 (az (Z0 1 (ZD k (Z0 1 (ie (ZI ⟨k+1,(WT x1.kids (XI x1.op c)),u,ob,(by rw [<-hKe];exact XA.le om),(IC Z3 Zv),rfl,rfl,rfl⟩ (wk [0,0] (fw (ZM k fl)) (e:=(rc (rv (xs:=c2) hKe rz))))))))))
 exact ax 0 (ar (Z0 2 (ie (Za (r1 [1] ⟨w,rfl,rfl⟩ (eq:=(rv (xs:=c) (by rw [Dq];exact IB om Zv) rz)))))))
theorem Z75 (k:Nat):∀(b2:Z6) (c2:LI) (q:Int),(CB c2 q)->(0<=q/\q+b2.sz<=4000000000000)->(b2.sz<=1000000000)->(b2.sz<k)->Zk 102 [ZT b2,Z2 c2] [] (fun r h=>∃(w:Hd),r=.h w/\h=[rV w (Wy b2 c2)]):=by
 induction k with
 | zero=>intro b c q _ _ _ h;omega
 | succ k ih=>intro b c q h1 h2 h3 h4;exact Z77 b c q h1 h2 h3 fun b2 c2 q2 k1 k2 k3 k4=>ih b2 c2 q2 k1 k2 k3 om
theorem Z76 (b:Z6) (c0:LI) (q:Int) (hcb:CB c0 q:=by exact ob) (hq:0<=q/\q+b.sz<=4000000000000:=by exact ob) (hz:b.sz<=1000000000:=by exact ob):Zk 102 [ZT b,Z2 c0] [] (fun r h=>∃(w:Hd),r=.h w/\h=[rV w (Wy b c0)]):=Z75 (b.sz+1) b c0 q hcb hq hz om
theorem Z78 (n:Zt) (hn:X0 n:=by exact ob) (hz:UX n:=by exact ob):Zk 67 [Ye n] [] (fun r h=>∃(w:Hd),r=.h w/\h=[rV w (Qi n)]):=by
 have hzl:=hn.len
 refine ZE 22 Tryz.func67 (ar (iA (ZH n) fun b1=>Z0 1 (ie (ar (M2 [0,0,0,0] 4 fun v1=>?_)))))
 refine Z0 1 (ie (aq (ar (Z0 1 (ie (ab 0 (al (fun m F h=>∃(k:Nat) (c:LI) (w:Hd),(k<=n.routines.length)/\(CB c (10000000*k))/\(WU (n.routines.drop k) c=Qi n)/\F=[(1,.p b1 0),(3,.h w),(4,.i k)]/\h=[.obj b1 (ZH n),rV w c]/\m=n.routines.length-k) _ _ _ ⟨0,[0,0,0,0],v1,ob,⟨rfl,fun x hx=>by simp at hx;omega⟩,rfl,rfl,rfl,rfl⟩ (wk [1,0] (fw (Y2 fl))) ?_)))))))
 rintro m F h ⟨k,c,w,Ya,Zl,Zv,rfl,rfl,rfl⟩
 refine aq (ar (Z5 3 [0] (iw (VS n.routines) (Z0 1 (ie (ZG ((k:Int)<(n.routines.length:Int)) (fun Zb=>?_) (fun Zb=>?_)))))))
 ·refine ak (aq (ab 1 (az (Z5 3 [0] ?_))))
  obtain ⟨x1,Z3⟩:=Zr n.routines k om
  have hrm:=ZZ Z3
  have hbz:=hz.body _ hrm
  refine Zm (Zh none (k:Int) 5 (Wf Z3)) (Z0 3 (M0 [1] [rV w c] (Z76 x1.body c (10000000*(k:Int)) (hcb:=Zl)) JS (gS (gL (v:=w) 0 gN)) (TY QM) ?_))
  rintro _ _ ⟨w1,rfl,rfl⟩
  exact Z0 1 (ie (az (Z0 1 (ZD k (Z0 1 (ie (ZI ⟨k+1,(Wy x1.body c),w1,ob,((Zl.b x1.body om).le om),(Ix Z3 Zv),rfl,rfl,rfl⟩ (wk [2,0] (fw (ZM k fl))))))))))
 exact ax 0 (ar (Z0 2 (ie (Za (r1 [1] ⟨w,rfl,rfl⟩ (eq:=(rv (xs:=c) (Iw om Zv) rz)))))))
theorem Z6w (n:Zt) (hz:UX n):Zk 28 [Ye n] [] (fun r h=>∃(w:Hd),r=.h w/\h=[rV w (if Wi n=true then Qi n else [])]):=by
 refine ZE 8 Tryz.func28 (ar (iA (ZH n) fun b1=>Z0 1 (ie (aq (ar (Z5 1 [0] (Zw [] (Oe n) (Z0 1 (ie (ac (!Wi n) (p:=¬(Wi n=true)) (YI Iff.rfl) (fun Zb=>?_) (fun Zb=>?_)))))))))))
 ·exact ar (Z0 1 (ie (Df Ju (Za (r2 [0] [nl] ⟨hN,rfl,rfl⟩ (Zc.hd (v:=hN)) (eq:=(rv (xs:=[]) (by rw [Z9 Zb]) rz)))))))
 have hV:Wi n=true:=VE.1 Zb
 obtain ⟨hn,hvt⟩:=HI hz hV
 refine ak (ar (Z5 1 [0] (ic [] (Z78 n) ?_)))
 rintro _ _ ⟨w1,rfl,rfl⟩
 exact Z0 1 (ie (Za (r1 [0] ⟨w1,rfl,rfl⟩ (eq:=(rv (xs:=(Qi n)) (by rw [Zg hV]) rz)))))
theorem Gt (n:Zt) (hz:UX n:=by exact ob) (hr:∀r∈n.routines,r.body.rng):Zk 26 [Ye n] [] (Yk (Z2 (cF n))):=(XW.frzI (Z23 n hz hr))
theorem NZ (n:Zt) (hz:UX n:=by exact ob):Zk 28 [Ye n] [] (Yk (Z2 (cF n))):=(XW.frzI (Z6w n hz))
theorem Z3c (n:Zt) (f0:Nat) (b:Z6) (rt:ZY) (hr:n.routines[f0]? = some rt) (hl:n.routines.length<=1000000) (hp:rt.params.length<=4294967296) (hl2:rt.lent.length<=4294967296):Zk 29 [Ye n,.i f0,ZT b] [] (fun r h=>∃(g:Nat) (c:Nat),r=.agg [Zy n.decls,.ms g 0 n.routines.length c]/\h=[.row (.slice (some ⟨g,0,none⟩) n.routines.length c) 5 (Zi (Yx (n.routines.set f0 (ZY.mk rt.params rt.lent rt.result b))))]):=by
 have hfl:=(Xr.1 hr).1
 refine ZE 39 Tryz.func29 (ar (iA (ZH n) fun b1=>iA (Yb b) fun b2=>iA [nl,nl] fun b3=>ie (ar (Cr 5 fun g1=>Z5 2 [3] (M1 0 g1 5 (Yx n.routines) none (U3 _) (by simp<;>omega) fun v1=>Cq 0 n.routines.length (v:=v1) (Bq _) om (fun g2 c1 he1=>?_))))))
 subst he1
 exact Z0 1 (ie (aD 24 (ZF 19 24 [0,1,2,3,4] [3] (dx 5 (Zh none (f0:Int) 5 (Wf hr)) (ZF 13 18 [6,7,8,9,10] [3] (dx 11 (Zh none (f0:Int) 5 (Wf hr)) (ZF 7 12 [12,13,14,15,16] [3] (dx 17 (Zh none (f0:Int) 5 (Wf hr)) (ZF 2 6 [18,19,20,21] [2] (dx 22 (XR g2 n.routines.length c1 f0 5 (f0:Int)) (Z8 23 (JU 23 0 [] [] g2 n.routines.length c1 5 (f0*5) [Z2 rt.params,Z2 rt.lent,.i rt.result,Xw b.steps,.i b.result] (Zi (Yx n.routines)) (Zi (Yx (n.routines.set f0 (ZY.mk rt.params rt.lent rt.result b)))) (by rw [Bq];simp only [YK,X6];omega) (Lh (ZY.mk rt.params rt.lent rt.result b) hfl) (de (ar (Z5 4 [3] (ZA 1 b3 [Zy n.decls,.ms g2 0 n.routines.length c1] (ie (Za (r3 [1] [.agg [Zy n.decls,.ms g2 0 n.routines.length c1]] [0] [(b3,b3)] ⟨g2,c1,rfl,rfl⟩ (lr _))))))))))))))))))))
theorem CA (n:Zt) (f0:Nat) (b:Z6) (rt:ZY) (hr:n.routines[f0]? = some rt:=by exact ob) (hl:n.routines.length<=1000000:=by exact ob) (hp:rt.params.length<=4294967296:=by exact ob) (hl2:rt.lent.length<=4294967296:=by exact ob):Zk 29 [Ye n,.i f0,ZT b] [] (Yk (Ye (withR n f0 rt b))):=(XW.frzN (ds:=n.decls) (rs:=(n.routines.set f0 (ZY.mk rt.params rt.lent rt.result b))) (hs:=[]) ((Z3c n f0 b rt hr hl hp hl2).mono fun r h ⟨g,c,e1,e2⟩=>⟨g,c,by rw [e1];simp only [VP],by rw [e2];simp only [VP]⟩))
theorem Ms (op:Int) (v:Int) :Zk 30 [.i op,.i v] [] (Yk (Yt (Z4.mk op 0 0 [v] []))):=by
 exact ZE 9 Tryz.func30 (ar (iA [.i 0,.i 0,.i 0,nl,nl] fun b1=>ie (ar (Z0 2 (iL (Z7 [v]) 1 1 fun v1=>Z0 1 (ZA 1 b1 [.i op,.i 0,.i 0,ZJ [v] v1,nl] (ie (Za (r3 [] [.agg [.i op,.i 0,.i 0,ZJ [v] v1,nl]] [0] [(b1,b1)] ⟨rfl,rfl⟩ (Zc.agg (.cons li (.cons li (.cons li (.cons (Zc.sl _ (Yj Z7 ob)) (.cons (Zc.sl _ rfl) .nil)))))))))))))))
theorem E5 (b:Z6) (q:Nat) (xs:List Z4) (hq:q<=b.steps.length:=by exact ob) (hbl:b.steps.length<=100000000:=by exact ob) (hxl:xs.length<=100000000:=by exact ob):Zk 24 [ZT b,.i q,Xw xs] [] (Yk (ZT (WQ b q xs))):=by
 exact ZE 26 Tryz.func24 (ar (iA (Yb b) fun b1=>iA [nl,.i 0] fun b2=>ie (ar (iL (Zo []) 0 5 fun v1=>Z5 3 [2] (Zm (Qs (es:=Zo b.steps) (hv:=none) (l:=0) (m:=(q:Int)) (sz:=5) (es':=Zo (b.steps.take q)) kr om (by simp<;>omega) (by simp<;>omega) (YT _) (by first|(simp only [V1,WF,Ty,Tx];done)|(simp only [V1,WF,Ty,Tx];rfl)|(simp [Ty,Tx];done))) (ip 0 (Zo (b.steps.take q)) (Zo []) (Zo (b.steps.take q)) v1 none 5 (YT _) (YT _) (V4 _) (by simp<;>omega) (by simp [WA]) fun v2=>Z0 1 (ie (ar (Z0 2 (ip 0 (Zo ((b.steps.take q)++xs)) (Zo (b.steps.take q)) (Zo xs) v2 none 5 (YT _) (YT _) (V4 _) (by simp<;>omega) (by simp [Wg,Zo]) fun v3=>Z0 1 (ie (aD 10 (ZF 6 10 [0,1,2,3] [2] (dx 4 (Qs (es:=Zo b.steps) (hv:=none) (l:=(q:Int)) (m:=(((Zo b.steps).length:Nat):Int)) (sz:=5) (es':=Zo (b.steps.drop q)) kr om (by simp<;>omega) (by simp<;>omega) (YT _) (by first|(simp only [V1,WF,Ty,Tx];done)|(simp only [V1,WF,Ty,Tx];rfl)|(simp [Ty,Tx];done))) (ZF 3 5 [6,7] [2] (Z8 5 (dp 5 0 [1] [b1] (Zo (((b.steps.take q)++xs)++(b.steps.drop q))) (Zo ((b.steps.take q)++xs)) (Zo (b.steps.drop q)) v3 none 5 (YT _) (YT _) (V4 _) (by simp<;>omega) (by simp [Wg,Zo]) fun v4=>Zj 1 2 [8] (Z8 9 (Yv 9 1 [] [] b2 [YA (((b.steps.take q)++xs)++(b.steps.drop q)) v4,.i b.result] (de (Za (r3 [] [.agg [YA (((b.steps.take q)++xs)++(b.steps.drop q)) v4,.i b.result]] [0] [(b2,b2)] ⟨rfl,rfl⟩ (Zc.agg (.cons (Zc.sl _ (Yj Zo ob)) (.cons li .nil)))))))))))))))))))))))))
theorem SA (code:LI) (hcl:code.length<=1048576:=by exact ob) (hcb:∀z∈code,0<=z/\z<=255):Zk 25 [W0 code] [] (fun r h=>∃(n2:Zt),r=Ye n2/\h=[]/\ZS n2 7330632 11):=by
 refine ZE 6 Tryz.func25 (ar (iA [nl,nl] fun b1=>ie (ar (Z0 1 (ic [] (Z0o code (hc:=hcb)) ?_)))))
 rintro _ _ ⟨rd1,bs1,rfl,rfl,Y1⟩
 have hnr:=Y1
 refine ic [0] (SC rd1 bs1 0 (Zz:=hnr)) ?_
 rintro _ _ ⟨n21,p21,rfl,rfl,Yi⟩
 have haf:=Yi
 exact ZA 1 b1 (ZH n21) (ie (Za (r3 [] [Ye n21] [0] [(b1,b1)] ⟨n21,rfl,rfl,haf.1⟩ (lr _))))
theorem Z3d (code:LI) (hcb:∀z∈code,0<=z/\z<=255):Zk 6 [W0 code] [] (Yk (.b true)):=by
 refine ZE 91 Tryz.func6 (ar (Z0 1 (ie (aq (ar (Z0 1 (iw (QF code) (Z0 1 (ie (ZG ((code.length:Int)>1048576) (fun Zb=>?_) (fun Zb=>?_)))))))))))
 ·exact ar (Z0 1 (ie (Za (HD))))
 have hcl:code.length<=1048576:=by omega
 refine ak (ar (Z0 1 (ic [] (SA code (hcl:=hcl) (hcb:=hcb)) ?_)))
 rintro _ _ ⟨n21,rfl,rfl,Y1⟩
 have hzs:=Y1
 have hzn:=hzs.sz om om
 have hnl:=hzs.len
 refine iA [nl,nl] fun b1=>ZA 0 b1 (ZH n21) (ie (ar (Z5 1 [0] (Zw [] (Gt n21 (hz:=(by first|exact hzn|exact hwz.sz om om)) (hr:=(by first|exact (fun r hr=>(hzs.rt r hr).2.2.2)|exact (fun r hr=>(hwz.rt r hr).2.2.2)))) (Z0 1 (ie (aq (ar (Z5 2 [0] (Zw [] (NZ n21) (Zw [] (E4 (cF n21) (cF n21) (hxl:=(Wj JR (by decide))) (hyl:=(by first|exact Wj JR (by decide)|simp))) (Xa [(3,.p b1 0),(4,Z2 (cF n21)),(25,.b ((!(decide ((cF n21)=(cF n21))))||((((cF n21).length:Nat):Int)==0)))] [.obj b1 (ZH n21)] ?_ ?_))))))))))))
 ·refine Z0 2 (ib (b:=(!(decide ((cF n21)=(cF n21))))) 21 (fun Zd=>?_) (fun Zd=>?_))
  ·have Yi:¬((cF n21)=(cF n21)):=((YI dq)).1 Zd
   exact absurd rfl Yi
  exact Z0 1 (io (.i (((cF n21).length:Nat):Int)) (.i (((Z7 (cF n21)).length:Nat):Int)) (li (by rw [Y5])) (Z0 2 (ie (wk [0] (fw (Zu ((((cF n21).length:Nat):Int)==0) Zd fl))))))
 refine ac ((!(decide ((cF n21)=(cF n21))))||((((cF n21).length:Nat):Int)==0)) (p:=(¬((cF n21)=(cF n21)))∨((((cF n21).length:Nat):Int)=0)) (Ys (YI dq) Zp) (fun Zf=>?_) (fun Zf=>?_)
 ·exact ar (Z5 2 [0] (Zw [] (NZ n21) (Zw [] (E4 (cF n21) (cF n21) (hxl:=(Wj JR (by decide))) (hyl:=(by first|exact Wj JR (by decide)|simp))) (Z0 1 (ie (Za (ZX (.b (decide ((cF n21)=(cF n21)))) (lb (decide_eq_true rfl)))))))))
 have hl0:¬(((cF n21).length:Nat):Int)=0:=fun z=>Zf (.inr z)
 have hV:Wi n21=true:=ET fun z=>hl0 (by rw [cF,Z9 z];rfl)
 have hl4:=In hV
 refine ak (aq (ar (Z0 1 (ie (ab 0 (al (fun m F h=>∃(k:Nat),(k<=n21.routines.length)/\F=[(3,.p b1 0),(4,Z2 (cF n21)),(5,.i k)]/\h=[.obj b1 (ZH n21)]/\m=n21.routines.length-k) _ _ _ ⟨0,ob,rfl,rfl,rfl⟩ (wk [0] (fw (Y2 fl))) ?_))))))
 rintro m F h ⟨k,Ya,rfl,rfl,rfl⟩
 refine aq (ar (Z5 3 [0] (iw (VS n21.routines) (Z0 1 (ie (ZG ((k:Int)<(n21.routines.length:Int)) (fun ZB=>?_) (fun ZB=>?_)))))))
 ·refine ak (aq (ab 1 (ar (Z5 3 [0] ?_))))
  obtain ⟨x1,Z3⟩:=Zr n21.routines k om
  have hrm:=ZZ Z3
  obtain ⟨hr1,hr2,hr3,hr4⟩:=hzs.rt _ hrm
  have hbl:=Z3r (x1).body
  refine Zm (Zh none (k:Int) 5 (Wf Z3)) (Z0 1 (iA [nl,nl,.i 0,nl,.i 0] fun b2=>?_))
  refine ZA 0 b2 (Vl x1) (ie (ar (Z0 1 (ie (ab 2 (al (fun m F h=>∃(q:Nat),(q<=x1.params.length)/\F=[(3,.p b1 0),(4,Z2 (cF n21)),(5,.i k),(6,.p b2 0),(7,.i q)]/\h=[.obj b2 (Vl x1),.obj b1 (ZH n21)]/\m=x1.params.length-q) _ _ _ ⟨0,ob,rfl,rfl,rfl⟩ (wk [0,0] (fq (Y2 fl))) ?_))))))
  rintro m F h ⟨q,VQ,rfl,rfl,rfl⟩
  refine aq (ar (Z5 3 [0] (iw (Y5 x1.params) (Z0 1 (ie (ZG ((q:Int)<(x1.params.length:Int)) (fun Yc=>?_) (fun Yc=>?_)))))))
  ·refine ak (aq (ab 3 (ar (Z5 3 [0] ?_))))
   obtain ⟨x2,Zs⟩:=Zr x1.params q om
   refine Zm (Zh none (q:Int) 1 (ZW Zs)) (Xa [(3,.p b1 0),(4,Z2 (cF n21)),(5,.i k),(6,.p b2 0),(7,.i q),(60,.b ((x2 != 0)&&(decide ((V9 x1.body)<600))))] [.obj b2 (Vl x1),.obj b1 (ZH n21)] ?_ ?_)
   ·refine Z0 3 (ib (b:=(x2 != 0)) 55 (fun ZL=>?_) (fun ZL=>?_))
    ·exact Z5 2 [0] (Zw [] (M4 x1.body) (Z0 2 (ie (wk [0,0] (fq (fr (Zu (decide ((V9 x1.body)<600)) ZL fl)))))))
    exact Z0 5 (ie (wk [0,0] (fq (fr (Zu false ZL fl)))))
   refine ac ((x2 != 0)&&(decide ((V9 x1.body)<600))) (p:=(x2≠0)/\((V9 x1.body)<600)) (YB Yp dq) (fun X1=>?_) (fun X1=>?_)
   ·have hdv:=RM hV Z3 Zs X1.1 X1.2
    have hwz:=RT hzs Z3 (q:=q)
    refine aD 11 (ZF 6 11 [0,1,2,3,4] [1,0] (dK (fun F h=>∃(b3:Nat),F=[(3,.p b1 0),(4,Z2 (cF n21)),(5,.i k),(6,.p b2 0),(7,.i q),(8,.p b3 0)]/\h=[.obj b3 (ZH (withR n21 k x1 (WQ x1.body 0 [(Z4.mk 14 0 0 [(q:Int)] [])]))),.obj b2 (Vl x1),.obj b1 (ZH n21)]) ?_ ?_))
    ·refine Wz 5 9 ?_ ?_
     ·refine Y7 5 [] [0,1] [b2,b1] (Ms 14 (q:Int)) (Wz 6 9 ?_ ?_)
      ·refine W2 6 [0,1] [b2,b1] [Yt (Z4.mk 14 0 0 [(q:Int)] [])] (Zo [(Z4.mk 14 0 0 [(q:Int)] [])]) (WA [(Z4.mk 14 0 0 [(q:Int)] [])]).symm 1 5 fun v1=>Yf 4 4 [] [(67,Xw [(Z4.mk 14 0 0 [(q:Int)] [])])] (Wz 7 9 ?_ ?_)
       ·refine Y7 7 [] [1] [b1] (E5 x1.body 0 [(Z4.mk 14 0 0 [(q:Int)] [])]) (Wz 8 9 ?_ ?_)
        ·exact Y7 8 [] [] [] (CA n21 k (WQ x1.body 0 [(Z4.mk 14 0 0 [(q:Int)] [])]) x1 (hr:=Z3)) (Z8 9 (dA 9 [] [] [nl,nl] fun b3=>Z8 10 (Yv 10 0 [] [] b3 (ZH (withR n21 k x1 (WQ x1.body 0 [(Z4.mk 14 0 0 [(q:Int)] [])]))) (de (ZK ⟨b3,rfl,rfl⟩ (wk [0,1,1] fl))))))
        exact dA 9 [1] [b1] [nl,nl] fun b4=>Z8 8 (Y7 8 [] [] [] (CA n21 k (WQ x1.body 0 [(Z4.mk 14 0 0 [(q:Int)] [])]) x1 (hr:=Z3)) (Z8 10 (Yv 10 0 [] [] b4 (ZH (withR n21 k x1 (WQ x1.body 0 [(Z4.mk 14 0 0 [(q:Int)] [])]))) (de (ZK ⟨b4,rfl,rfl⟩ (wk [0,1,1] fl))))))
       exact dA 9 [0,1] [b2,b1] [nl,nl] fun b5=>Z8 7 (Y7 7 [] [2] [b1] (E5 x1.body 0 [(Z4.mk 14 0 0 [(q:Int)] [])]) (Z8 8 (Y7 8 [] [] [] (CA n21 k (WQ x1.body 0 [(Z4.mk 14 0 0 [(q:Int)] [])]) x1 (hr:=Z3)) (Z8 10 (Yv 10 0 [] [] b5 (ZH (withR n21 k x1 (WQ x1.body 0 [(Z4.mk 14 0 0 [(q:Int)] [])]))) (de (ZK ⟨b5,rfl,rfl⟩ (wk [0,1,1] fl))))))))
      exact dA 9 [0,1] [b2,b1] [nl,nl] fun b6=>Z8 6 (W2 6 [1,2] [b2,b1] [Yt (Z4.mk 14 0 0 [(q:Int)] [])] (Zo [(Z4.mk 14 0 0 [(q:Int)] [])]) (WA [(Z4.mk 14 0 0 [(q:Int)] [])]).symm 1 5 fun v2=>Yf 3 3 [] [(67,Xw [(Z4.mk 14 0 0 [(q:Int)] [])])] (Z8 7 (Y7 7 [] [2] [b1] (E5 x1.body 0 [(Z4.mk 14 0 0 [(q:Int)] [])]) (Z8 8 (Y7 8 [] [] [] (CA n21 k (WQ x1.body 0 [(Z4.mk 14 0 0 [(q:Int)] [])]) x1 (hr:=Z3)) (Z8 10 (Yv 10 1 [] [] b6 (ZH (withR n21 k x1 (WQ x1.body 0 [(Z4.mk 14 0 0 [(q:Int)] [])]))) (de (ZK ⟨b6,rfl,rfl⟩ (wk [0,1,1] fl))))))))))
     exact dA 9 [0,1] [b2,b1] [nl,nl] fun b7=>Z8 5 (Y7 5 [] [1,2] [b2,b1] (Ms 14 (q:Int)) (Z8 6 (W2 6 [1,2] [b2,b1] [Yt (Z4.mk 14 0 0 [(q:Int)] [])] (Zo [(Z4.mk 14 0 0 [(q:Int)] [])]) (WA [(Z4.mk 14 0 0 [(q:Int)] [])]).symm 1 5 fun v3=>Yf 3 3 [] [(67,Xw [(Z4.mk 14 0 0 [(q:Int)] [])])] (Z8 7 (Y7 7 [] [2] [b1] (E5 x1.body 0 [(Z4.mk 14 0 0 [(q:Int)] [])]) (Z8 8 (Y7 8 [] [] [] (CA n21 k (WQ x1.body 0 [(Z4.mk 14 0 0 [(q:Int)] [])]) x1 (hr:=Z3)) (Z8 10 (Yv 10 1 [] [] b7 (ZH (withR n21 k x1 (WQ x1.body 0 [(Z4.mk 14 0 0 [(q:Int)] [])]))) (de (ZK ⟨b7,rfl,rfl⟩ (wk [0,1,1] fl))))))))))))
    rintro F h ⟨b3,rfl,rfl⟩
    refine aD 18 (ZF 16 18 [0,2] [0] ?_)
    obtain ⟨x3,YD⟩:=Zr (cF n21) 0 om
    have hg0:=VJ (i:=0) YD
    have hb0:=Do hzn om _ (ZZ YD)
    refine dx 3 (Zh none 0 1 (ZW YD)) (Zj 14 15 [4] (da 5 ((x3+1)) ((x3)+(1)) (Zj 12 13 [6] ?_)))
    obtain ⟨x4,Vx⟩:=Zr (cF n21) 1 om
    have hg1:=VJ (i:=1) Vx
    have Zd:=Do hzn om _ (ZZ Vx)
    refine dx 7 (Zh none 1 1 (ZW Vx)) (Zj 9 11 [8,9] ?_)
    obtain ⟨x5,VT⟩:=Zr (cF n21) 2 om
    have hg2:=VJ (i:=2) VT
    have ZL:=Do hzn om _ (ZZ VT)
    refine dx 10 (Zh none 2 1 (ZW VT)) (Zj 6 8 [11,12] ?_)
    obtain ⟨x6,Ka⟩:=Zr (cF n21) 3 om
    have hg3:=VJ (i:=3) Ka
    have YF:=Do hzn om _ (ZZ Ka)
    refine dx 13 (Zh none 3 1 (ZW Ka)) (Zj 4 5 [14] (dK (fun F h=>F=[(3,.p b1 0),(4,Z2 (cF n21)),(5,.i k),(6,.p b2 0),(7,.i q),(87,.b (!(decide ((cF (withR n21 k x1 (WQ x1.body 0 [(Z4.mk 14 0 0 [(q:Int)] [])])))=[x3+1,x4,x5,x6]))))]/\h=[.obj b3 (ZH (withR n21 k x1 (WQ x1.body 0 [(Z4.mk 14 0 0 [(q:Int)] [])]))),.obj b2 (Vl x1),.obj b1 (ZH n21)]) ?_ ?_))
    ·refine Wz 1 15 ?_ ?_
     ·exact Y7 1 [] [] [] (Gt (withR n21 k x1 (WQ x1.body 0 [(Z4.mk 14 0 0 [(q:Int)] [])])) (hz:=(by first|exact hzn|exact hwz.sz om om)) (hr:=(by first|exact (fun r hr=>(hzs.rt r hr).2.2.2)|exact (fun r hr=>(hwz.rt r hr).2.2.2)))) (Z8 15 (dL 15 [] [] (Z7 [x3+1,x4,x5,x6]) 4 1 fun v4=>Yf 2 2 [] [(85,Z2 [x3+1,x4,x5,x6])] (Z8 16 (Y7 16 [] [] [] (E4 (cF (withR n21 k x1 (WQ x1.body 0 [(Z4.mk 14 0 0 [(q:Int)] [])]))) [x3+1,x4,x5,x6] (hxl:=(Wj JR (by decide))) (hyl:=(by first|exact Wj JR (by decide)|simp))) (Zj 0 1 [17] (de (ZK ⟨rfl,rfl⟩ (wk [1,1,1] fl))))))))
     exact dL 15 [0] [b3] (Z7 [x3+1,x4,x5,x6]) 4 1 fun v5=>Z8 1 (Y7 1 [] [] [] (Gt (withR n21 k x1 (WQ x1.body 0 [(Z4.mk 14 0 0 [(q:Int)] [])])) (hz:=(by first|exact hzn|exact hwz.sz om om)) (hr:=(by first|exact (fun r hr=>(hzs.rt r hr).2.2.2)|exact (fun r hr=>(hwz.rt r hr).2.2.2)))) (Yf 2 2 [] [(85,Z2 [x3+1,x4,x5,x6])] (Z8 16 (Y7 16 [] [] [] (E4 (cF (withR n21 k x1 (WQ x1.body 0 [(Z4.mk 14 0 0 [(q:Int)] [])]))) [x3+1,x4,x5,x6] (hxl:=(Wj JR (by decide))) (hyl:=(by first|exact Wj JR (by decide)|simp))) (Zj 0 1 [17] (de (ZK ⟨rfl,rfl⟩ (wk [1,1,1] fl))))))))
    rintro F h ⟨rfl,rfl⟩
    refine ac (!(decide ((cF (withR n21 k x1 (WQ x1.body 0 [(Z4.mk 14 0 0 [(q:Int)] [])])))=[x3+1,x4,x5,x6]))) (p:=¬((cF (withR n21 k x1 (WQ x1.body 0 [(Z4.mk 14 0 0 [(q:Int)] [])])))=[x3+1,x4,x5,x6])) (YI dq) (fun X3=>?_) (fun X3=>?_)
    ·exact ar (Z0 1 (ie (Za (ZX (.b false) (lb (absurd (by rw [hdv,hg0,hg1,hg2,hg3]) X3))))))
    exact ak (az (Z0 1 (ZD q (Z0 1 (ie (ZI ⟨q+1,ob,rfl,rfl,rfl⟩ (wk [1,1] (fq (ZM q fl)))))))))
   exact ak (az (Z0 1 (ZD q (Z0 1 (ie (ZI ⟨q+1,ob,rfl,rfl,rfl⟩ (wk [0,0] (fq (ZM q fl)))))))))
  exact ax 2 (az (Z0 1 (ZD k (Z0 1 (ie (ZI ⟨k+1,ob,rfl,rfl,rfl⟩ (wk [1] (fw (ZM k fl)))))))))
 exact ax 0 (ar (Z0 1 (io (.i (((cF n21).length:Nat):Int)) (.i (((Z7 (cF n21)).length:Nat):Int)) (li (by rw [Y5])) (Z0 2 (ie (Za (ZX (.b ((((cF n21).length:Nat):Int)==4)) (lb (by rw [hl4];rfl)))))))))
end Go.Abs
section
namespace Go.Proofs.YthllacimcjakdaaGreat.fnCountsOf
open Go.ChangeShapes Go.WideShapes Go.ChangeAt Go.RowKit Go.Abs
theorem own:ownKnob Tryz.prog.godebug=none:=by kernel_rfl
theorem kids:Kids Tryz.prog (·<Tryz.prog.types.size):=kids_rows kr kr
theorem Sz:∀t e,t<Tryz.prog.types.size->Tryz.prog.underlying t=some (.slice e)->0<Tryz.prog.cellsOf e:=slices_full_of Tryz.prog kr
theorem NI {w w':World} {G G':Y3} {h':List Res} (hx:YN w G [] w' G' h'):∀b,b<w.heap.size->w'.heap[b]? = w.heap[b]?:=
 fun b hb=>(hx.same b hb).eq fun o ⟨r,hr,_⟩=>by cases hr
theorem PM {w w':World} {b o:Nat} (h:w'.heap[b]? = w.heap[b]?):w'.cell? ⟨b,o,none⟩=w.cell? ⟨b,o,none⟩:=by simp [World.cell?,h]
theorem Z3z {t:Nat} (h:Nat.blt t Tryz.prog.types.size=true):t<Tryz.prog.types.size:=Nat.le_of_ble_eq_true h
set_option maxRecDepth 100000 in
theorem Rg (H:Type) (enc:TypeId × Value->H) (W:World) (base:Nat) (args:Array Value) (ds gs:List (DataW H)) (before:List MemPlace) (hval:∀(j:Nat) t v,Tryz.f6.params[j]? = some t->args[j]? = some v->Value.okWide Tryz.prog W .any base t v)
  (hW:DataW.Whole enc Tryz.prog Tryz.f6.params.toList Rows.fnCountsOfSpec.vars false W args.toList ds gs before) :
  Calls Tryz.prog 6 args W fun e W'=>∃v,e=.returned v/\Rows.fnCountsOfSpec.post enc Tryz.prog Tryz.f6 false true false false W args v W':=by
 have hW':=hW
 obtain ⟨p,q,hA0,hV,rfl,hfz,hnd⟩:=hW
 have hA:DataW.TrodAll enc Tryz.prog W 0 (fun _=>true) true Tryz.f6.params.toList args.toList ds p:=hA0
 rw [Tryz.params6] at hA
 obtain ⟨v0,vs0,d0,ds0,p0,q0,hargs,rfl,rfl,h0,r0⟩:=trodAll_cons hA
 obtain ⟨rfl,rfl,rfl⟩:=trodAll_nil r0
 obtain rfl:args=#[v0]:=by cases args;simp_all
 obtain ⟨rfl,rfl⟩:=trodVars_none hV
 obtain ⟨fuel,htr⟩:=h0
 obtain ⟨qa,ql,qc,rfl⟩:=okWide_slice Tryz.underlying22 (hval 0 22 v0 kr rfl)
 obtain ⟨v1,code,hv1,hrv,hcb⟩:=Z55 htr
 have hv1:[Value.slice qa ql qc]=[v1]:=hv1
 cases hv1
 have hh:Yo W (GA W) []:=⟨(fun r hr=>by cases hr),List.Pairwise.nil,(fun r hr=>by cases hr),fun b o hg=>hg⟩
 refine (Z3d code hcb W (GA W) [.slice qa ql qc] (.cons hrv .nil) hh).mono ?_
 rintro e W' ⟨v,r,h',G',rfl,⟨rfl,rfl⟩,hv,hh',hx⟩
 have hvb:=hv.val_inv
 subst hvb
 refine ⟨_,rfl,[d0],[],p0++[]++[],[],p0++[],[],hW',?_,?_,rfl,?_,(fun h=>by cases h)⟩
 ·exact trodAll_cons_mk (shut_bool Tryz.underlying4 _) trodAll_mk0
 ·have DR:∀b,b<W.heap.size->W'.heap[b]? = W.heap[b]?:=NI hx
  have hlt:=hW'.lt
  have hcar:DataW.TrodAll enc Tryz.prog W' 0 (fun _=>true) true Tryz.f6.params.toList [.slice qa ql qc] [d0] (p0++[]):=by
   rw [Tryz.params6]
   refine ⟨p0,[],⟨fuel,DataW.trod_carry fuel 22 _ _ htr fun y hy=>?_⟩,rfl,rfl⟩
   have hyl:=hlt y (by simpa using hy)
   cases y with
   | cell b o=>exact PM (DR b hyl)
   | map b=>exact DR b hyl
  exact DataW.TrodAll.respare kids Sz (by rw [Tryz.params6];intro t ht;rw [List.mem_singleton.1 ht];exact Z3z kr) hcar (fun y hy=>by have:=hlt y (by simpa using hy);simpa using this)
 ·refine ⟨hx.os,hx.output,fun i hi=>?_⟩
  rw [NI hx i hi]
  cases W.heap[i]? with
  | none=>rfl
  | some o=>cases o<;>first | rfl | exact ⟨rfl,rfl,rfl,fun _ _=>rfl⟩ | exact .inr ⟨rfl,rfl⟩
set_option maxRecDepth 100000 in
theorem Z3x (os:Os) (started:os.Started) (H:Type) (enc:TypeId × Value->H) (F:Stop.Interp) :
  ReturnsInHanded {} Tryz.checked os 6 .any ((Rows.OpenSpec.upto Rows.fnCountsOfSpec).pre6 enc Tryz.prog Tryz.f6 Rows.fnCountsOfUptoRow.domain false) (((Rows.OpenSpec.upto Rows.fnCountsOfSpec).at F).post enc Tryz.prog Tryz.f6 false true false false):=by
 refine returnsInHanded_of_cond (C:=Tryz.checked) (s:=Rows.OpenSpec.upto Rows.fnCountsOfSpec) (k:=Rows.uptoSmall) rfl own started kr Tryz.func6
  (OpenSpec.witness (enc:=enc) (C:=Tryz.checked) (s:=Rows.OpenSpec.upto Rows.fnCountsOfSpec) (k:=Rows.uptoSmall) rfl false ⟨#[],#[.slice none 0 0],[]⟩ 8 kr kr kr
   (x:=([.nil],[],[])) kr rfl kr) ?_
 intro W base args ds gs before hval hW _ hk _
 exact Rg H enc W base args ds gs before hval hW
theorem Pf {a b:Bool} (ha:a=true) (hb:b=true):(a&&b)=true:=by rw [ha,hb];rfl
set_option maxHeartbeats 4000000 in
theorem PP:joinedFacts Tryz.pinned.checked.prog 6 Tryz.f6 (Rows.OpenSpec.upto Rows.fnCountsOfSpec).bare Rows.fnCountsOfUptoRow=true:=by
 unfold joinedFacts
 iterate 31 refine Pf ?_ (by as_aux_lemma=>kernel_rfl)
 as_aux_lemma=>kernel_rfl
theorem Z51:Rows.fnCountsOfUptoRow.holds Tryz.pinned (Rows.OpenSpec.upto Rows.fnCountsOfSpec):=
 OpenClaim.holds_of_cond 6 Tryz.f6 rfl rfl rfl rfl rfl rfl rfl ⟨rfl,rfl,rfl,rfl,rfl⟩ rfl rfl rfl rfl rfl (by as_aux_lemma=>kernel_rfl) Tryz.func6 PP
  (of_decide_eq_true kr) (by unfold Func.isWrapper;first|(rw [if_pos (by decide +kernel)];kernel_rfl)|(rw [if_neg (by decide +kernel)];exact ⟨rfl,rfl⟩))
  (fun os started H enc _ F=>Z3x os started H enc F)
theorem proved:Rows.FnCountsOfUptoSaid:=
 Z51
#print axioms proved
end Go.Proofs.YthllacimcjakdaaGreat.fnCountsOf
end
