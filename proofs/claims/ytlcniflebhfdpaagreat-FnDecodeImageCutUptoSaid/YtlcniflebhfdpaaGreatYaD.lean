/-
  A part of the proofs of several laws (see the last file): no condition.
-/
import Derived.Test.YtlcniflebhfdpaaGreatYaC
set_option linter.all false
set_option linter.unusedVariables false
set_option linter.unusedSimpArgs false
set_option linter.unusedSectionVars false
set_option maxRecDepth 10000
set_option maxHeartbeats 4000000
namespace Go.Abs
open Go.Proofs
theorem AM (sdp:Nat) (xs:LI) (q:Nat) (b:Bool) (hb:RB xs:=by exact ob) (hq:q<=xs.length:=by exact ob):Zm 122 [.p sdp 0] [.obj sdp [Z4 xs,.i q,.b b]] (fun r h=>∃(z:Int) (q2:Nat) (bb:Bool),r=.i z/\h=[.obj sdp [Z4 xs,.i q2,.b bb]]/\q2<=xs.length/\Xq true (xs.drop q,b)=(z,xs.drop q2,bb)):=by
 have hxb:=hb.len
 refine ZD 70 Tryz.func122 (ZY (aq (aD 17 (ZV 12 17 [0,1,2,3,4] [0] (db (b:=b) 9 (fun Zb=>?_) (fun Zb=>?_))))))
 ·have ZT:b=true:=(Iff.rfl).1 Zb
  exact Zo 0 12 [5,6,7,8,9,10,11,12,13,14,15,16] (de (Vq (ZX 3 (ZG 0 sdp [Z4 xs,.i q,.b true] (ie (ar (Zk (r1 [0] ⟨0,q,true,rfl,rfl,⟨hq,by rw [ZT];exact SV⟩⟩))))))))
 have Yg:¬(b=true):=Y2 Iff.rfl Zb
 refine ZV 8 12 [5,6,7,8] [0] (da 9 (((q+2:Nat):Int)) (((q:Int))+(2)) (ZV 3 7 [10,11,12,13] [0] (dw 14 (Y9 xs) (Zo 0 2 [15,16] (de (Wt (((q+2:Nat):Int)>(xs.length:Int)) (fun Z9=>?_) (fun Z9=>?_)))))))
 ·exact ZX 3 (ZG 0 sdp [Z4 xs,.i q,.b true] (ie (ar (Zk (r1 [0] ⟨0,q,true,rfl,rfl,⟨hq,SW (by rw [Cm];omega)⟩⟩)))))
 refine ak (aD 11 (ZV 3 11 [0,1,2,3,4,5,6,7] [0,0] ?_))
 obtain ⟨x1,Z3⟩:=Zt xs q om
 have hg1:=hb.rg _ (Y4 Z3)
 refine dx 8 (Ze none (q:Int) 1 (Y7 Z3)) (Zo 0 2 [9,10] (de (aD 12 (ZV 4 12 [0,1,2,3,4,5,6,7] [0,0] (da 8 (((q+1:Nat):Int)) (((q:Int))+(1)) ?_)))))
 obtain ⟨x2,Zv⟩:=Zt xs (q+1) om
 have hg2:=hb.rg _ (Y4 Zv)
 refine dx 9 (Ze none ((q+1:Nat):Int) 1 (Y7 Zv)) (Zo 0 2 [10,11] (de (Zq 5 [0] (ia (((q+2:Nat):Int)) (((q:Int))+(2)) (Z0 2 (ZG 0 sdp [Z4 xs,.i (q+2:Nat),.b b] (ie (YR 1 (Zw [] (V6 x1 0 255) (Z0 2 (ib (b:=(!(decide (0<=x1/\x1<=255)))) 57 (fun Zy=>?_) (fun Zy=>?_))))))))))))
 ·have YJ:¬(0<=x1/\x1<=255):=((Y8 dq)).1 Zy
  exact Z1 (Vq (ZX 3 (ZG 0 sdp [Z4 xs,.i (q+2:Nat),.b true] (ie (ar (Zk (r1 [0] ⟨0,q+2,true,rfl,rfl,⟨by omega,by rw [Uy.2 Yg,Ms Z3 Zv,Zf ⟨rfl,fun w=>YJ w.1⟩]⟩⟩)))))))
 have YQ:¬(¬(0<=x1/\x1<=255)):=Y2 (Y8 dq) Zy
 refine Z0 1 (Zw [] (V6 x2 0 255) (YS (!(decide (0<=x2/\x2<=255))) (p:=¬(0<=x2/\x2<=255)) (Y8 dq) (fun Zh=>?_) (fun Zh=>?_)))
 ·exact ZX 3 (ZG 0 sdp [Z4 xs,.i (q+2:Nat),.b true] (ie (ar (Zk (r1 [0] ⟨0,q+2,true,rfl,rfl,⟨by omega,by rw [Uy.2 Yg,Ms Z3 Zv,Zf ⟨rfl,fun w=>Zh w.2⟩]⟩⟩)))))
 exact ak (ZX 1 (ia ((x1*256)) ((x1)*(256)) (Z0 1 (ia (((x1*256)+x2)) (((x1*256))+(x2)) (ia ((((x1*256)+x2)-32768)) ((((x1*256)+x2))-(32768)) (Zk (r1 [0] ⟨(((x1*256)+x2)-32768),q+2,b,rfl,rfl,⟨by omega,by rw [Uy.2 Yg,Ms Z3 Zv,Za (fun w=>w.2 ⟨Vy.1 YQ,Vy.1 Zh⟩),Int.mul_comm 256 x1]⟩⟩)))))))
theorem FQ (sdp:Nat) (xs:LI) (q:Nat) (b:Bool) (hb:RB xs:=by exact ob) (hq:q<=xs.length:=by exact ob):Zm 68 [.p sdp 0] [.obj sdp [Z4 xs,.i q,.b b]] (fun r h=>∃(z:Int) (q2:Nat) (bb:Bool),r=.i z/\h=[.obj sdp [Z4 xs,.i q2,.b bb]]/\q2<=xs.length/\0<=z/\Wy true (xs.drop q,b)=(z.toNat,xs.drop q2,bb)):=by
 have hxb:=hb.len
 refine ZD 33 Tryz.func68 (ZY (ZX 1 (ic [0] (AM sdp xs q b (hb:=hb) (hq:=hq)) ?_)))
 rintro _ _ ⟨z1,q21,bb1,rfl,rfl,ZT⟩
 have hrn:=Kg (hb.drop q) ZT.2
 have hk2:=ZT.1
 refine Z1 (aq (aD 23 (ZV 18 23 [0,1,2,3,4] [0] (db (b:=bb1) 10 (fun Zb=>?_) (fun Zb=>?_)))))
 ·have Yg:bb1=true:=(Iff.rfl).1 Zb
  exact Zo 0 18 [5,6,7,8,9,10,11,12,13,14,15,16,17,18,19,20,21,22] (de (Vq (ZX 3 (ZG 0 sdp [Z4 xs,.i q21,.b true] (ie (ar (Zk (r1 [0] ⟨0,q21,true,rfl,rfl,⟨hk2,Int.le_refl _,by rw [Yg] at ZT;exact Ze8 ZT.2⟩⟩))))))))
 have YJ:¬(bb1=true):=Y2 Iff.rfl Zb
 refine Zo 14 18 [5,6,7,8] (db (b:=(decide (z1<0))) 14 (fun Zy=>?_) (fun Zy=>?_))
 ·have YQ:z1<0:=(dq).1 Zy
  exact Zo 0 14 [9,10,11,12,13,14,15,16,17,18,19,20,21,22] (de (Vq (ZX 3 (ZG 0 sdp [Z4 xs,.i q21,.b true] (ie (ar (Zk (r1 [0] ⟨0,q21,true,rfl,rfl,⟨hk2,Int.le_refl _,by rw [Ca ZT.2,Zf (.inl YQ)];rfl⟩⟩))))))))
 have X4:¬(z1<0):=Y2 dq Zy
 refine Zo 13 14 [9] (da 10 ((2*z1)) ((2)*(z1)) (ZV 8 12 [11,12,13,14] [0] (dw 15 (Y9 xs) (ZV 3 7 [16,17,18,19] [0] (da 20 (((xs.length:Int)-(q21:Int))) (((xs.length:Int))-((q21:Int))) (Zo 0 2 [21,22] (de (Wt ((2*z1)>((xs.length:Int)-(q21:Int))) (fun Z9=>?_) (fun Z9=>?_)))))))))
 ·exact ZX 3 (ZG 0 sdp [Z4 xs,.i q21,.b true] (ie (ar (Zk (r1 [0] ⟨0,q21,true,rfl,rfl,⟨hk2,Int.le_refl _,by rw [Ca ZT.2,Zf (.inr (by rw [Cm];omega))];rfl⟩⟩)))))
 exact ak (ar (Zk (r1 [0] ⟨z1,q21,bb1,rfl,rfl,⟨hk2,by omega,by rw [Ca ZT.2,Za (by rw [Cm];omega)]⟩⟩)))
theorem FT (sdp:Nat) (xs:LI) (q:Nat) (b:Bool) (hb:RB xs:=by exact ob) (hq:q<=xs.length:=by exact ob):Zm 123 [.p sdp 0] [.obj sdp [Z4 xs,.i q,.b b]] (fun r h=>∃(l:LI) (q2:Nat) (bb:Bool),r=Z4 l/\h=[.obj sdp [Z4 xs,.i q2,.b bb]]/\q2<=xs.length/\Vo true (xs.drop q,b)=(l,xs.drop q2,bb)):=by
 refine ZD 20 Tryz.func123 (ZY (ar (iL (Z6 []) 0 1 fun v1=>Z1 (ZX 1 (ic [1] (FQ sdp xs q b (hb:=hb)) ?_)))))
 rintro _ _ ⟨z1,q21,bb1,rfl,rfl,ZT⟩
 have hKhp1:=ZT.1
 have hzhp1:=ZT.2.1
 have hMhp1:=KJ (hb.drop _) ZT.2.2
 have hNhp1:=hMhp1.2.1
 refine Z1 (Y5 (ab 0 (Y1 (fun fz gz m F h=>∃(k:Nat) (acc:LI) (u:Value) (kl:Nat) (bl:Bool),(k<=z1.toNat)/\(acc.length=k)/\((acc++(XQ (Xq true) (z1.toNat-k) (xs.drop kl,bl)).1,(XQ (Xq true) (z1.toNat-k) (xs.drop kl,bl)).2)=Vo true (xs.drop q,b))/\(kl<=xs.length)/\F=sF [0,4] fz [(3,Y6 acc u),(5,.i k)]/\h=[.obj sdp [Z4 xs,.i kl,.b bl],.tail u 1]/\m=z1.toNat-k) _ _ _ ⟨0,[],v1,q21,bb1,ob,ob,(by rw [Vo,ZT.2.2];exact AH),ob,rfl,rfl,rfl⟩ (wk [0,0] (fr (Ya fl))) ?_)))
 rintro m F h ⟨k,acc,u,kl,bl,Yi,Zd,Zz,YA,rfl,rfl,rfl⟩
 refine X6 (Y3 ((k:Int)<z1) (fun Z9=>?_) (fun Z9=>?_))
 ·refine ak (aq (ab 1 (az (Z0 2 (ic [0] (AM sdp xs kl bl (hb:=hb)) ?_)))))
  rintro _ _ ⟨z2,q22,bb2,rfl,rfl,Yg⟩
  have hKhp2:=Yg.1
  exact iL (Z6 [z2]) 1 1 fun v2=>Y0 0 [(17,Z4 [z2])] (ip 2 (Z6 (acc++[z2])) (Z6 acc) (Z6 [z2]) u none 1 (YG _) (YG _) (XT _) (by simp<;>omega) (by simp [XX,Z6]) fun v3=>Z1 (az (Z0 1 (ZC k (Z1 (ZE ⟨k+1,(acc++[z2]),v3,q22,bb2,ob,(by rw [ZH,Zd];rfl),(AJ om Yg.2 Zz),ob,rfl,rfl,rfl⟩ (wk [2,0] (fr (ZI k fl)))))))))
 exact ax 0 (ar (Zk (r2 [0] [Y6 acc u] ⟨acc,kl,bl,rfl,rfl,⟨YA,(AI om Zz).symm⟩⟩ (Zl.forget _ _))))
theorem Zhq (sdp:Nat) (xs:LI) (q:Nat) (b:Bool) (hb:RB xs:=by exact ob) (hq:q<=xs.length:=by exact ob):Zm 124 [.p sdp 0] [.obj sdp [Z4 xs,.i q,.b b]] (fun r h=>∃(x:Instr) (q2:Nat) (bb:Bool),r=Ku x/\h=[.obj sdp [Z4 xs,.i q2,.b bb]]/\q2<=xs.length/\QL true (xs.drop q,b)=(x,xs.drop q2,bb)):=by
 refine ZD 26 Tryz.func124 (ar (iA [.i 0,.i 0,.i 0,.i 0,nl,nl] fun b1=>ie (ZX 1 (ic [1] (AM sdp xs q b (hb:=hb)) ?_))))
 rintro _ _ ⟨z1,q21,bb1,rfl,rfl,ZT⟩
 have hKhp1:=ZT.1
 refine Z1 (ZX 1 (ic [0] (AM sdp xs q21 bb1 (hb:=hb)) ?_))
 rintro _ _ ⟨z2,q22,bb2,rfl,rfl,Yg⟩
 have hKhp2:=Yg.1
 refine Z1 (ZX 1 (ic [0] (AM sdp xs q22 bb2 (hb:=hb)) ?_))
 rintro _ _ ⟨z3,q23,bb3,rfl,rfl,YJ⟩
 have hKhp3:=YJ.1
 refine Z1 (ZX 1 (ic [0] (AM sdp xs q23 bb3 (hb:=hb)) ?_))
 rintro _ _ ⟨z4,q24,bb4,rfl,rfl,YQ⟩
 have hKhp4:=YQ.1
 refine Z1 (ZX 1 (ic [0] (FT sdp xs q24 bb4 (hb:=hb)) ?_))
 rintro _ _ ⟨l1,q25,bb5,rfl,rfl,X4⟩
 have hKhp5:=X4.1
 refine Z1 (ZX 6 (ic [0] (FT sdp xs q25 bb5 (hb:=hb)) ?_))
 rintro _ _ ⟨l2,q26,bb6,rfl,rfl,Xy⟩
 have hKhp6:=Xy.1
 exact Z0 1 (ZG 1 b1 [.i z1,.i z2,.i z3,.i z4,Z4 l1,Z4 l2] (ie (Yc (r3 [1] [.agg [.i z1,.i z2,.i z3,.i z4,Z4 l1,Z4 l2]] [0] [(b1,b1)] ⟨(Instr.mk z1 z2 z3 z4 l1 l2),q26,bb6,rfl,rfl,⟨by omega,Mu ZT.2 Yg.2 YJ.2 YQ.2 X4.2 Xy.2⟩⟩ (lr _)))))
theorem Zhr (sdp:Nat) (xs:LI) (q:Nat) (b:Bool) (hb:RB xs:=by exact ob) (hq:q<=xs.length:=by exact ob):Zm 69 [.p sdp 0] [.obj sdp [Z4 xs,.i q,.b b]] (fun r h=>∃(p:YB) (q2:Nat) (bb:Bool),r=Cu p/\h=[.obj sdp [Z4 xs,.i q2,.b bb]]/\q2<=xs.length/\Qw true (xs.drop q,b)=(p,xs.drop q2,bb)):=by
 refine ZD 37 Tryz.func69 (ar (iA [nl,nl,.i 0,.i 0,nl] fun b1=>ie (ZX 1 (ic [1] (FT sdp xs q b (hb:=hb)) ?_))))
 rintro _ _ ⟨l1,q21,bb1,rfl,rfl,ZT⟩
 have hKhp1:=ZT.1
 refine Z1 (ZX 1 (ic [0] (FT sdp xs q21 bb1 (hb:=hb)) ?_))
 rintro _ _ ⟨l2,q22,bb2,rfl,rfl,Yg⟩
 have hKhp2:=Yg.1
 refine Z1 (ZX 1 (ic [0] (AM sdp xs q22 bb2 (hb:=hb)) ?_))
 rintro _ _ ⟨z1,q23,bb3,rfl,rfl,YJ⟩
 have hKhp3:=YJ.1
 refine Z1 (ZX 1 (ic [0] (AM sdp xs q23 bb3 (hb:=hb)) ?_))
 rintro _ _ ⟨z2,q24,bb4,rfl,rfl,YQ⟩
 have hKhp4:=YQ.1
 refine Z1 (ar (iL (YH []) 0 6 fun v1=>Z1 (ZX 1 (ic [1] (FQ sdp xs q24 bb4 (hb:=hb)) ?_))))
 rintro _ _ ⟨z3,q25,bb5,rfl,rfl,X4⟩
 have hKhp5:=X4.1
 have hzhp5:=X4.2.1
 have hMhp5:=KJ (hb.drop _) X4.2.2
 have hNhp5:=hMhp5.2.1
 refine Z1 (Y5 (ab 0 (Y1 (fun fz gz m F h=>∃(k:Nat) (acc:List Instr) (u:Value) (kl:Nat) (bl:Bool),(k<=z3.toNat)/\(acc.length=k)/\((acc++(XQ (QL true) (z3.toNat-k) (xs.drop kl,bl)).1,(XQ (QL true) (z3.toNat-k) (xs.drop kl,bl)).2)=Ki true (xs.drop q24,bb4))/\(kl<=xs.length)/\F=sF [0,2,3,4,5,6,8] fz [(7,D4 acc u),(9,.i k)]/\h=[.obj sdp [Z4 xs,.i kl,.b bl],Zi gz 2,.tail u 6]/\m=z3.toNat-k) _ _ _ ⟨0,[],v1,q25,bb5,ob,ob,(by rw [Ki,X4.2.2];exact AH),ob,rfl,rfl,rfl⟩ (wk [0,1,0] (fr (Ya fl))) ?_)))
 rintro m F h ⟨k,acc,u,kl,bl,Yi,Zd,Zz,YA,rfl,rfl,rfl⟩
 refine X6 (Y3 ((k:Int)<z3) (fun Z9=>?_) (fun Z9=>?_))
 ·refine ak (aq (ab 1 (az (Z0 2 (ic [0] (Zhq sdp xs kl bl (hb:=hb)) ?_)))))
  rintro _ _ ⟨x1,q26,bb6,rfl,rfl,Xy⟩
  have hKhp6:=Xy.1
  exact iL (YH [x1]) 1 6 fun v2=>Y0 0 [(29,Ka [x1])] (ip 3 (YH (acc++[x1])) (YH acc) (YH [x1]) u none 6 (Jz _) (Jz _) (ED _) (by simp<;>omega) (by simp [CE,YH]) fun v3=>Z1 (az (Z0 1 (ZC k (Z1 (ZE ⟨k+1,(acc++[x1]),v3,q26,bb6,ob,(by rw [ZH,Zd];rfl),(AJ om Xy.2 Zz),ob,rfl,rfl,rfl⟩ (wk [2,2,0] (fr (ZI k fl)))))))))
 exact ax 0 (ZX 6 (ZG 1 b1 [Z4 l1,Z4 l2,.i z1,.i z2,D4 acc u] (ie (Yc (r3 [1] [.agg [Z4 l1,Z4 l2,.i z1,.i z2,D4 acc u]] [0] [(b1,b1)] ⟨(YB.mk l1 l2 z1 z2 acc),kl,bl,rfl,rfl,⟨YA,Mt ZT.2 Yg.2 YJ.2 YQ.2 (AI om Zz).symm⟩⟩ (Zl.agg (.cons (lr _) (.cons (lr _) (.cons (lr _) (.cons (lr _) (.cons (Zl.forget _ _) .nil)))))))))))
theorem Zho (sdp:Nat) (xs:LI) (q:Nat) (b:Bool) (hb:RB xs:=by exact ob) (hq:q<=xs.length:=by exact ob):Zm 67 [.p sdp 0] [.obj sdp [Z4 xs,.i q,.b b]] (fun r h=>∃(ds:List Zc) (q2:Nat) (bb:Bool),r=Yu ds/\h=[.obj sdp [Z4 xs,.i q2,.b bb]]/\q2<=xs.length/\Kf true (xs.drop q,b)=(ds,xs.drop q2,bb)):=by
 refine ZD 45 Tryz.func67 (ZY (ar (iL (Xn []) 0 3 fun v1=>Z1 (ZX 1 (ic [1] (FQ sdp xs q b (hb:=hb)) ?_)))))
 rintro _ _ ⟨z1,q21,bb1,rfl,rfl,ZT⟩
 have hKhp1:=ZT.1
 have hzhp1:=ZT.2.1
 have hMhp1:=KJ (hb.drop _) ZT.2.2
 have hNhp1:=hMhp1.2.1
 refine Z1 (Y5 (ab 0 (Y1 (fun fz gz m F h=>∃(k:Nat) (acc:List Zc) (u:Value) (kl:Nat) (bl:Bool),(k<=z1.toNat)/\(acc.length=k)/\((acc++(XQ (Q9 true) (z1.toNat-k) (xs.drop kl,bl)).1,(XQ (Q9 true) (z1.toNat-k) (xs.drop kl,bl)).2)=Kf true (xs.drop q,b))/\(kl<=xs.length)/\F=sF [0,4] fz [(3,Q4 acc u),(5,.i k)]/\h=[.obj sdp [Z4 xs,.i kl,.b bl],.tail u 3]/\m=z1.toNat-k) _ _ _ ⟨0,[],v1,q21,bb1,ob,ob,(by rw [Kf,ZT.2.2];exact AH),ob,rfl,rfl,rfl⟩ (wk [0,0] (fr (Ya fl))) ?_)))
 rintro m F h ⟨k,acc,u,kl,bl,Yi,Zd,Zz,YA,rfl,rfl,rfl⟩
 refine X6 (Y3 ((k:Int)<z1) (fun Z9=>?_) (fun Z9=>?_))
 ·refine ak (aq (ab 1 (ZX 1 (ic [0] (AM sdp xs kl bl (hb:=hb)) ?_))))
  rintro _ _ ⟨z2,q22,bb2,rfl,rfl,Yg⟩
  have hKhp2:=Yg.1
  refine Z1 (ZX 1 (ic [0] (AM sdp xs q22 bb2 (hb:=hb)) ?_))
  rintro _ _ ⟨z3,q23,bb3,rfl,rfl,YJ⟩
  have hKhp3:=YJ.1
  refine Z1 (ar (iL (WF []) 0 1 fun v2=>Z1 (ZX 1 (ic [1] (FQ sdp xs q23 bb3 (hb:=hb)) ?_))))
  rintro _ _ ⟨z4,q24,bb4,rfl,rfl,YQ⟩
  have hKhp4:=YQ.1
  have hzhp4:=YQ.2.1
  have hMhp4:=KJ (hb.drop _) YQ.2.2
  have hNhp4:=hMhp4.2.1
  refine Z1 (Y5 (ab 2 (Y1 (fun fz gz m F h=>∃(j:Nat) (cs:List YK) (u2:Value) (kl2:Nat) (bl2:Bool),(j<=z4.toNat)/\(cs.length=j)/\((cs++(XQ (Qv true) (z4.toNat-j) (xs.drop kl2,bl2)).1,(XQ (Qv true) (z4.toNat-j) (xs.drop kl2,bl2)).2)=Ke true (xs.drop q23,bb3))/\(kl2<=xs.length)/\F=sF [0,3,4,5,6,7,9] fz [(8,D3 cs u2),(10,.i j)]/\h=[.obj sdp [Z4 xs,.i kl2,.b bl2],Zi gz 2,.tail u2 1]/\m=z4.toNat-j) _ _ _ ⟨0,[],v2,q24,bb4,ob,ob,(by rw [Ke,YQ.2.2];exact AH),ob,rfl,rfl,rfl⟩ (wk [0,1,0] (fr (Ya fl))) ?_)))
  rintro m F h ⟨j,cs,u2,kl2,bl2,VG,Xm,XN,Dp,rfl,rfl,rfl⟩
  refine X6 (Y3 ((j:Int)<z4) (fun Zh=>?_) (fun Zh=>?_))
  ·refine ak (aq (ab 3 (az (Z0 2 (ic [0] (FT sdp xs kl2 bl2 (hb:=hb)) ?_)))))
   rintro _ _ ⟨l1,q25,bb5,rfl,rfl,X4⟩
   have hKhp5:=X4.1
   exact Z0 1 (iL (WF [YK.mk l1]) 1 1 fun v3=>Y0 0 [(35,JR [YK.mk l1])] (ip 3 (WF (cs++[YK.mk l1])) (WF cs) (WF [YK.mk l1]) u2 none 1 (Dy _) (Dy _) (L8 _) (by simp<;>omega) (by simp [Od,WF]) fun v4=>Z1 (az (Z0 1 (ZC j (Z1 (ZE ⟨j+1,(cs++[YK.mk l1]),v4,q25,bb5,ob,(by rw [ZH,Xm];rfl),(AJ om (SP X4.2) XN),ob,rfl,rfl,rfl⟩ (wk [2,2,0] (fr (ZI j fl))))))))))
  exact ax 2 (az (Y0 5 [(41,.agg [.i z2,.i z3,JR cs])] (iL (Xn [Zc.mk z2 z3 cs]) 1 3 fun v5=>Y0 0 [(42,Yu [Zc.mk z2 z3 cs])] (ip 2 (Xn (acc++[Zc.mk z2 z3 cs])) (Xn acc) (Xn [Zc.mk z2 z3 cs]) u none 3 (Al _) (Al _) (Gx _) (by simp<;>omega) (by simp [L9,Xn]) fun v6=>Z1 (az (Z0 1 (ZC k (Z1 (ZE ⟨k+1,(acc++[Zc.mk z2 z3 cs]),v6,kl2,bl2,ob,(by rw [ZH,Zd];rfl),(AJ om (Mq Yg.2 YJ.2 (AI om XN).symm) Zz),ob,rfl,rfl,rfl⟩ (wk [2,0] (fr (ZI k fl))))))))))))
 exact ax 0 (ar (Zk (r2 [0] [Q4 acc u] ⟨acc,kl,bl,rfl,rfl,⟨YA,(AI om Zz).symm⟩⟩ (Zl.forget _ _))))
theorem Zhp (sdp:Nat) (xs:LI) (q:Nat) (b:Bool) (hb:RB xs:=by exact ob) (hq:q<=xs.length:=by exact ob):Zm 31 [.p sdp 0] [.obj sdp [Z4 xs,.i q,.b b]] (fun r h=>∃(im:Yx) (q2:Nat) (bb:Bool),r=Ui im/\h=[.obj sdp [Z4 xs,.i q2,.b bb]]/\q2<=xs.length/\Tz true (xs.drop q,b)=(im,xs.drop q2,bb)):=by
 refine ZD 25 Tryz.func31 (ar (iA [nl,nl] fun b1=>ie (ZX 1 (ic [1] (Zho sdp xs q b (hb:=hb)) ?_))))
 rintro _ _ ⟨ds1,q21,bb1,rfl,rfl,ZT⟩
 have hKhp1:=ZT.1
 refine Z1 (ar (iL (We []) 0 5 fun v1=>Z1 (ZX 1 (ic [1] (FQ sdp xs q21 bb1 (hb:=hb)) ?_))))
 rintro _ _ ⟨z1,q22,bb2,rfl,rfl,Yg⟩
 have hKhp2:=Yg.1
 have hzhp2:=Yg.2.1
 have hMhp2:=KJ (hb.drop _) Yg.2.2
 have hNhp2:=hMhp2.2.1
 refine Z1 (Y5 (ab 0 (Y1 (fun fz gz m F h=>∃(k:Nat) (acc:List YB) (u:Value) (kl:Nat) (bl:Bool),(k<=z1.toNat)/\(acc.length=k)/\((acc++(XQ (Qw true) (z1.toNat-k) (xs.drop kl,bl)).1,(XQ (Qw true) (z1.toNat-k) (xs.drop kl,bl)).2)=Kh true (xs.drop q21,bb1))/\(kl<=xs.length)/\F=sF [0,2,3,5] fz [(4,Q5 acc u),(6,.i k)]/\h=[.obj sdp [Z4 xs,.i kl,.b bl],Zi gz 2,.tail u 5]/\m=z1.toNat-k) _ _ _ ⟨0,[],v1,q22,bb2,ob,ob,(by rw [Kh,Yg.2.2];exact AH),ob,rfl,rfl,rfl⟩ (wk [0,1,0] (fr (Ya fl))) ?_)))
 rintro m F h ⟨k,acc,u,kl,bl,Yi,Zd,Zz,YA,rfl,rfl,rfl⟩
 refine X6 (Y3 ((k:Int)<z1) (fun Z9=>?_) (fun Z9=>?_))
 ·refine ak (aq (ab 1 (az (Z0 2 (ic [0] (Zhr sdp xs kl bl (hb:=hb)) ?_)))))
  rintro _ _ ⟨p1,q23,bb3,rfl,rfl,YJ⟩
  have hKp1:=p1.1
  exact iL (We [p1]) 1 5 fun v2=>Y0 0 [(20,F8 [p1])] (ip 3 (We (acc++[p1])) (We acc) (We [p1]) u none 5 (BQ _) (BQ _) (GC _) (by simp<;>omega) (by simp [Le,We]) fun v3=>Z1 (az (Z0 1 (ZC k (Z1 (ZE ⟨k+1,(acc++[p1]),v3,q23,bb3,ob,(by rw [ZH,Zd];rfl),(AJ om YJ.2 Zz),ob,rfl,rfl,rfl⟩ (wk [2,2,0] (fr (ZI k fl)))))))))
 exact ax 0 (ZX 3 (ZG 1 b1 [Yu ds1,Q5 acc u] (ie (Yc (r3 [1] [.agg [Yu ds1,Q5 acc u]] [0] [(b1,b1)] ⟨(Yx.mk ds1 acc),kl,bl,rfl,rfl,⟨YA,Mr ZT.2 (AI om Zz).symm⟩⟩ (Zl.agg (.cons (lr _) (.cons (Zl.forget _ _) .nil))))))))
theorem Zg2 (xs:LI) (ys:LI) (hxl:xs.length<=200000000000:=by exact ob) (hyl:ys.length<=200000000000:=by exact ob):Zm 30 [Z4 xs,Z4 ys] [] (Yt (.b (decide (xs=ys)))):=by
 refine ZD 26 Tryz.func30 (ZY (YR 1 (iw (Y9 xs) (Z0 1 (iw (Y9 ys) (YS ((xs.length:Int) != (ys.length:Int)) Yh (fun Z9=>?_) (fun Z9=>?_)))))))
 ·exact ar (Zk (ZP (.b false) (lb (decide_eq_false (fun z=>Z9 (by rw [z]))).symm)))
 refine ak (YR 1 (iw (Y9 xs) (Z1 (ab 0 (Y1 (fun fz gz m F h=>∃(k:Nat),(k<=xs.length)/\(∀i,i<k->xs[i]? = ys[i]?)/\F=sF [0,1,12] fz [(13,.i k)]/\h=gz/\m=xs.length-k) _ _ _ ⟨0,ob,FX,rfl,rfl,rfl⟩ (wk [] (Ya fl)) ?_)))))
 rintro m F h ⟨k,Yi,Zd,rfl,rfl,rfl⟩
 refine ZY (aq (Wt ((k:Int)<(xs.length:Int)) (fun Zh=>?_) (fun Zh=>?_)))
 ·refine ak (aq (ab 1 (ZY (aD 9 (Zo 7 9 [0,1] ?_)))))
  obtain ⟨x1,Z3⟩:=Zt xs k om
  refine dx 2 (Ze none (k:Int) 1 (Y7 Z3)) (Zo 3 6 [3,4,5] ?_)
  obtain ⟨x2,Zv⟩:=Zt ys k om
  refine dx 6 (Ze none (k:Int) 1 (Y7 Zv)) (Zo 0 2 [7,8] (de (ac (x1 != x2) Yh (fun ZA=>?_) (fun ZA=>?_))))
  ·exact ar (Zk (ZP (.b false) (lb (decide_eq_false (fun z=>ZA (by rw [z,Zv] at Z3;cases Z3;rfl))).symm)))
  exact ak (az (ZC k (Z1 (ZE ⟨k+1,ob,(FY Zd Z3 Zv (Vy.1 (by assumption))),rfl,rfl,rfl⟩ (wk [] (ZI k fl))))))
 exact ax 0 (ar (Zk (ZP (.b true) (lb (decide_eq_true (EI om (fun i hi=>Zd i om))).symm))))
theorem H6 (xs:LI) (hb:RB xs:=by exact ob):Zm 8 [Z4 xs] [] (Yt (.tup [Ui ((ZW xs).1),.b ((ZW xs).2)])):=by
 have hxl:=hb.len
 refine ZD 26 Tryz.func8 (ar (iA [nl,nl] fun b1=>Z1 (ZX 2 (iA [nl,.b false] fun b2=>ZG 0 b2 [Z4 xs,.b false] (ie (ar (ic [0] (Zen b2 xs false (hb:=hb)) ?_)))))))
 rintro _ _ ⟨im1,ys1,bb1,rfl,rfl,ZT⟩
 have hE:=Z5q ZT
 have hiy:=SU hb ZT
 have hecl:=Lj im1
 refine iA [nl,nl] fun b3=>ZG 0 b3 (VV im1) (ie (X6 (YW 8 [0,2,5] [(16,.b (bb1||(decide ((ys1.length:Int)>0))))] (fun gz=>gz) ?_ (fun hj1=>?_))))
 ·refine Xi [2,5] [(23,.b ((bb1||(decide ((ys1.length:Int)>0)))||(!(decide ((Uq im1)=xs)))))] (fun gz=>gz) ?_ ?_
  ·refine Z0 1 (ib (b:=(bb1||(decide ((ys1.length:Int)>0)))) 17 (fun Zb=>?_) (fun Zb=>?_))
   ·have Yg:(bb1=true)∨((ys1.length:Int)>0):=((ZJ Iff.rfl dq)).1 Zb
    exact Z1 (Zs 3 (Zj true Zb fl))
   have YJ:¬((bb1=true)∨((ys1.length:Int)>0)):=Y2 (ZJ Iff.rfl dq) Zb
   exact ZB 1 [0] (Zw [] (R7 im1 (hz:=hiy)) (Z0 1 (Zw [] (Zg2 (Uq im1) xs) (Z1 (Zs 3 (Zj (!(decide ((Uq im1)=xs))) Zb fl))))))
  refine ac ((bb1||(decide ((ys1.length:Int)>0)))||(!(decide ((Uq im1)=xs)))) (p:=((bb1=true)∨((ys1.length:Int)>0))∨(¬((Uq im1)=xs))) (ZJ (ZJ Iff.rfl dq) (Y8 dq)) (fun Z9=>?_) (fun Z9=>?_)
  ·have hN:ZW xs=(CW,false):=by rw [hE,Za (fun q=>by simp [q.1,q.2.1,q.2.2] at Z9)]
   exact ZX 1 (ZG 2 b1 [nl,nl] (Zk (r3 [] [.agg [nl,nl],.b false] [0] [(b1,b1)] ⟨rfl,rfl⟩ (Zl.tup (.cons (Zl.agg (.cons (Zl.sl _ (by rw [hN];rfl)) (.cons (Zl.sl _ (by rw [hN];rfl)) .nil))) (.cons (lb (by rw [hN])) .nil))))))
  have hY:ZW xs=(im1,true):=by rw [hE,Zf (by simpa [and_assoc] using Z9)]
  exact ak (Zq 1 [0] (ZG 2 b1 (VV im1) (Zk (r3 [] [Ui im1,.b true] [0] [(b1,b1)] ⟨rfl,rfl⟩ (Zl.tup (.cons (Zl.agg (.cons (Zl.sl _ (Yn Xn (by rw [hY]))) (.cons (Zl.sl _ (Yn We (by rw [hY]))) .nil))) (.cons (lb (by rw [hY])) .nil)))))))
 refine ZB 3 [1] (ib (b:=bb1) 11 (fun Zy=>?_) (fun Zy=>?_))
 ·have YQ:bb1=true:=(Iff.rfl).1 Zy
  exact Z0 5 (ZZ (Zs 3 (Zj true Zy fl)) hj1)
 have X4:¬(bb1=true):=Y2 Iff.rfl Zy
 exact ZB 2 [1] (iw (Y9 ys1) (Z0 2 (ZZ (Zs 3 (Zj (decide ((ys1.length:Int)>0)) Zy fl)) hj1)))
theorem Z1e (xs:LI) (hb:RB xs:=by exact ob):Zm 9 [Z4 xs] [] (Yt (.tup [Ui ((ZW xs).1),.b ((ZW xs).2)])):=by
 have hxl:=hb.len
 refine ZD 31 Tryz.func9 (ar (iA [nl,nl] fun b1=>Z1 (ZX 2 (iA [Z4 xs,.i 0,.b false] fun b2=>Z1 (ZX 1 (ic [0] (Zhp b2 xs 0 false (hb:=hb)) ?_))))))
 rintro _ _ ⟨im1,q21,bb1,rfl,rfl,ZT⟩
 have hE:=Z5r ZT.2 ZT.1
 have hiy:=SU (hb.drop _) ZT.2
 have hql:=ZT.1
 refine iA [nl,nl] fun b3=>ZG 0 b3 (VV im1) (ie (X6 (YW 13 [2,5] [(23,.b (bb1||((q21:Int) != (xs.length:Int))))] (fun gz=>gz) ?_ (fun hj1=>?_))))
 ·refine Xi [2,5] [(28,.b ((bb1||((q21:Int) != (xs.length:Int)))||(!(Wr im1))))] (fun gz=>gz) ?_ ?_
  ·refine Z0 1 (ib (b:=(bb1||((q21:Int) != (xs.length:Int)))) 24 (fun Zb=>?_) (fun Zb=>?_))
   ·have Yg:(bb1=true)∨((q21:Int)≠(xs.length:Int)):=((ZJ Iff.rfl Yh)).1 Zb
    exact Z1 (Zs 3 (Zj true Zb fl))
   have YJ:¬((bb1=true)∨((q21:Int)≠(xs.length:Int))):=Y2 (ZJ Iff.rfl Yh) Zb
   exact ZB 1 [0] (Zw [] (Zhg im1 (hz:=hiy)) (Z1 (Zs 3 (Zj (!(Wr im1)) Zb fl))))
  refine ac ((bb1||((q21:Int) != (xs.length:Int)))||(!(Wr im1))) (p:=((bb1=true)∨((q21:Int)≠(xs.length:Int)))∨(¬((Wr im1)=true))) (ZJ (ZJ Iff.rfl Yh) (Y8 Iff.rfl)) (fun Z9=>?_) (fun Z9=>?_)
  ·have hN:ZW xs=(CW,false):=by rw [hE,Za (fun q=>by simp [q.1,q.2.1,q.2.2] at Z9)]
   exact ZX 1 (ZG 2 b1 [nl,nl] (Zk (r3 [] [.agg [nl,nl],.b false] [0] [(b1,b1)] ⟨rfl,rfl⟩ (Zl.tup (.cons (Zl.agg (.cons (Zl.sl _ (by rw [hN];rfl)) (.cons (Zl.sl _ (by rw [hN];rfl)) .nil))) (.cons (lb (by rw [hN])) .nil))))))
  have hq:bb1=false/\(q21:Int)=xs.length/\Wr im1=true:=by simpa [and_assoc] using Z9
  have hY:ZW xs=(im1,true):=by rw [hE,Zf ⟨hq.1,by omega,hq.2.2⟩]
  exact ak (Zq 1 [0] (ZG 2 b1 (VV im1) (Zk (r3 [] [Ui im1,.b true] [0] [(b1,b1)] ⟨rfl,rfl⟩ (Zl.tup (.cons (Zl.agg (.cons (Zl.sl _ (Yn Xn (by rw [hY]))) (.cons (Zl.sl _ (Yn We (by rw [hY]))) .nil))) (.cons (lb (by rw [hY])) .nil)))))))
 refine ZB 5 [1] (ib (b:=bb1) 15 (fun Zy=>?_) (fun Zy=>?_))
 ·have YQ:bb1=true:=(Iff.rfl).1 Zy
  exact Z0 8 (ZZ (Zs 3 (Zj true Zy fl)) hj1)
 have X4:¬(bb1=true):=Y2 Iff.rfl Zy
 exact ZB 5 [1] (iw (Y9 xs) (Z0 2 (ZZ (Zs 3 (Zj ((q21:Int) != (xs.length:Int)) Zy fl)) hj1)))
section
variable {rs:List Yz} {k:Nat} {r:Yz}
end
theorem Z9k (code:LI) (hl:code.length<=1048576:=by exact ob) (hc:∀z∈code,0<=z/\z<=255):Zm 24 [Uv code] [] (fun r h=>∃(rd:Nat) (bs:LI),r=.p rd 0/\h=[.obj rd [Uv bs,.i 0]]/\∀z∈bs,0<=z/\z<=255):=by
 refine ZD 11 Tryz.func24 (ZY (YR 1 (iw (BP code) (Z1 (Xw (fun fz gz F h=>F=sF [] fz [(0,Uv (if (code.length:Int)>2000 then (code.take 2000) else code))]/\h=gz) ?_ ?_)))))
 ·refine Wt ((code.length:Int)>2000) (fun Z9=>?_) (fun Z9=>?_)
  ·exact az (Z0 1 (Zp (AO (es:=TV code) (hv:=none) (l:=0) (m:=2000) (sz:=1) (es':=TV (code.take 2000)) kr om (by simp<;>omega) (by simp<;>omega) (Z63 _) (by first|(simp only [T0,U7,L7,L5];done)|(simp only [T0,U7,L7,L5];rfl)|(simp [L7,L5];done))) (Z1 (ZM ⟨rfl,rfl⟩ (wk [] (fc (x:=Uv (code.take 2000)) (Zl.sl _ (Yn TV (by first|rfl|(rw [Zf Z9])|(rw [Za Z9])|(simp [Z9];done)|(rw [Ye];simp [Z9];done)|omega))) fl))))))
  exact ak (ZM ⟨rfl,rfl⟩ (wk [] (fc (x:=Uv code) (Zl.sl _ (Yn TV (by first|rfl|(rw [Zf Z9])|(rw [Za Z9])|(simp [Z9];done)|(rw [Ye];simp [Z9];done)|omega))) fl)))
 rintro F h ⟨rfl,rfl⟩
 exact ZX 2 (iA [Uv (if (code.length:Int)>2000 then (code.take 2000) else code),.i 0] fun b1=>Zk (r1 [0] ⟨b1,(if (code.length:Int)>2000 then (code.take 2000) else code),rfl,rfl,(by first|exact hc|exact fun z hz=>hc z (QA hz)|(split<;>first|exact hc|exact fun z hz=>hc z (QA hz)))⟩))
theorem V3 (rd:Nat) (bs:LI) (p:Nat) (mx:Int) (Yd:∀z∈bs,0<=z/\z<=255) (hp:p+1<=1000000000:=by exact ob):Zm 27 [.p rd 0,.i mx] [YU rd bs p] (fun r h=>∃(k:Int),r=.i k/\h=[.obj rd [Uv bs,.i (p+1:Nat)]]/\Pk mx k):=by
 refine ZD 99 Tryz.func27 (ZY (Zq 5 [0] (ZC p (Z0 2 (ZG 0 rd [Uv bs,.i (p+1:Nat)] (ie (X6 (Xi [0,1] [(24,.b ((decide (mx<1))||((bs.length:Int)==0)))] (fun gz=>gz) ?_ ?_))))))))
 ·refine Z0 3 (ib (b:=(decide (mx<1))) 17 (fun Zb=>?_) (fun Zb=>?_))
  ·exact Z1 (wk [0] (Zj true Zb fl))
  exact ZB 4 [0] (iw (BP bs) (Z1 (wk [0] (Zj ((bs.length:Int)==0) Zb fl))))
 refine ac ((decide (mx<1))||((bs.length:Int)==0)) (p:=(mx<1)∨((bs.length:Int)=0)) (ZJ dq Zg) (fun Z9=>?_) (fun Z9=>?_)
 ·exact ar (Zk (r1 [0] ⟨0,rfl,rfl,Pk.zero⟩))
 refine ak (Zq 4 [0] (ia ((p:Int)) ((((p+1:Nat):Int))-(1)) (Z1 (Yq 5 [0] (iw (BP bs) (Y3 ((p:Int)<(bs.length:Int)) (fun Zh=>?_) (fun Zh=>?_)))))))
 ·refine Zq 5 [0] ?_
  obtain ⟨x1,Z3⟩:=Zt bs p om
  have hz:=Yd _ (Y4 Z3)
  exact Zp (Ze none (p:Int) 1 (L6 Z3)) (Z0 1 (Zp (LZ x1 om) (Z0 1 (Zp (F5 x1 mx om om) (Zk (r1 [0] ⟨(x1 % mx),rfl,rfl,(Pk.rem om om)⟩))))))
 have hq1:p / bs.length<=p:=Nat.div_le_self _ _
 have hq0:(0:Int)<=((p / bs.length:Nat):Int):=Int.natCast_nonneg _
 refine ak (aD 46 (ZV 37 46 [0,1,2,3,4,5,6,7,8] [0,0] (dw 9 (BP bs) (dx 10 (Rs p bs.length om om) ?_))))
 obtain ⟨x2,Zv⟩:=Zt bs (p % bs.length) (Nat.mod_lt _ om)
 have hz:=Yd _ (Y4 Zv)
 refine dx 11 (Ze none ((p % bs.length:Nat):Int) 1 (L6 Zv)) (Zo 33 34 [12] (dx 13 (LZ x2 om) (da 14 ((x2*131)) ((x2)*(131)) (ZV 26 31 [15,16,17,18,19] [0] (da 20 (((p*7:Nat):Int)) (((p:Int))*(7)) (da 21 (((p*7+3:Nat):Int)) ((((p*7:Nat):Int))+(3)) (ZV 20 24 [22,23,24,25] [0] (dw 26 (BP bs) (dx 27 (Rs (p*7+3) bs.length om om) ?_)))))))))
 obtain ⟨x3,YN⟩:=Zt bs ((p*7+3) % bs.length) (Nat.mod_lt _ om)
 have hz3:=Yd _ (Y4 YN)
 exact dx 28 (Ze none (((p*7+3) % bs.length:Nat):Int) 1 (L6 YN)) (Zo 16 17 [29] (dx 30 (LZ x3 om) (da 31 ((x3*1117)) ((x3)*(1117)) (da 32 (((x2*131)+(x3*1117))) (((x2*131))+((x3*1117))) (Zo 12 13 [33] (da 34 (((p*29:Nat):Int)) (((p:Int))*(29)) (da 35 ((((x2*131)+(x3*1117))+((p*29:Nat):Int))) ((((x2*131)+(x3*1117)))+(((p*29:Nat):Int))) (ZV 5 10 [36,37,38,39,40] [0] (dw 41 (BP bs) (dx 42 (CS p bs.length om om) (da 43 ((((p / bs.length:Nat):Int)*53)) ((((p / bs.length:Nat):Int))*(53)) (da 44 (((((x2*131)+(x3*1117))+((p*29:Nat):Int))+(((p / bs.length:Nat):Int)*53))) (((((x2*131)+(x3*1117))+((p*29:Nat):Int)))+((((p / bs.length:Nat):Int)*53))) (Zo 0 1 [45] (de (ZX 2 (Zp (Hc ((((x2*131)+(x3*1117))+((p*29:Nat):Int))+(((p / bs.length:Nat):Int)*53)) 64 om om) (Zp (Zbn ((((x2*131)+(x3*1117))+((p*29:Nat):Int))+(((p / bs.length:Nat):Int)*53)) (((((x2*131)+(x3*1117))+((p*29:Nat):Int))+(((p / bs.length:Nat):Int)*53)) / 64)) (Z1 (ZX 2 (Zp (F5 (Ei ((((x2*131)+(x3*1117))+((p*29:Nat):Int))+(((p / bs.length:Nat):Int)*53)) (((((x2*131)+(x3*1117))+((p*29:Nat):Int))+(((p / bs.length:Nat):Int)*53)) / 64)) mx om (Z2w ⟨by omega,by omega⟩ ⟨by omega,by omega⟩).1) (Zk (r1 [0] ⟨((Ei ((((x2*131)+(x3*1117))+((p*29:Nat):Int))+(((p / bs.length:Nat):Int)*53)) (((((x2*131)+(x3*1117))+((p*29:Nat):Int))+(((p / bs.length:Nat):Int)*53)) / 64)) % mx),rfl,rfl,(Pk.rem (Z2w ⟨by omega,by omega⟩ ⟨by omega,by omega⟩).1 om)⟩))))))))))))))))))))))
theorem JA (rd:Nat) (bs:LI) (p:Nat) (xs:LI) (Yd:∀z∈bs,0<=z/\z<=255) (hp:p+1<=1000000000:=by exact ob) (hx:0<xs.length/\xs.length<=1000000:=by exact ob):Zm 28 [.p rd 0,Z4 xs] [YU rd bs p] (fun r h=>∃(z:Int),r=.i z/\h=[.obj rd [Uv bs,.i (p+1:Nat)]]/\z∈xs):=by
 refine ZD 12 Tryz.func28 (ZY (ZX 3 (iw (Y9 xs) (ic [0] (V3 rd bs p (xs.length:Int) (Yd:=ob)) ?_))))
 rintro _ _ ⟨k1,rfl,rfl,ZT⟩
 have hk:=ZT.lt om
 obtain ⟨x1,Z3⟩:=Zt xs k1.toNat om
 exact Zp (Ze none k1 1 (Y7 Z3)) (Zk (r1 [0] ⟨x1,rfl,rfl,(Y4 Z3)⟩))
theorem BY (fs:LI) :Zm 303 [Z4 fs] [] (Yt (Es (YK.mk fs))):=by
 exact ZD 5 Tryz.func303 (ar (iA [nl] fun b1=>ie (ZX 2 (ZG 0 b1 [Z4 fs] (ie (Yc (r3 [] [.agg [Z4 fs]] [0] [(b1,b1)] ⟨rfl,rfl⟩ (Zl.agg (.cons (Zl.sl _ (Yn Z6 ob)) .nil)))))))))
theorem Z90 (rd:Nat) (bs:LI) (p:Nat) (Yd:∀z∈bs,0<=z/\z<=255) (hp:p+1<=1000000000):Zm 264 [.p rd 0] [YU rd bs p] (fun r h=>∃(ds:List Zc) (v:Hd),r=.h v/\h=[rK v 3 (Zu (Xn ds)),.obj rd [Uv bs,.i (p+1:Nat)]]/\GD ds):=by
 refine ZD 51 Tryz.func264 (ZY (ar (iL (Z6 []) 0 1 fun v1=>Y0 0 [(8,Z4 [])] (Zw [] (BY []) (iL (Z6 [0,1]) 2 1 fun v2=>Y0 0 [(10,Z4 [0,1])] (Zw [] (BY [0,1]) (iL (WF [YK.mk [],YK.mk [0,1]]) 2 1 fun v3=>Z0 1 (iA [.i 0,.i 0,nl] fun b1=>ZG 0 b1 [.i 0,.i 0,D3 [YK.mk [],YK.mk [0,1]] v3] (ie (ar (iL (Z6 []) 0 1 fun v4=>Y0 0 [(14,Z4 [])] (Zw [] (BY []) (iL (Z6 [3,0,3]) 3 1 fun v5=>Y0 0 [(16,Z4 [3,0,3])] (Zw [] (BY [3,0,3]) (iL (WF [YK.mk [],YK.mk [3,0,3]]) 2 1 fun v6=>Z0 1 (iA [.i 0,.i 0,nl] fun b2=>ZG 0 b2 [.i 0,.i 0,D3 [YK.mk [],YK.mk [3,0,3]] v6] (ie (ar (iL (Z6 [1,3]) 2 1 fun v7=>Y0 0 [(20,Z4 [1,3])] (Zw [] (BY [1,3]) (iL (WF [YK.mk [1,3]]) 1 1 fun v8=>Z0 2 (iL (Z6 [1,1,0]) 3 1 fun v9=>Y0 0 [(25,Z4 [1,1,0])] (Zw [] (BY [1,1,0]) (iL (Z6 [0]) 1 1 fun v10=>Y0 0 [(27,Z4 [0])] (Zw [] (BY [0]) (iL (Z6 [3]) 1 1 fun v11=>Y0 0 [(29,Z4 [3])] (Zw [] (BY [3]) (iL (WF [YK.mk [1,1,0],YK.mk [0],YK.mk [3]]) 3 1 fun v12=>Y0 2 [(23,.agg [.i 0,.i 0,JR [YK.mk [1,3]]]),(24,.agg [.i 1,.i 0,.sl [] none]),(32,.agg [.i 0,.i 0,JR [YK.mk [1,1,0],YK.mk [0],YK.mk [3]]]),(33,.agg [.i 0,.i 1,.sl [] none])] (iL (Xn [Zc.mk 0 0 [YK.mk [1,3]],Zc.mk 1 0 [],Zc.mk 0 0 [YK.mk [1,1,0],YK.mk [0],YK.mk [3]],Zc.mk 0 1 []]) 4 3 fun v13=>Z1 (ar (QM 3 [(35,.agg [.i 0,.i 0,JR [YK.mk [],YK.mk [0,1]]]),(36,.agg [.i 0,.i 0,.sl [] none]),(37,.agg [.i 0,.i 0,JR [YK.mk [],YK.mk [3,0,3]]])] [11,7] (iKN (Zu (Xn [Zc.mk 0 0 [YK.mk [],YK.mk [0,1]],Zc.mk 0 0 [],Zc.mk 0 0 [YK.mk [],YK.mk [3,0,3]]])) 3 3 fun g1=>Z1 (ZX 1 (ic [16] (V3 rd bs p 5 (Yd:=ob)) ?_))))))))))))))))))))))))))))))))))
 rintro _ _ ⟨k1,rfl,rfl,ZT⟩
 have hk:=ZT.lt om
 refine Z1 (X6 (Y3 (k1<4) (fun Z9=>?_) (fun Z9=>?_)))
 ·refine az (Z0 3 ?_)
  obtain ⟨x1,Z3⟩:=Zt [Zc.mk 0 0 [YK.mk [1,3]],Zc.mk 1 0 [],Zc.mk 0 0 [YK.mk [1,1,0],YK.mk [0],YK.mk [3]],Zc.mk 0 1 []] k1.toNat (by show k1.toNat<4;omega)
  exact Zp (Ze (some v13) k1 3 (Ww Z3)) (Z0 1 (iL (Xn [x1]) 1 3 fun v14=>Y0 0 [(48,Yu [x1])] (iKA 2 3 (⟨some ⟨g1,0,none⟩,3,3⟩:Hd) 3 (Zu (Xn [Zc.mk 0 0 [YK.mk [],YK.mk [0,1]],Zc.mk 0 0 [],Zc.mk 0 0 [YK.mk [],YK.mk [3,0,3]]])) (Xn [x1]) none rfl (Al _) (Gx _) (by simp [Xn]) (by simp<;>omega) fun v15=>Z1 (ar (Zk (r1 [0,1] ⟨([B4,Zc.mk 0 0 [],B5]++[x1]),v15,rfl,rfl,(GD.four Z3)⟩ (eq:=(rr (ls:=Zu (Xn [Zc.mk 0 0 [YK.mk [],YK.mk [0,1]],Zc.mk 0 0 [],Zc.mk 0 0 [YK.mk [],YK.mk [3,0,3]]])++Zu (Xn [x1])) (Z7y _ _) (rc rz)))))))))
 exact ak (ar (Zk (r1 [1,0] ⟨[B4,Zc.mk 0 0 [],B5],(⟨some ⟨g1,0,none⟩,3,3⟩:Hd),rfl,rfl,GD.three⟩ (eq:=(rr (ls:=Zu (Xn [Zc.mk 0 0 [YK.mk [],YK.mk [0,1]],Zc.mk 0 0 [],Zc.mk 0 0 [YK.mk [],YK.mk [3,0,3]]])) rfl (rc rz))))))
theorem Z8z (rd:Nat) (bs:LI) (p:Nat) (Yd:∀z∈bs,0<=z/\z<=255) (hp:p+1<=1000000000:=by exact ob):Zm 264 [.p rd 0] [YU rd bs p] (fun r h=>∃(ds:List Zc) (v:Value),r=Q4 ds v/\h=[.tail v 3,.obj rd [Uv bs,.i (p+1:Nat)]]/\GD ds):=(Z90 rd bs p Yd hp).frz (es:=Xn) (hs:=fun _=>[.obj rd [Uv bs,.i (p+1:Nat)]]) Al om
theorem Z1t (n:ZF) (us:LI) (s:Z5) (hn:Xv n:=by exact ob) (hb:us.length+4*s.sz<=1000000000:=by exact ob) (ih:∀(b:Z7) (us:LI),(b.sz<s.sz)->(us.length+4*b.sz<=1000000000)->Zm 142 [YC n,Z4 us,Ym b] [] (Yt (.i (W2 n us b)))):Zm 197 [YC n,Z4 us,X3 s] [] (Yt (.i (YZ n us s))):=by
 have Xp:=hn.decls
 have hkz:=K9 s
 have haz:=Jv s
 have hdl:=Xp.len
 have hst:=MU n us s
 refine ZD 183 Tryz.func197 (ar (iA (X7 n) fun b1=>iA (W7 s) fun b2=>Z1 (X6 (YW 9 [1,3,5] [(16,.b ((s.num != 0)&&(!Qo s.op)))] (fun gz=>gz) ?_ (fun hj1=>?_)))))
 ·refine YW 15 [1,3,5] [(22,.b (((s.num != 0)&&(!Qo s.op))||(!Qh us s.op s.into)))] (fun gz=>gz) ?_ (fun hj2=>?_)
  ·refine Xi [1,3,5] [(38,.b ((((s.num != 0)&&(!Qo s.op))||(!Qh us s.op s.into))||((decide ((s.kids.length:Int)>0))&&((s.op != 7)&&(s.op != 8)))))] (fun gz=>gz) ?_ ?_
   ·refine Z0 1 (ib (b:=(((s.num != 0)&&(!Qo s.op))||(!Qh us s.op s.into))) 23 (fun Zb=>?_) (fun Zb=>?_))
    ·have ZT:((s.num≠0)/\(¬(Qo s.op=true)))∨(¬(Qh us s.op s.into=true)):=((ZJ (Yo Yh (Y8 Iff.rfl)) (Y8 Iff.rfl))).1 Zb
     exact Z1 (wk [0,0] (Zj true Zb fl))
    have Yg:¬(((s.num≠0)/\(¬(Qo s.op=true)))∨(¬(Qh us s.op s.into=true))):=Y2 (ZJ (Yo Yh (Y8 Iff.rfl)) (Y8 Iff.rfl)) Zb
    refine ZB 2 [0] (iw (Kz s.kids) (Z0 2 (ib (b:=(decide ((s.kids.length:Int)>0))) 28 (fun Zy=>?_) (fun Zy=>?_))))
    ·have YJ:(s.kids.length:Int)>0:=(dq).1 Zy
     refine ZB 5 [0] (ib (b:=(s.op != 7)) 33 (fun Yf=>?_) (fun Yf=>?_))
     ·have YQ:s.op≠7:=(Yh).1 Yf
      exact Vb [0] (wk [0,0] (Zj (s.op != 8) (And.intro Zb (And.intro Zy Yf)) fl))
     have X4:¬(s.op≠7):=Y2 Yh Yf
     exact Z1 (wk [0,0] (Zj false (And.intro Zb (And.intro Zy Yf)) fl))
    have Xy:¬((s.kids.length:Int)>0):=Y2 dq Zy
    exact Z1 (wk [0,0] (Zj false (And.intro Zb Zy) fl))
   refine ac ((((s.num != 0)&&(!Qo s.op))||(!Qh us s.op s.into))||((decide ((s.kids.length:Int)>0))&&((s.op != 7)&&(s.op != 8)))) (p:=(((s.num≠0)/\(¬(Qo s.op=true)))∨(¬(Qh us s.op s.into=true)))∨(((s.kids.length:Int)>0)/\((s.op≠7)/\(s.op≠8)))) (ZJ (ZJ (Yo Yh (Y8 Iff.rfl)) (Y8 Iff.rfl)) (Yo dq (Yo Yh Yh))) (fun Z9=>?_) (fun Z9=>?_)
   ·exact ar (Zk (ZP (.i (-1)) (li (by first|rfl|( grind)|(have q:=UO (ds:=n.decls) (us:=us) (args:=s.args) om; grind)|(have q:=UP (ds:=n.decls) (us:=us) (args:=s.args) om ‹s.args[0]? = some _› om; grind)|(have q:=Uz (ds:=n.decls) (us:=us) (args:=s.args) om ‹s.args[0]? = some _› om ‹us[_]? = some _›; grind)))))
   refine ak (X6 (Vb [0] (ab 0 (ar (YS (s.op==0) Zg (fun Zh=>?_) (fun Zh=>?_))))))
   ·refine Zq 2 [0] (iw (Y9 s.args) (Xi [] [(51,.b (((s.args.length:Int)==0)&&(decide ((-999)<=s.num/\s.num<=999))))] (fun gz=>gz) ?_ ?_))
    ·refine Z0 2 (ib (b:=((s.args.length:Int)==0)) 47 (fun YP=>?_) (fun YP=>?_))
     ·have Wx:(s.args.length:Int)=0:=(Zg).1 YP
      exact ZB 2 [0] (Zw [] (V6 s.num (-999) 999) (Z1 (wk [0,0] (Zj (decide ((-999)<=s.num/\s.num<=999)) YP fl))))
     have WZ:¬((s.args.length:Int)=0):=Y2 Zg YP
     exact Z1 (wk [0,0] (Zj false YP fl))
    refine ac (((s.args.length:Int)==0)&&(decide ((-999)<=s.num/\s.num<=999))) (p:=((s.args.length:Int)=0)/\((-999)<=s.num/\s.num<=999)) (Yo Zg dq) (fun ZA=>?_) (fun ZA=>?_)
    ·exact ar (Zk (ZP (.i 0) (li (by first|rfl|( grind)|(have q:=UO (ds:=n.decls) (us:=us) (args:=s.args) om; grind)|(have q:=UP (ds:=n.decls) (us:=us) (args:=s.args) om ‹s.args[0]? = some _› om; grind)|(have q:=Uz (ds:=n.decls) (us:=us) (args:=s.args) om ‹s.args[0]? = some _› om ‹us[_]? = some _›; grind)))))
    exact ak (ar (Zk (ZP (.i (-1)) (li (by first|rfl|( grind)|(have q:=UO (ds:=n.decls) (us:=us) (args:=s.args) om; grind)|(have q:=UP (ds:=n.decls) (us:=us) (args:=s.args) om ‹s.args[0]? = some _› om; grind)|(have q:=Uz (ds:=n.decls) (us:=us) (args:=s.args) om ‹s.args[0]? = some _› om ‹us[_]? = some _›; grind))))))
   refine Y5 (Xw (fun fz gz F h=>F=sF [1,3,5,40] fz [(52,.b ((s.op==1)||((s.op==2)||((s.op==3)||(s.op==4)))))]/\h=gz) ?_ ?_)
   ·refine ac (s.op==1) Zg (fun Yk=>?_) (fun Yk=>?_)
    ·exact ak (ZM ⟨rfl,rfl⟩ (wk [0,0] (fc (x:=.b (s.op==1)) (lb (by first|rfl|(rw [Zf Yk])|(rw [Za Yk])|(simp [Yk];done)|(rw [Ye];simp [Yk];done)|omega)) fl)))
    refine ar (YS (s.op==2) Zg (fun YI=>?_) (fun YI=>?_))
    ·exact ak (ZM ⟨rfl,rfl⟩ (wk [0,0] (fc (x:=.b (s.op==2)) (lb (by first|rfl|(rw [Zf Yk])|(rw [Za Yk])|(simp [Yk,YI];done)|(rw [Ye];simp [Yk,YI];done)|omega)) fl)))
    refine ar (YS (s.op==3) Zg (fun X9=>?_) (fun X9=>?_))
    ·exact ak (ZM ⟨rfl,rfl⟩ (wk [0,0] (fc (x:=.b (s.op==3)) (lb (by first|rfl|(rw [Zf Yk])|(rw [Za Yk])|(simp [Yk,YI,X9];done)|(rw [Ye];simp [Yk,YI,X9];done)|omega)) fl)))
    exact Vv (ZM ⟨rfl,rfl⟩ (wk [0,0] (fc (x:=.b (s.op==4)) (lb (by first|rfl|(rw [Zf Yk])|(rw [Za Yk])|(simp [Yk,YI,X9];done)|(rw [Ye];simp [Yk,YI,X9];done)|omega)) fl)))
   rintro F h ⟨rfl,rfl⟩
   refine ac ((s.op==1)||((s.op==2)||((s.op==3)||(s.op==4)))) (p:=(s.op=1)∨((s.op=2)∨((s.op=3)∨(s.op=4)))) (ZJ Zg (ZJ Zg (ZJ Zg Zg))) (fun WH=>?_) (fun WH=>?_)
   ·refine Zq 3 [0] (iL (Z6 [0,0]) 2 1 fun v1=>Y0 0 [(60,Z4 [0,0])] (Zw [] (Ci us s.args [0,0] (hl_tys:=(by first|(simp;done)|(have:=V8 Xp s.num;omega)))) (ie (ac (V0 us s.args [0,0]) Iff.rfl (fun VS=>?_) (fun VS=>?_)))))
    ·exact ar (Zk (ZP (.i 0) (li (by first|rfl|( grind)|(have q:=UO (ds:=n.decls) (us:=us) (args:=s.args) om; grind)|(have q:=UP (ds:=n.decls) (us:=us) (args:=s.args) om ‹s.args[0]? = some _› om; grind)|(have q:=Uz (ds:=n.decls) (us:=us) (args:=s.args) om ‹s.args[0]? = some _› om ‹us[_]? = some _›; grind)))))
    exact ak (ar (Zk (ZP (.i (-1)) (li (by first|rfl|( grind)|(have q:=UO (ds:=n.decls) (us:=us) (args:=s.args) om; grind)|(have q:=UP (ds:=n.decls) (us:=us) (args:=s.args) om ‹s.args[0]? = some _› om; grind)|(have q:=Uz (ds:=n.decls) (us:=us) (args:=s.args) om ‹s.args[0]? = some _› om ‹us[_]? = some _›; grind))))))
   refine ar (YS (s.op==5) Zg (fun Vj=>?_) (fun Vj=>?_))
   ·refine Zq 3 [0] (iL (Z6 [0]) 1 1 fun v2=>Y0 0 [(67,Z4 [0])] (Zw [] (Ci us s.args [0] (hl_tys:=(by first|(simp;done)|(have:=V8 Xp s.num;omega)))) (ie (ac (V0 us s.args [0]) Iff.rfl (fun VC=>?_) (fun VC=>?_)))))
    ·exact ar (Zk (ZP (.i 0) (li (by first|rfl|( grind)|(have q:=UO (ds:=n.decls) (us:=us) (args:=s.args) om; grind)|(have q:=UP (ds:=n.decls) (us:=us) (args:=s.args) om ‹s.args[0]? = some _› om; grind)|(have q:=Uz (ds:=n.decls) (us:=us) (args:=s.args) om ‹s.args[0]? = some _› om ‹us[_]? = some _›; grind)))))
    exact ak (ar (Zk (ZP (.i (-1)) (li (by first|rfl|( grind)|(have q:=UO (ds:=n.decls) (us:=us) (args:=s.args) om; grind)|(have q:=UP (ds:=n.decls) (us:=us) (args:=s.args) om ‹s.args[0]? = some _› om; grind)|(have q:=Uz (ds:=n.decls) (us:=us) (args:=s.args) om ‹s.args[0]? = some _› om ‹us[_]? = some _›; grind))))))
   refine ar (YS (s.op==6) Zg (fun Q1=>?_) (fun Q1=>?_))
   ·refine aD 17 (ZV 13 17 [0,1,2,3] [1,0] (Z8 4 (YD 4 [] [] [] (HV n.decls s.num) (BK [3,5] [(87,.b ((decide ((Wd n.decls s.num)>0))&&V0 us s.args (ZO n.decls s.num)))] (fun gz=>gz) ?_ ?_))))
    ·refine Zo 10 12 [5,6] (db (b:=(decide ((Wd n.decls s.num)>0))) 77 (fun XE=>?_) (fun XE=>?_))
     ·have Vw:(Wd n.decls s.num)>0:=(dq).1 XE
      exact ZV 3 10 [7,8,9,10,11,12,13] [0,1,0] (Z8 14 (YD 14 [] [0] [b2] (Qy n.decls s.num (hd:=Xp)) (Z8 15 (YD 15 [] [] [] (Ci us s.args (ZO n.decls s.num) (hl_tys:=(by first|(simp;done)|(have:=V8 Xp s.num;omega)))) (Zo 0 1 [16] (de (wk [0,0] (Zj (V0 us s.args (ZO n.decls s.num)) XE fl))))))))
     have Ua:¬((Wd n.decls s.num)>0):=Y2 dq XE
     exact Zo 0 10 [7,8,9,10,11,12,13,14,15,16] (de (wk [0,0] (Zj false XE fl)))
    refine ac ((decide ((Wd n.decls s.num)>0))&&V0 us s.args (ZO n.decls s.num)) (p:=((Wd n.decls s.num)>0)/\(V0 us s.args (ZO n.decls s.num)=true)) (Yo dq Iff.rfl) (fun VD=>?_) (fun VD=>?_)
    ·exact Zq 4 [1,0] (Zw [] (HV n.decls s.num) (Zk (ZP (.i (Wd n.decls s.num)) (li (by first|rfl|( grind)|(have q:=UO (ds:=n.decls) (us:=us) (args:=s.args) om; grind)|(have q:=UP (ds:=n.decls) (us:=us) (args:=s.args) om ‹s.args[0]? = some _› om; grind)|(have q:=Uz (ds:=n.decls) (us:=us) (args:=s.args) om ‹s.args[0]? = some _› om ‹us[_]? = some _›; grind))))))
    exact ak (ar (Zk (ZP (.i (-1)) (li (by first|rfl|( grind)|(have q:=UO (ds:=n.decls) (us:=us) (args:=s.args) om; grind)|(have q:=UP (ds:=n.decls) (us:=us) (args:=s.args) om ‹s.args[0]? = some _› om; grind)|(have q:=Uz (ds:=n.decls) (us:=us) (args:=s.args) om ‹s.args[0]? = some _› om ‹us[_]? = some _›; grind))))))
   refine ar (YS (s.op==7) Zg (fun QF=>?_) (fun QF=>?_))
   ·refine Zq 3 [0] (iL (Z6 [0]) 1 1 fun v3=>Y0 0 [(98,Z4 [0])] (Zw [] (Ci us s.args [0] (hl_tys:=(by first|(simp;done)|(have:=V8 Xp s.num;omega)))) (ie (ac (V0 us s.args [0]) Iff.rfl (fun ET=>?_) (fun ET=>?_)))))
    ·exact Zq 3 [2,1] (Zw [] (Z1o n us s (ih:=ob)) (Zk (ZP (.i (JK n us s.op s.num s.kids)) (li (by first|rfl|( grind)|(have q:=UO (ds:=n.decls) (us:=us) (args:=s.args) om; grind)|(have q:=UP (ds:=n.decls) (us:=us) (args:=s.args) om ‹s.args[0]? = some _› om; grind)|(have q:=Uz (ds:=n.decls) (us:=us) (args:=s.args) om ‹s.args[0]? = some _› om ‹us[_]? = some _›; grind))))))
    exact ak (ar (Zk (ZP (.i (-1)) (li (by first|rfl|( grind)|(have q:=UO (ds:=n.decls) (us:=us) (args:=s.args) om; grind)|(have q:=UP (ds:=n.decls) (us:=us) (args:=s.args) om ‹s.args[0]? = some _› om; grind)|(have q:=Uz (ds:=n.decls) (us:=us) (args:=s.args) om ‹s.args[0]? = some _› om ‹us[_]? = some _›; grind))))))
   refine ar (YS (s.op==8) Zg (fun EU=>?_) (fun EU=>?_))
   ·refine Zq 5 [0,0] (iL (Z6 [s.num]) 1 1 fun v4=>Y0 0 [(111,Z4 [s.num])] (Zw [] (Ci us s.args [s.num] (hl_tys:=(by first|(simp;done)|(have:=V8 Xp s.num;omega)))) (ie (ac (V0 us s.args [s.num]) Iff.rfl (fun KE=>?_) (fun KE=>?_)))))
    ·exact Zq 3 [2,1] (Zw [] (Z1o n us s (ih:=ob)) (Zk (ZP (.i (JK n us s.op s.num s.kids)) (li (by first|rfl|( grind)|(have q:=UO (ds:=n.decls) (us:=us) (args:=s.args) om; grind)|(have q:=UP (ds:=n.decls) (us:=us) (args:=s.args) om ‹s.args[0]? = some _› om; grind)|(have q:=Uz (ds:=n.decls) (us:=us) (args:=s.args) om ‹s.args[0]? = some _› om ‹us[_]? = some _›; grind))))))
    exact ak (ar (Zk (ZP (.i (-1)) (li (by first|rfl|( grind)|(have q:=UO (ds:=n.decls) (us:=us) (args:=s.args) om; grind)|(have q:=UP (ds:=n.decls) (us:=us) (args:=s.args) om ‹s.args[0]? = some _› om; grind)|(have q:=Uz (ds:=n.decls) (us:=us) (args:=s.args) om ‹s.args[0]? = some _› om ‹us[_]? = some _›; grind))))))
   refine Y5 (Xw (fun fz gz F h=>F=sF [1,3,5,40] fz [(117,.b ((s.op==9)||(s.op==10)))]/\h=gz) ?_ ?_)
   ·refine ac (s.op==9) Zg (fun KF=>?_) (fun KF=>?_)
    ·exact ak (ZM ⟨rfl,rfl⟩ (wk [0,0] (fc (x:=.b (s.op==9)) (lb (by first|rfl|(rw [Zf KF])|(rw [Za KF])|(simp [KF];done)|(rw [Ye];simp [KF];done)|omega)) fl)))
    exact Vv (ZM ⟨rfl,rfl⟩ (wk [0,0] (fc (x:=.b (s.op==10)) (lb (by first|rfl|(rw [Zf KF])|(rw [Za KF])|(simp [KF];done)|(rw [Ye];simp [KF];done)|omega)) fl)))
   rintro F h ⟨rfl,rfl⟩
   refine ac ((s.op==9)||(s.op==10)) (p:=(s.op=9)∨(s.op=10)) (ZJ Zg Zg) (fun LK=>?_) (fun LK=>?_)
   ·exact Zq 3 [1,0] (Zw [] (Zh1 n us s) (Zk (ZP (.i (Kl n us s.op s.num s.args)) (li (by first|rfl|( grind)|(have q:=UO (ds:=n.decls) (us:=us) (args:=s.args) om; grind)|(have q:=UP (ds:=n.decls) (us:=us) (args:=s.args) om ‹s.args[0]? = some _› om; grind)|(have q:=Uz (ds:=n.decls) (us:=us) (args:=s.args) om ‹s.args[0]? = some _› om ‹us[_]? = some _›; grind))))))
   refine ar (YS (s.op==11) Zg (fun JF=>?_) (fun JF=>?_))
   ·refine aD 26 (ZV 24 26 [0,1] [0] (dw 2 (Y9 s.args) (Zo 21 23 [3,4] (db (b:=((s.args.length:Int)==2)) 130 (fun Wq=>?_) (fun Wq=>?_)))))
    ·have UF:(s.args.length:Int)=2:=(Zg).1 Wq
     refine ZV 19 21 [5,6] [0] ?_
     obtain ⟨x1,Z3⟩:=Zt s.args 0 om
     refine dx 7 (Ze none 0 1 (Y7 Z3)) (Zo 16 18 [8,9] (dw 10 (Y9 us) (da 11 (((us.length:Int)-1)) (((us.length:Int))-(1)) (Z8 12 (YD 12 [] [] [] (V6 x1 0 ((us.length:Int)-1)) (Zo 11 13 [13,14] (db (b:=(decide (0<=x1/\x1<=((us.length:Int)-1)))) 140 (fun WG=>?_) (fun WG=>?_))))))))
     ·have Ur:0<=x1/\x1<=((us.length:Int)-1):=(dq).1 WG
      refine ZV 6 11 [15,16,17,18,19] [1,0] (dx 20 (Ze none 0 1 (Y7 Z3)) (Zo 4 5 [21] ?_))
      obtain ⟨x2,Zv⟩:=Zt us x1.toNat om
      refine dx 22 (Ze none x1 1 (Y7 Zv)) (Zo 2 3 [23] (Z8 24 (YD 24 [] [] [] (FM n.decls x2) (Zo 0 1 [25] (de (ac (VU n.decls x2) Iff.rfl (fun LL=>?_) (fun LL=>?_)))))))
      ·refine aD 14 (ZV 9 14 [0,1,2,3,4] [1,0] (dx 5 (Ze none 0 1 (Y7 Z3)) (Zo 7 8 [6] (dx 7 (Ze none x1 1 (Y7 Zv)) (Zo 5 6 [8] (da 9 ((x2-1)) ((x2)-(1)) (hb:=(by have:=LU ‹VU n.decls _=true›;omega)) ?_))))))
       obtain ⟨x3,YN⟩:=Zt n.decls ((x2-1).toNat) (by have:=LU ‹VU n.decls _=true›;omega)
       have had:=Z3z (us:=us) (args:=s.args) om ‹s.args[0]? = some _› om ‹us[_]? = some _› ‹VU n.decls _=true› YN
       refine dx 10 (Ef (es:=Xn n.decls) (hv:=none) (j:=(x2-1)) (sz:=3) (y:=Is x3) kr (by have:=LU ‹VU n.decls _=true›;omega) (Ww YN) rfl) (Zo 2 3 [11] (Z8 12 (dA 12 [0,1] [b2,b1] [.i 0,.i 0,nl] fun b3=>Z8 13 (X5 13 0 [] [] b3 (CT x3) (de (aD 8 (ZV 5 8 [0,1,2] [1] (dx 3 (AO (es:=Z6 s.args) (hv:=none) (l:=1) (m:=(((Z6 s.args).length:Nat):Int)) (sz:=1) (es':=Z6 (s.args.drop 1)) kr om (by simp<;>omega) (by simp<;>omega) (YG _) (by first|(simp only [T0,U7,KA,J1];done)|(simp only [T0,U7,KA,J1];rfl)|(simp [KA,J1];done))) (ZV 2 4 [4,5] [0] (Z8 6 (dL 6 [1] [b2] (Z6 [x3.frm]) 1 1 fun v5=>Yy 1 1 [] [(170,Z4 [x3.frm])] (Z8 7 (YD 7 [] [] [] (Ci us (s.args.drop 1) [x3.frm] (hl_tys:=(by first|(simp;done)|(have:=V8 Xp s.num;omega)))) (de (ac (V0 us (s.args.drop 1) [x3.frm]) Iff.rfl (fun GY=>?_) (fun GY=>?_))))))))))))))))
       ·exact Bd [1] (Yc (ZP (.i x3.to_) (li (by first|rfl|(clear Z3 Zv YN;grind)|(have q:=UO (ds:=n.decls) (us:=us) (args:=s.args) om;clear Z3 Zv YN;grind)|(have q:=UP (ds:=n.decls) (us:=us) (args:=s.args) om ‹s.args[0]? = some _› om;clear Z3 Zv YN;grind)|(have q:=Uz (ds:=n.decls) (us:=us) (args:=s.args) om ‹s.args[0]? = some _› om ‹us[_]? = some _›;clear Z3 Zv YN;grind)))))
       exact ak (ar (Zk (ZP (.i (-1)) (li (by first|rfl|(clear Z3 Zv YN;grind)|(have q:=UO (ds:=n.decls) (us:=us) (args:=s.args) om;clear Z3 Zv YN;grind)|(have q:=UP (ds:=n.decls) (us:=us) (args:=s.args) om ‹s.args[0]? = some _› om;clear Z3 Zv YN;grind)|(have q:=Uz (ds:=n.decls) (us:=us) (args:=s.args) om ‹s.args[0]? = some _› om ‹us[_]? = some _›;clear Z3 Zv YN;grind))))))
      exact ak (ar (Zk (ZP (.i (-1)) (li (by first|rfl|(clear Z3 Zv;grind)|(have q:=UO (ds:=n.decls) (us:=us) (args:=s.args) om;clear Z3 Zv;grind)|(have q:=UP (ds:=n.decls) (us:=us) (args:=s.args) om ‹s.args[0]? = some _› om;clear Z3 Zv;grind)|(have q:=Uz (ds:=n.decls) (us:=us) (args:=s.args) om ‹s.args[0]? = some _› om ‹us[_]? = some _›;clear Z3 Zv;grind))))))
     have Q2:¬(0<=x1/\x1<=((us.length:Int)-1)):=Y2 dq WG
     exact Zo 0 11 [15,16,17,18,19,20,21,22,23,24,25] (de (VP (ak (ar (Zk (ZP (.i (-1)) (li (by first|rfl|(clear Z3;grind)|(have q:=UO (ds:=n.decls) (us:=us) (args:=s.args) om;clear Z3;grind)|(have q:=UP (ds:=n.decls) (us:=us) (args:=s.args) om ‹s.args[0]? = some _› om;clear Z3;grind)|(have q:=Uz (ds:=n.decls) (us:=us) (args:=s.args) om ‹s.args[0]? = some _› om ‹us[_]? = some _›;clear Z3;grind)))))))))
    have Tw:¬((s.args.length:Int)=2):=Y2 Zg Wq
    exact Zo 0 21 [5,6,7,8,9,10,11,12,13,14,15,16,17,18,19,20,21,22,23,24,25] (de (VP (ak (ar (Zk (ZP (.i (-1)) (li (by first|rfl|( grind)|(have q:=UO (ds:=n.decls) (us:=us) (args:=s.args) om; grind)|(have q:=UP (ds:=n.decls) (us:=us) (args:=s.args) om ‹s.args[0]? = some _› om; grind)|(have q:=Uz (ds:=n.decls) (us:=us) (args:=s.args) om ‹s.args[0]? = some _› om ‹us[_]? = some _›; grind)))))))))
   refine Y5 (Xw (fun fz gz F h=>F=sF [1,3,5] fz [(174,.b ((s.op==14)||((s.op==15)||((s.op==16)||(s.op==17)))))]/\h=gz) ?_ ?_)
   ·refine ac (s.op==14) Zg (fun Tf=>?_) (fun Tf=>?_)
    ·exact ak (ZM ⟨rfl,rfl⟩ (wk [0,0] (fc (x:=.b (s.op==14)) (lb (by first|rfl|(rw [Zf Tf])|(rw [Za Tf])|(simp [Tf];done)|(rw [Ye];simp [Tf];done)|omega)) fl)))
    refine ar (YS (s.op==15) Zg (fun JG=>?_) (fun JG=>?_))
    ·exact ak (ZM ⟨rfl,rfl⟩ (wk [0,0] (fc (x:=.b (s.op==15)) (lb (by first|rfl|(rw [Zf Tf])|(rw [Za Tf])|(simp [Tf,JG];done)|(rw [Ye];simp [Tf,JG];done)|omega)) fl)))
    refine ar (YS (s.op==16) Zg (fun CK=>?_) (fun CK=>?_))
    ·exact ak (ZM ⟨rfl,rfl⟩ (wk [0,0] (fc (x:=.b (s.op==16)) (lb (by first|rfl|(rw [Zf Tf])|(rw [Za Tf])|(simp [Tf,JG,CK];done)|(rw [Ye];simp [Tf,JG,CK];done)|omega)) fl)))
    exact Vv (ZM ⟨rfl,rfl⟩ (wk [0,0] (fc (x:=.b (s.op==17)) (lb (by first|rfl|(rw [Zf Tf])|(rw [Za Tf])|(simp [Tf,JG,CK];done)|(rw [Ye];simp [Tf,JG,CK];done)|omega)) fl)))
   rintro F h ⟨rfl,rfl⟩
   refine ac ((s.op==14)||((s.op==15)||((s.op==16)||(s.op==17)))) (p:=(s.op=14)∨((s.op=15)∨((s.op=16)∨(s.op=17)))) (ZJ Zg (ZJ Zg (ZJ Zg Zg))) (fun Za4=>?_) (fun Za4=>?_)
   ·exact Zq 3 [1,0] (Zw [] (Zgl n us s) (Zk (ZP (.i (KZ n.decls us s.op s.args)) (li (by first|rfl|( grind)|(have q:=UO (ds:=n.decls) (us:=us) (args:=s.args) om; grind)|(have q:=UP (ds:=n.decls) (us:=us) (args:=s.args) om ‹s.args[0]? = some _› om; grind)|(have q:=Uz (ds:=n.decls) (us:=us) (args:=s.args) om ‹s.args[0]? = some _› om ‹us[_]? = some _›; grind))))))
   exact ak (ar (Zk (ZP (.i (-1)) (li (by first|rfl|( grind)|(have q:=UO (ds:=n.decls) (us:=us) (args:=s.args) om; grind)|(have q:=UP (ds:=n.decls) (us:=us) (args:=s.args) om ‹s.args[0]? = some _› om; grind)|(have q:=Uz (ds:=n.decls) (us:=us) (args:=s.args) om ‹s.args[0]? = some _› om ‹us[_]? = some _›; grind))))))
  refine Z0 1 (ib (b:=((s.num != 0)&&(!Qo s.op))) 17 (fun Vi=>?_) (fun Vi=>?_))
  ·have K7:(s.num≠0)/\(¬(Qo s.op=true)):=((Yo Yh (Y8 Iff.rfl))).1 Vi
   exact Z0 5 (ZZ (wk [0,0] (Zj true Vi fl)) hj2)
  have K8:¬((s.num≠0)/\(¬(Qo s.op=true))):=Y2 (Yo Yh (Y8 Iff.rfl)) Vi
  exact ZB 2 [0] (Zw [] (Zhi us s) (Z0 2 (ZZ (wk [0,0] (Zj (!Qh us s.op s.into) Vi fl)) hj2)))
 refine ZB 4 [0] (ib (b:=(s.num != 0)) 11 (fun Va=>?_) (fun Va=>?_))
 ·have Au:s.num≠0:=(Yh).1 Va
  exact ZB 2 [0] (Zw [] (Zgp s.op) (Z0 2 (ZZ (wk [0,0] (Zj (!Qo s.op) Va fl)) hj1)))
 have Bh:¬(s.num≠0):=Y2 Yh Va
 exact Z0 5 (ZZ (wk [0,0] (Zj false Va fl)) hj1)
theorem Zgd (n:ZF) (us:LI) (b:Z7) (hn:Xv n:=by exact ob) (hb:us.length+4*b.sz<=1000000000:=by exact ob) (ih:∀(s:Z5) (us:LI),(s.sz<b.sz)->(us.length+4*s.sz<=1000000000)->Zm 197 [YC n,Z4 us,X3 s] [] (Yt (.i (YZ n us s)))):Zm 142 [YC n,Z4 us,Ym b] [] (Yt (.i (W2 n us b))):=by
 have hbz:=Ux b
 have hbe:=IE n us b
 refine ZD 52 Tryz.func142 (ar (iA (X7 n) fun b1=>iA (XW b) fun b2=>Z1 (ZX 1 (ic [] (Vf us) ?_))))
 rintro _ _ ⟨v1,rfl,rfl⟩
 refine Z1 (Y5 (ab 0 (Y1 (fun fz gz m F h=>∃(k:Nat) (vs:LI) (v:Value),(k<=b.steps.length)/\(vs.length<=us.length+k)/\(Uw n (b.steps.drop k) vs=Uw n b.steps us)/\F=sF [3,5] fz [(7,Y6 vs v),(8,.i k)]/\h=[Zi gz 1,Zi gz 2,.tail v 1]/\m=b.steps.length-k) _ _ _ ⟨0,us,v1,ob,ob,ob,rfl,rfl,rfl⟩ (wk [1,1,0] (fr (Ya fl))) ?_)))
 rintro m F h ⟨k,vs,v,Yi,Zd,Zz,rfl,rfl,rfl⟩
 refine Yq 3 [0] (iw (UA b.steps) (Y3 ((k:Int)<(b.steps.length:Int)) (fun Z9=>?_) (fun Z9=>?_)))
 ·refine ak (aq (ab 1 (aD 9 (ZV 4 9 [0,1,2,3,4] [1,0] ?_))))
  obtain ⟨x1,Z3⟩:=Zt b.steps k om
  have hss:=Dc Z3
  refine dx 5 (Ze none (k:Int) 5 (V9 Z3)) (Yy 2 3 [6] [(20,Z4 vs)] (Z8 7 (YD 7 [] [] [] (ih x1 vs ob ob) (Zo 0 1 [8] (de (X6 (Y3 ((YZ n vs x1)<0) (fun Zh=>?_) (fun Zh=>?_))))))))
  ·refine ZY ?_
   rw [Yj Z3] at Zz
   exact Yc (ZP (.i (-1)) (li (by clear Z3;first|rfl|omega|grind [Uw])))
  refine ak (Zq 3 [0] (Zp (Ze none (k:Int) 5 (V9 Z3)) (Z0 2 (Zw [] (Ko x1.op) (ie (BL (fun fz gz F h=>∃(w:Value),F=sF [3,5,8] fz [(7,Y6 (if Xd x1.op=true then vs++[YZ n vs x1] else vs) w)]/\h=[Zi gz 0,Zi gz 1,.tail w 1]) (fun _ _=>rfl) ?_ ?_))))))
  ·refine ac (Xd x1.op) Iff.rfl (fun ZA=>?_) (fun ZA=>?_)
   ·exact az (Z0 2 (iL (Z6 [YZ n vs x1]) 1 1 fun v2=>Y0 0 [(38,Z4 [YZ n vs x1])] (ip 3 (Z6 (vs++[YZ n vs x1])) (Z6 vs) (Z6 [YZ n vs x1]) v none 1 (YG _) (YG _) (XT _) (by simp<;>omega) (by simp [XX,Z6]) fun v3=>Z1 (ZM ⟨v3,rfl,rfl⟩ (wk [2,2,0] (fc (x:=Y6 (vs++[YZ n vs x1]) v3) (Zl.slh _ (Yn Z6 (by first|rfl|(rw [Zf ZA])|(rw [Za ZA])|(simp [ZA];done)|(rw [Ye];simp [ZA];done)|omega))) fl))))))
   exact ak (ZM ⟨v,rfl,rfl⟩ (Zs 3 (fc (x:=Y6 vs v) (Zl.slh _ (Yn Z6 (by first|rfl|(rw [Zf ZA])|(rw [Za ZA])|(simp [ZA];done)|(rw [Ye];simp [ZA];done)|omega))) fl)))
  rintro F h ⟨w,rfl,rfl⟩
  refine az (Z0 1 (ZC k (Z1 ?_)))
  have hdr:=Yj Z3
  exact ZE ⟨k+1,(if Xd x1.op=true then vs++[YZ n vs x1] else vs),w,ob,(by split<;>(try simp)<;>omega),(by rw [hdr] at Zz;clear hdr Z3;grind [Uw]),rfl,rfl,rfl⟩ (Zs 3 (fr (ZI k fl)))
 refine ax 0 (Yq 3 [0] (iw (Y9 vs) (ia (((vs.length:Int)-1)) (((vs.length:Int))-(1)) (Zw [] (V6 b.result 0 ((vs.length:Int)-1)) (YS (!(decide (0<=b.result/\b.result<=((vs.length:Int)-1)))) (p:=¬(0<=b.result/\b.result<=((vs.length:Int)-1))) (Y8 dq) (fun Yk=>?_) (fun Yk=>?_))))))
 ·refine ZY ?_
  try rw [Xj (xs:=b.steps) (k:=k) om] at Zz
  exact Yc (ZP (.i (-1)) (li (by rw [hbe,<-Zz];show _=(WY vs b.result).getD (-1);rw [B1 Yk];rfl)))
 refine ak (Zq 3 [0] ?_)
 obtain ⟨x2,Zv⟩:=Zt vs b.result.toNat om
 refine Zp (Ze (some v) b.result 1 (Y7 Zv)) (Z1 ?_)
 try rw [Xj (xs:=b.steps) (k:=k) om] at Zz
 exact Yc (ZP (.i x2) (li (by rw [hbe,<-Zz];show _=(WY vs b.result).getD (-1);rw [BH om Zv];rfl)))
theorem Zha (b:Z7) (l:Int) (hb:b.sz<=1000000000) (hl:0<=l/\l<=600) (ih:∀(b2:Z7) (l:Int),(b2.sz<b.sz)->(0<=l/\l<=600)->Zm 196 [Ym b2,.i l] [] (Yt (.i (Tg b2 l)))):Zm 196 [Ym b,.i l] [] (Yt (.i (Tg b l))):=by
 have hbz:=Ux b
 have hbe:=Zce b l
 refine ZD 43 Tryz.func196 (ar (iA (XW b) fun b1=>?_))
 refine Z1 (Y5 (ab 0 (Y1 (fun fz gz m F h=>∃(k:Nat) (q:Int),(k<=b.steps.length)/\(0<=q/\q<=600)/\(JM (b.steps.drop k) q=JM b.steps l)/\F=sF [2] fz [(1,.i q),(5,.i k)]/\h=gz/\m=b.steps.length-k) _ _ _ ⟨0,l,ob,ob,ob,rfl,rfl,rfl⟩ (wk [0] (fr (Ya fl))) ?_)))
 rintro m F h ⟨k,q,Yi,Zd,Zz,rfl,rfl,rfl⟩
 refine Yq 3 [0] (iw (UA b.steps) (Y3 ((k:Int)<(b.steps.length:Int)) (fun Z9=>?_) (fun Z9=>?_)))
 ·refine ak (aq (ab 1 (X6 (Y3 (q<1) (fun Zh=>?_) (fun Zh=>?_)))))
  ·refine ZY ?_
   try rw [Xj (xs:=b.steps) (k:=k) om] at Zz
   obtain ⟨x1,Z3⟩:=Zt b.steps k om
   rw [Yj Z3] at Zz
   clear Z3
   exact Yc (ZP (.i (-1)) (li (by first|rfl|omega|grind [JM])))
  obtain ⟨s1,hxs1⟩:=Zt b.steps k om
  have hss:=Eg hxs1
  have hkz:=K9 s1
  refine ak (ZX 1 (ia ((q-1)) ((q)-(1)) (Z1 (ZY (ab 2 (Y1 (fun fz gz m F h=>∃(j:Nat) (j2:Int),(j<=s1.kids.length)/\(0<=j2/\j2<=600)/\(Aw (s1.kids.drop j) j2=Aw s1.kids (q-1))/\F=sF [2,5] fz [(1,.i j2),(6,.i j)]/\h=gz/\m=s1.kids.length-j) _ _ _ ⟨0,(q-1),ob,ob,ob,rfl,rfl,rfl⟩ (wk [0] (fr (Ya fl))) ?_))))))
  rintro m F h ⟨j,j2,VG,Xm,XN,rfl,rfl,rfl⟩
  refine Yq 4 [0] (Zp (Ze none (k:Int) 5 (V9 hxs1)) (Z0 2 (iw (Kz s1.kids) (Y3 ((j:Int)<(s1.kids.length:Int)) (fun ZA=>?_) (fun ZA=>?_)))))
  ·refine ak (aq (ab 3 (Zq 3 [0] (Zp (Ze none (k:Int) 5 (V9 hxs1)) (Z0 3 ?_)))))
   obtain ⟨x1,Z3⟩:=Zt s1.kids j om
   have hks:=Qs Z3
   have hle:=RH.2 x1 j2 om
   refine Zp (Ze none (j:Int) 2 (UQ Z3)) (Z0 2 (Zw [] (ih x1 j2 ob ob) (Z1 (ar (Y3 ((Tg x1 j2)<0) (fun Yk=>?_) (fun Yk=>?_))))))
   ·refine ZY ?_
    rw [Yj hxs1] at Zz
    rw [Yj Z3] at XN
    have hls:=RJ s1 (q-1)
    exact Yc (ZP (.i (-1)) (li (by clear Z3 hxs1;first|rfl|omega|grind [JM,Aw])))
   refine ak (az (Z0 1 (ZC j (Z1 ?_))))
   have hdr:=Yj Z3
   exact ZE ⟨j+1,(Tg x1 j2),ob,ob,(by rw [hdr] at XN;clear hdr Z3 hxs1;grind [Aw]),rfl,rfl,rfl⟩ (wk [0] (fr (ZI j fl)))
  refine ax 2 (az (Z0 1 (ZC k (Z1 ?_))))
  rw [Xj om] at XN
  have hls:=RJ s1 (q-1)
  rw [Aw] at XN
  have hdr:=Yj hxs1
  exact ZE ⟨k+1,j2,ob,ob,(by rw [hdr] at Zz;clear hdr hxs1;grind [JM]),rfl,rfl,rfl⟩ (wk [0] (fr (ZI k fl)))
 refine ax 0 (ZY ?_)
 try rw [Xj (xs:=b.steps) (k:=k) om] at Zz
 exact Yc (ZP (.i q) (li (by first|rfl|omega|grind [JM])))
theorem Zh9 (b:Z7) (l:Int) (hb:b.sz<=1000000000) (hl:0<=l/\l<=600):Zm 196 [.agg [.sl (ZQ b.steps) none,.i b.result],.i l] [] (Yt (.i (Tg b l))):=by
 have key:∀m:Nat,∀(b:Z7) (l:Int),b.sz<=m->b.sz<=1000000000->(0<=l/\l<=600)->Zm 196 [.agg [.sl (ZQ b.steps) none,.i b.result],.i l] [] (Yt (.i (Tg b l))):=by
  intro m
  induction m with
  | zero=>intro b l h;have:=b.sz_pos;omega
  | succ m ih=>intro b l h1 h2 h3;exact Zha b l h2 h3 fun b2 l2 k1 k2=>ih b2 l2 om om k2
 exact key b.sz b l (X2 _) hb hl
theorem Zgc (n:ZF) (hn:Xv n) (m:Nat):∀(b:Z7) (us:LI),(b.sz<=m)->(us.length+4*b.sz<=1000000000)->Zm 142 [YC n,Z4 us,Ym b] [] (Yt (.i (W2 n us b))):=by
 induction m with
 | zero=>intro b us h;have:=b.sz_pos;omega
 | succ m ih=>intro b us h1 h2;exact Zgd n us b hn h2 fun s us2 k1 k2=>Z1t n us2 s hn k2 fun b2 us3 q1 q2=>ih b2 us3 om q2
theorem Z1j (n:ZF) (us:LI) (b:Z7) (hn:Xv n) (hb:us.length+4*b.sz<=1000000000):Zm 142 [YC n,Z4 us,Ym b] [] (Yt (.i (W2 n us b))):=
 Zgc n hn b.sz b us (X2 _) hb
theorem MQ (n:ZF) (us:LI) (s:Z5) (hn:Xv n) (hb:us.length+4*s.sz<=1000000000):Zm 197 [YC n,Z4 us,X3 s] [] (Yt (.i (YZ n us s))):=
 Z1t n us s hn hb fun b2 us3 _ q2=>Z1j n us3 b2 hn q2
theorem Zhb (b:Z7) (hb:b.sz<=1000000000:=by exact ob):Zm 141 [Ym b] [] (Yt (.i (Bs b))):=by
 have hle:=RH.2 b 600 om
 refine ZD 10 Tryz.func141 (ar (iA (XW b) fun b1=>Z1 (Zq 1 [0] (Zw [] (Zh9 b 600 ob ob) (Z1 (X6 (Y3 ((Tg b 600)<0) (fun Z9=>?_) (fun Z9=>?_))))))))
 ·exact ar (Zk (ZP (.i (-1)) (li (by first|rfl|omega|grind [Bs]))))
 exact ak (ZX 1 (ia ((600-(Tg b 600))) ((600)-(Tg b 600)) (Zk (ZP (.i (600-(Tg b 600))) (li (by first|rfl|omega|grind [Bs]))))))
theorem Be (z:Int) :Zm 305 [.i z] [] (Yt (Yb (Z2.mk 0 z []))):=by
 exact ZD 6 Tryz.func305 (ar (iA [.i 0,.i 0,nl] fun b1=>ie (ZX 1 (iL (Yv []) 0 3 fun v1=>Z0 1 (ZG 1 b1 [.i 0,.i z,QJ [] v1] (ie (Yc (r3 [] [.agg [.i 0,.i z,QJ [] v1]] [0] [(b1,b1)] ⟨rfl,rfl⟩ (Zl.agg (.cons li (.cons li (.cons (Zl.sl _ (Yn Yv rfl)) .nil))))))))))))
theorem Qn (z:Int) :Zm 334 [.i z] [] (Yt (Yb (Z2.mk 12 z []))):=by
 exact ZD 6 Tryz.func334 (ar (iA [.i 0,.i 0,nl] fun b1=>ie (ZX 1 (iL (Yv []) 0 3 fun v1=>Z0 1 (ZG 1 b1 [.i 12,.i z,QJ [] v1] (ie (Yc (r3 [] [.agg [.i 12,.i z,QJ [] v1]] [0] [(b1,b1)] ⟨rfl,rfl⟩ (Zl.agg (.cons li (.cons li (.cons (Zl.sl _ (Yn Yv rfl)) .nil))))))))))))
theorem XR (op:Int) (nm:Int) (ks:List Z2) :Zm 332 [.i op,.i nm,Xz ks] [] (Yt (Yb (Z2.mk op nm ks))):=by
 exact ZD 11 Tryz.func332 (ar (iA [.i 0,.i 0,nl] fun b1=>ie (ZX 4 (ZG 0 b1 [.i op,.i nm,Xz ks] (ie (Yc (r3 [] [.agg [.i op,.i nm,Xz ks]] [0] [(b1,b1)] ⟨rfl,rfl⟩ (Zl.agg (.cons li (.cons li (.cons (Zl.sl _ (Yn Yv rfl)) .nil)))))))))))
theorem PH (rd:Nat) (bs:LI) (p:Nat) (Yd:∀z∈bs,0<=z/\z<=255) (hp:p+4<=1000000000:=by exact ob):Zm 352 [.p rd 0] [YU rd bs p] (fun r h=>∃(z:Int),r=.i z/\h=[.obj rd [Uv bs,.i (p+4:Nat)]]/\-2000<=z/\z<=2000):=by
 refine ZD 12 Tryz.func352 (ZY (ZX 2 (ic [0] (V3 rd bs p 6 (Yd:=ob)) ?_)))
 rintro _ _ ⟨k1,rfl,rfl,ZT⟩
 have qhp1:=ZT.lt om
 refine Z0 1 (ic [0] (V3 rd bs (p+1) 6 (Yd:=ob)) ?_)
 rintro _ _ ⟨k2,rfl,rfl,Yg⟩
 have qhp2:=Yg.lt om
 refine Z0 1 (ic [0] (V3 rd bs ((p+1)+1) 40 (Yd:=ob)) ?_)
 rintro _ _ ⟨k3,rfl,rfl,YJ⟩
 have qhp3:=YJ.lt om
 refine iL (Z6 [k1,k2,0,1,2,-1,3,k3,999,-998]) 10 1 fun v1=>Y0 0 [(10,Z4 [k1,k2,0,1,2,-1,3,k3,999,-998])] (ic [1] (JA rd bs (((p+1)+1)+1) [k1,k2,0,1,2,-1,3,k3,999,-998] (Yd:=ob)) ?_)
 rintro _ _ ⟨z1,rfl,rfl,YQ⟩
 exact Zk (r1 [0] ⟨z1,rfl,rfl,(by simp at YQ;omega)⟩)
theorem Pu (g:W5) (gb:Nat) (rs:List Func) (t:Int) (hg:GP g:=by exact ob) (Wf:g.funcs <+: rs:=by exact ob):Zm 361 [.agg (Wp g gb),.i t] [XP gb rs] (fun r h=>∃(xs:LI),r=Z4 xs/\h=[XP gb rs]/\xs.length<=4/\∀i∈xs,AT g t i):=by
 have hgl:=hg.len
 have hdl:=hg.decls.len
 refine ZD 53 Tryz.func361 (ar (iA (Wp g gb) fun b1=>Z1 (ar (iL (Z6 []) 0 1 fun v1=>?_))))
 refine Z1 (Y5 (ab 0 (Y1 (fun fz gz m F h=>∃(k:Nat) (ys:LI) (u:Value),(k<=g.funcs.length)/\(ys.length<=k)/\(∀i∈ys,AT g t i)/\F=sF [1,2] fz [(5,Y6 ys u),(6,.i k)]/\h=[Zi gz 1,Zi gz 2,.tail u 1]/\m=g.funcs.length-k) _ _ _ ⟨0,[],v1,ob,ob,(fun i hi=>by cases hi),rfl,rfl,rfl⟩ (wk [1,1,0] (fr (Ya fl))) ?_)))
 rintro m F h ⟨k,ys,u,Yi,Zd,Zz,rfl,rfl,rfl⟩
 refine Yq 3 [0] (io (.i g.funcs.length) (.i g.funcs.length) (lr _) (Y3 ((k:Int)<(g.funcs.length:Int)) (fun Z9=>?_) (fun Z9=>?_)))
 ·refine ak (aq (ab 1 (Zq 3 [0] ?_)))
  obtain ⟨x1,Z3⟩:=Zt g.funcs k om
  have hso:=(hg.sigs _ (Y4 Z3)).bd
  refine Zp (Vk gb g.funcs.length 4 k 5 (k:Int)) (Z0 1 (Ut (Ul 1 gb 4 4 5 (k*5+0) (Zu (Xt rs)) [Z4 x1.params] 23 (Z4 x1.params) (UC Wf Z3 0 rfl (Vd rfl))) (iw (Y9 x1.params) (Z1 (aD 25 (Zo 22 25 [0,1,2] (db (b:=(decide ((x1.params.length:Int)>0))) 25 (fun Zb=>?_) (fun Zb=>?_))))))))
  ·have ZT:(x1.params.length:Int)>0:=(dq).1 Zb
   refine ZV 17 22 [3,4,5,6,7] [0,0] (dx 8 (Vk gb g.funcs.length 4 k 5 (k:Int)) (Zo 15 16 [9] (TU 10 (Ul 1 gb 4 4 5 (k*5+0) (Zu (Xt rs)) [Z4 x1.params] 23 (Z4 x1.params) (UC Wf Z3 0 rfl (Vd rfl))) (Zo 13 14 [11] (da 12 ((((x1.params.length-1):Nat):Int)) (((x1.params.length:Int))-(1)) ?_)))))
   obtain ⟨x2,Zv⟩:=Zt x1.params (x1.params.length-1) om
   refine dx 13 (Ze none (((x1.params.length-1):Nat):Int) 1 (Y7 Zv)) (ZV 7 11 [14,15,16,17] [0] (dx 18 (Vk gb g.funcs.length 4 k 5 (k:Int)) (Zo 5 6 [19] (TU 20 (Ul 1 gb 4 4 5 (k*5+1) (Zu (Xt rs)) [.i x1.result] 3 (.i x1.result) (UC Wf Z3 1 rfl (Vd rfl))) (Zo 3 4 [22] (Z8 21 (YD 21 [] [] [] (Z1i g.decls x2 x1.result) (Zo 0 2 [23,24] (de (ac ((A9 g.decls x2 x1.result)==t) Zg (fun Zh=>?_) (fun Zh=>?_)))))))))))
   ·exact az (Z0 2 (iL (Z6 [(k:Int)]) 1 1 fun v2=>Y0 0 [(50,Z4 [(k:Int)])] (ip 3 (Z6 (ys++[(k:Int)])) (Z6 ys) (Z6 [(k:Int)]) u none 1 (YG _) (YG _) (XT _) (by simp<;>omega) (by simp [XX,Z6]) fun v3=>Z1 (az (Z0 1 (ZC k (Z1 (ZE ⟨k+1,(ys++[(k:Int)]),v3,ob,ob,(XC Zz (AT.mk Z3 om Zv Zh)),rfl,rfl,rfl⟩ (wk [2,2,0] (fr (ZI k fl)))))))))))
   exact ak (az (Z0 1 (ZC k (Z1 (ZE ⟨k+1,ys,u,ob,ob,ob,rfl,rfl,rfl⟩ (Zs 3 (fr (ZI k fl))))))))
  have Yg:¬((x1.params.length:Int)>0):=Y2 dq Zb
  exact Zo 0 22 [3,4,5,6,7,8,9,10,11,12,13,14,15,16,17,18,19,20,21,22,23,24] (de (VP (ak (az (Z0 1 (ZC k (Z1 (ZE ⟨k+1,ys,u,ob,ob,ob,rfl,rfl,rfl⟩ (Zs 3 (fr (ZI k fl)))))))))))
 exact ax 0 (ar (Zk (r2 [1] [Y6 ys u] ⟨ys,rfl,rfl,⟨by omega,Zz⟩⟩ (Zl.forget _ _))))
theorem Za0 (vs:LI) (t:Int) (hv:vs.length<=2000:=by exact ob):Zm 353 [Z4 vs,.i t] [] (fun r h=>∃(xs:LI),r=Z4 xs/\h=[]/\xs.length<=vs.length/\∀i∈xs,0<=i/\i<vs.length):=by
 refine ZD 25 Tryz.func353 (ZY (ar (iL (Z6 []) 0 1 fun v1=>?_)))
 refine Z1 (Y5 (ab 0 (Y1 (fun fz gz m F h=>∃(k:Nat) (ys:LI) (u:Value),(k<=vs.length)/\(ys.length<=k)/\(∀i∈ys,0<=i/\i<vs.length)/\F=sF [0,1] fz [(5,Y6 ys u),(6,.i k)]/\h=[.tail u 1]/\m=vs.length-k) _ _ _ ⟨0,[],v1,ob,ob,(fun i hi=>by cases hi),rfl,rfl,rfl⟩ (wk [0] (fr (Ya fl))) ?_)))
 rintro m F h ⟨k,ys,u,Yi,Zd,Zz,rfl,rfl,rfl⟩
 refine YR 2 (iw (Y9 vs) (Y3 ((k:Int)<(vs.length:Int)) (fun Z9=>?_) (fun Z9=>?_)))
 ·refine ak (aq (ab 1 (ZX 2 ?_)))
  obtain ⟨x1,Z3⟩:=Zt vs k om
  refine Zp (Ze none (k:Int) 1 (Y7 Z3)) (YS (x1==t) Zg (fun Zh=>?_) (fun Zh=>?_))
  ·exact az (Z0 2 (iL (Z6 [(k:Int)]) 1 1 fun v2=>Y0 0 [(22,Z4 [(k:Int)])] (ip 1 (Z6 (ys++[(k:Int)])) (Z6 ys) (Z6 [(k:Int)]) u none 1 (YG _) (YG _) (XT _) (by simp<;>omega) (by simp [XX,Z6]) fun v3=>Z1 (az (Z0 1 (ZC k (Z1 (ZE ⟨k+1,(ys++[(k:Int)]),v3,ob,ob,(XC Zz om),rfl,rfl,rfl⟩ (wk [0] (fr (ZI k fl)))))))))))
  exact ak (az (Z0 1 (ZC k (Z1 (ZE ⟨k+1,ys,u,ob,ob,ob,rfl,rfl,rfl⟩ (wk [0] (fr (ZI k fl))))))))
 exact ax 0 (ar (Zk (r2 [] [Y6 ys u] ⟨ys,rfl,rfl,⟨by omega,Zz⟩⟩ (Zl.forget _ _))))
theorem GW (g:W5) (gb:Nat) (rs:List Func) (vs:LI) (t:Int) (hg:GP g:=by exact ob) (Wf:g.funcs <+: rs:=by exact ob) (hv:vs.length<=2000:=by exact ob):Zm 354 [.agg (Wp g gb),Z4 vs,.i t] [XP gb rs] (fun r h=>∃(w:Bool),r=.b w/\h=[XP gb rs]):=by
 have Xp:=hg.decls.ok
 refine ZD 24 Tryz.func354 (ar (iA (Wp g gb) fun b1=>Z1 (Zq 3 [0] (Zw [] (FM g.decls t) (Z0 2 (ib (b:=(!VU g.decls t)) 12 (fun Zb=>?_) (fun Zb=>?_)))))))
 ·exact Zk (r1 [1] ⟨true,rfl,rfl⟩)
 refine ZB 2 [0] (ic [1] (Pu g gb rs t) ?_)
 rintro _ _ ⟨xs1,rfl,rfl,YJ⟩
 have qhp3:=YJ.1
 refine iw (Y9 xs1) (Z0 3 (ib (b:=(decide ((xs1.length:Int)>0))) 19 (fun Zy=>?_) (fun Zy=>?_)))
 ·exact Zk (r1 [0] ⟨true,rfl,rfl⟩)
 exact Z0 2 (Zw [] (UK vs t) (Zk (r1 [0] ⟨(decide (t∈vs)),rfl,rfl⟩)))
theorem Z9w (rd:Nat) (bs:LI) (p:Nat) (g:W5) (gb:Nat) (rs:List Func) (t:Int) (Yd:∀z∈bs,0<=z/\z<=255) (hp:p+5+15*rk t<=1000000000) (hg:GP g) (Wf:g.funcs <+: rs) (ih:∀(rd:Nat) (bs:LI) (p:Nat) (t2:Int),(∀z∈bs,0<=z/\z<=255)->(p+5+15*rk t2<=1000000000)->(rk t2<rk t)->Zm 355 [.p rd 0,.agg (Wp g gb),.i t2] [YU rd bs p,XP gb rs] (fun r h=>∃(e:Z2) (p2:Nat),r=Yb e/\h=[YU rd bs p2,XP gb rs]/\SE g (1+3*rk t2) e/\p<=p2/\p2<=p+5+15*rk t2)):Zm 355 [.p rd 0,.agg (Wp g gb),.i t] [YU rd bs p,XP gb rs] (fun r h=>∃(e:Z2) (p2:Nat),r=Yb e/\h=[YU rd bs p2,XP gb rs]/\SE g (1+3*rk t) e/\p<=p2/\p2<=p+5+15*rk t):=by
 have Xp:=hg.decls.ok
 have hgl:=hg.len
 have hrk:=Mw t
 refine ZD 118 Tryz.func355 (ar (iA (Wp g gb) fun b1=>iA [.i 0,.i 0,nl] fun b2=>ie (Zq 3 [1] (ic [] (Je g.decls t) ?_))))
 rintro _ _ ⟨v1,rfl,rfl⟩
 refine Z1 (YR 1 (io (.i (((ZU g.decls t).length:Nat):Int)) (.i (((Z6 (ZU g.decls t)).length:Nat):Int)) (li (by rw [Y9])) (Y3 ((((ZU g.decls t).length:Nat):Int)>0) (fun Z9=>?_) (fun Z9=>?_))))
 ·refine ZX 1 ?_
  obtain ⟨x1,Z3⟩:=Zt (ZU g.decls t) 0 om
  refine Zp (Ze (some v1) 0 1 (Y7 Z3)) (Z1 (aq (aq (Xw (fun fz gz F h=>∃(w1:Bool) (p5:Nat),(w1=true->1<(ZU g.decls t).length)/\(p<=p5/\p5<=p+1)/\F=sF [0,2,4,6,8] fz [(7,Z4 (ZU g.decls t)),(34,.b w1)]/\h=[Zi gz 1,Zi gz 2,YU rd bs p5,Zi gz 4]) ?_ ?_))))
  ·refine az (Z0 1 (io (.i (((ZU g.decls t).length:Nat):Int)) (.i (((Z6 (ZU g.decls t)).length:Nat):Int)) (li (by rw [Y9])) (Z0 2 (ib (b:=(decide ((((ZU g.decls t).length:Nat):Int)>1))) 30 (fun Zb=>?_) (fun Zb=>?_)))))
   ·have ZT:(((ZU g.decls t).length:Nat):Int)>1:=(dq).1 Zb
    refine Z0 1 (ic [3] (V3 rd bs p 4 (Yd:=ob)) ?_)
    rintro _ _ ⟨k1,rfl,rfl,Yg⟩
    have qhp2:=Yg.lt om
    exact Z1 (ZM ⟨(k1==0),p+1,(by first|exact (fun h=>by cases h)|exact fun _=>by omega),ob,rfl,rfl⟩ (wk [2,2,0,1] fl))
   have YJ:¬((((ZU g.decls t).length:Nat):Int)>1):=Y2 dq Zb
   exact Z1 (ZM ⟨false,p,(by first|exact (fun h=>by cases h)|exact fun _=>by omega),ob,rfl,rfl⟩ (wk [1,1,1,1] fl))
  rintro F h ⟨w1,p5,kR4_0,kR4_1,rfl,rfl⟩
  refine Xw (fun fz gz F h=>∃(c1:Int),(c1∈ZU g.decls t)/\F=sF [0,2,4,6,7] fz [(8,.i c1)]/\h=gz) ?_ ?_
  ·refine ac w1 Iff.rfl (fun Zh=>?_) (fun Zh=>?_)
   ·refine az (Z0 1 ?_)
    obtain ⟨x2,Zv⟩:=Zt (ZU g.decls t) 1 (kR4_0 (by assumption))
    exact Zp (Ze none 1 1 (Y7 Zv)) (Z1 (ZM ⟨x2,(Y4 Zv),rfl,rfl⟩ (Zs 4 fl)))
   exact ak (ZM ⟨x1,(Y4 Z3),rfl,rfl⟩ (Zs 4 fl))
  rintro F h ⟨c1,VE,rfl,rfl⟩
  have hcf:=V8 Xp c1
  refine Yq 3 [1] (Zw [] (Qy g.decls c1) (Z0 1 (Zw [] (UK (ZO g.decls c1) t) (ie (Xw (fun fz gz F h=>∃(c2:Int),(BF g.decls t c2)/\F=sF [0,4,6] fz [(8,.i c2)]/\h=gz) ?_ ?_)))))
  ·refine Wt (t∈(ZO g.decls c1)) (fun ZA=>?_) (fun ZA=>?_)
   ·exact az (Z0 1 (Zp (Ze none 0 1 (Y7 Z3)) (Z1 (ZM ⟨x1,(Zfx hg.decls VE (by assumption) Z3),rfl,rfl⟩ (Zs 4 fl)))))
   exact ak (ZM ⟨c1,(Zfw hg.decls VE (by assumption)),rfl,rfl⟩ (Zs 4 fl))
  rintro F h ⟨c2,F3,rfl,rfl⟩
  obtain ⟨GY,Tf,JG⟩:=F3
  refine ar (iL (Yv []) 0 3 fun v2=>?_)
  refine Z1 (Zq 3 [2] (Zw [] (Qy g.decls c2) (Z1 (Y5 (ab 0 (Y1 (fun fz gz m F h=>∃(k:Nat) (ys:List Z2) (u:Value) (pq:Nat),(k<=(ZO g.decls c2).length)/\(ys.length=k)/\(∀e∈ys,SE g 1 e)/\(p<=pq/\pq<=p+1+5*k)/\F=sF [0,4,6,8,10] fz [(9,QJ ys u),(11,.i k)]/\h=[Zi gz 1,Zi gz 2,YU rd bs pq,Zi gz 4,.tail u 3]/\m=(ZO g.decls c2).length-k) _ _ _ ⟨0,[],v2,p5,ob,ob,(fun e he=>by cases he),ob,rfl,rfl,rfl⟩ (wk [1,1,1,1,0] (fr (Ya fl))) ?_))))))
  rintro m F h ⟨k,ys,u,pq,Yi,Zd,Zz,YA,rfl,rfl,rfl⟩
  refine YR 2 (io (.i (((ZO g.decls c2).length:Nat):Int)) (.i (((Z6 (ZO g.decls c2)).length:Nat):Int)) (li (by rw [Y9])) (Y3 ((k:Int)<(((ZO g.decls c2).length:Nat):Int)) (fun Yk=>?_) (fun Yk=>?_)))
  ·refine ak (aq (ab 1 (aE 11 (ZV 6 11 [0,1,2,3,4] [1] ?_))))
   obtain ⟨x3,YN⟩:=Zt (ZO g.decls c2) k om
   have hz3:=Z0c (JG _ (Y4 YN))
   refine dx 5 (Ze none (k:Int) 1 (Y7 YN)) (Zo 4 5 [6] (Z8 7 (dc 7 [2,2] [] [] (ih rd bs pq x3 ob ob om) ?_)))
   rintro _ _ ⟨e1,p21,rfl,rfl,YQ⟩
   have hse:=YQ.1
   rw [hz3] at hse
   exact Z8 8 (WB 8 [] [] [Yb e1] (Yv [e1]) (XO [e1]).symm 1 3 fun v3=>Yy 2 2 [] [(66,Xz [e1])] (Z8 9 (dp 9 5 [] [] (Yv (ys++[e1])) (Yv ys) (Yv [e1]) u none 3 (T7 _) (T7 _) (An _) (by simp<;>omega) (by simp [Am,Yv]) fun v4=>Zo 0 1 [10] (de (az (Z0 1 (ZC k (Z1 (ZE ⟨k+1,(ys++[e1]),v4,p21,ob,ob,(XC Zz hse),ob,rfl,rfl,rfl⟩ (wk [4,4,2,2,0] (fr (ZI k fl))))))))))))
  exact ax 0 (ar (Y0 2 [(69,Xz ys)] (Zw [] (XR 6 c2 ys) (ZG 0 b2 (YY (Z2.mk 6 c2 ys)) (ie (Yc (r3 [2,2] [Yb (Z2.mk 6 c2 ys)] [0] [(b2,b2)] ⟨(Z2.mk 6 c2 ys),pq,rfl,rfl,⟨SE.node (k:=3*rk t) (.inl rfl) om Zz om om om,by omega⟩⟩ (lr _))))))))
 refine ak (Zq 2 [2] (ic [4] (Pu g gb rs t) ?_))
 rintro _ _ ⟨xs1,rfl,rfl,X4⟩
 have hcl:=X4.2
 have hcn:=X4.1
 refine Z1 (X6 (Xi [0,4,6,12] [(80,.b ((decide (t>0))&&(decide ((xs1.length:Int)>0))))] (fun gz=>gz) ?_ ?_))
 ·refine Z0 3 (ib (b:=(decide (t>0))) 76 (fun Zy=>?_) (fun Zy=>?_))
  ·have Xy:t>0:=(dq).1 Zy
   exact Z0 1 (iw (Y9 xs1) (Z1 (Zs 5 (Zj (decide ((xs1.length:Int)>0)) Zy fl))))
  have Wx:¬(t>0):=Y2 dq Zy
  exact Z1 (Zs 5 (Zj false Zy fl))
 refine ac ((decide (t>0))&&(decide ((xs1.length:Int)>0))) (p:=(t>0)/\((xs1.length:Int)>0)) (Yo dq dq) (fun YI=>?_) (fun YI=>?_)
 ·refine ZX 3 (iw (Y9 xs1) (ic [4] (V3 rd bs p (xs1.length:Int) (Yd:=ob)) ?_))
  rintro _ _ ⟨k2,rfl,rfl,WZ⟩
  have qhp8:=WZ.lt om
  obtain ⟨x4,WS⟩:=Zt xs1 k2.toNat om
  have hclo:=hcl _ (Y4 WS)
  have hcb:=hclo.lt
  refine Zp (Ze none k2 1 (Y7 WS)) (Z1 (Zq 3 [4] ?_))
  obtain ⟨x5,Us⟩:=Zt g.funcs x4.toNat om
  have hso:=(hg.sigs _ (Y4 Us)).bd
  have hr1:=Zf3 (t:=t) hg.decls om om
  have hfu:=Us
  refine Zp (Vk gb g.funcs.length 4 x4.toNat 5 x4) (Z0 1 (Ut (Ul 1 gb 4 4 5 (x4.toNat * 5+0) (Zu (Xt rs)) [Z4 x5.params] 23 (Z4 x5.params) (UC Wf Us 0 rfl (Vd rfl))) (Z1 (ar (iL (Yv []) 0 3 fun v5=>?_)))))
  refine Z1 (Y5 (ab 2 (Y1 (fun fz gz m F h=>∃(k:Nat) (ys:List Z2) (u:Value) (pq:Nat),(k<=x5.params.length)/\(ys.length=k)/\(∀e∈ys,SE g 1 e)/\(p<=pq/\pq<=p+1+5*k)/\F=sF [0,4,6,13,14] fz [(15,QJ ys u),(16,.i k)]/\h=[YU rd bs pq,Zi gz 2,Zi gz 4,Zi gz 5,.tail u 3]/\m=x5.params.length-k) _ _ _ ⟨0,[],v5,p+1,ob,ob,(fun e he=>by cases he),ob,rfl,rfl,rfl⟩ (wk [1,1,2,2,0] (fr (Ya fl))) ?_)))
  rintro m F h ⟨k,ys,u,pq,VG,Xm,XN,Dp,rfl,rfl,rfl⟩
  refine YR 1 (ZC k (Z0 1 (iw (Y9 x5.params) (Y3 (((k+1:Nat):Int)<(x5.params.length:Int)) (fun X9=>?_) (fun X9=>?_)))))
  ·refine ak (aq (ab 3 (aE 11 (ZV 6 11 [0,1,2,3,4] [3] ?_))))
   obtain ⟨x6,CN⟩:=Zt x5.params k om
   have hz3:=hclo.low hg om hfu om CN
   refine dx 5 (Ze none (k:Int) 1 (Y7 CN)) (Zo 4 5 [6] (Z8 7 (dc 7 [0,0] [] [] (ih rd bs pq x6 ob ob om) ?_)))
   rintro _ _ ⟨e2,p22,rfl,rfl,Vw⟩
   have hse:=Vw.1
   rw [hz3] at hse
   exact Z8 8 (WB 8 [] [] [Yb e2] (Yv [e2]) (XO [e2]).symm 1 3 fun v6=>Yy 2 2 [] [(110,Xz [e2])] (Z8 9 (dp 9 5 [] [] (Yv (ys++[e2])) (Yv ys) (Yv [e2]) u none 3 (T7 _) (T7 _) (An _) (by simp<;>omega) (by simp [Am,Yv]) fun v7=>Zo 0 1 [10] (de (az (Z0 1 (ZC k (Z1 (ZE ⟨k+1,(ys++[e2]),v7,p22,ob,ob,(XC XN hse),ob,rfl,rfl,rfl⟩ (wk [2,2,2,2,0] (fr (ZI k fl))))))))))))
  exact ax 2 (ar (Y0 2 [(113,Xz ys)] (Zw [] (XR 10 x4 ys) (ZG 2 b2 (YY (Z2.mk 10 x4 ys)) (ie (Yc (r3 [1,1] [Yb (Z2.mk 10 x4 ys)] [0] [(b2,b2)] ⟨(Z2.mk 10 x4 ys),pq,rfl,rfl,⟨SE.node (k:=3) (.inr rfl) om XN om om om,by omega⟩⟩ (lr _))))))))
 refine ak (ZX 1 (ic [4] (PH rd bs p (Yd:=ob)) ?_))
 rintro _ _ ⟨z1,rfl,rfl,Ua⟩
 exact Zw [] (Be z1) (ZG 3 b2 (YY (Z2.mk 0 z1 [])) (ie (Yc (r3 [1,1] [Yb (Z2.mk 0 z1 [])] [0] [(b2,b2)] ⟨(Z2.mk 0 z1 []),p+4,rfl,rfl,⟨SE.int om om,by omega⟩⟩ (lr _)))))
theorem Z9v (rd:Nat) (bs:LI) (p:Nat) (g:W5) (gb:Nat) (rs:List Func) (t:Int) (Yd:∀z∈bs,0<=z/\z<=255) (hp:p+5+15*rk t<=1000000000:=by exact ob) (hg:GP g:=by exact ob) (Wf:g.funcs <+: rs:=by exact ob):Zm 355 [.p rd 0,.agg (Wp g gb),.i t] [YU rd bs p,XP gb rs] (fun r h=>∃(e:Z2) (p2:Nat),r=Yb e/\h=[YU rd bs p2,XP gb rs]/\SE g (1+3*rk t) e/\p<=p2/\p2<=p+5+15*rk t):=by
 have key:∀k:Nat,∀(rd:Nat) (bs:LI) (p:Nat) (t2:Int),(∀z∈bs,0<=z/\z<=255)->(p+5+15*rk t2<=1000000000)->(rk t2<k)->Zm 355 [.p rd 0,.agg (Wp g gb),.i t2] [YU rd bs p,XP gb rs] (fun r h=>∃(e:Z2) (p2:Nat),r=Yb e/\h=[YU rd bs p2,XP gb rs]/\SE g (1+3*rk t2) e/\p<=p2/\p2<=p+5+15*rk t2):=by
  intro k
  induction k with
  | zero=>intro rd bs p t2 h1 h2 h3;omega
  | succ k ih=>intro rd bs p t2 h1 h2 h3;exact Z9w rd bs p g gb rs t2 h1 h2 hg Wf fun rd bs p t3 q1 q2 q3=>ih rd bs p t3 q1 q2 om
 exact key 2 rd bs p t Yd hp (by have:=Mw t;omega)
theorem DN (rd:Nat) (bs:LI) (p:Nat) (g:W5) (gb:Nat) (rs:List Func) (vs:LI) (t:Int) (Yd:∀z∈bs,0<=z/\z<=255) (hp:p+30<=1000000000:=by exact ob) (hg:GP g:=by exact ob) (Wf:g.funcs <+: rs:=by exact ob) (hv:vs.length<=2000:=by exact ob):Zm 335 [.p rd 0,.agg (Wp g gb),Z4 vs,.i t] [YU rd bs p,XP gb rs] (fun r h=>∃(e:Z2) (p2:Nat),r=Yb e/\h=[YU rd bs p2,XP gb rs]/\GE g vs.length 4 e/\p<=p2/\p2<=p+30):=by
 have hrk:=Mw t
 refine ZD 40 Tryz.func335 (ar (iA (Wp g gb) fun b1=>iA [.i 0,.i 0,nl] fun b2=>ie (ZX 2 (ic [] (Za0 vs t) ?_))))
 rintro _ _ ⟨xs1,rfl,rfl,ZT⟩
 have hxs:=ZT
 refine Z1 (aq (aq (Xw (fun fz gz F h=>∃(wb:Bool) (p5:Nat),(wb=true->0<xs1.length)/\(p<=p5/\p5<=p+1)/\F=sF [0,3,5,8,9] fz [(27,.b wb)]/\h=[Zi gz 0,Zi gz 1,YU rd bs p5,Zi gz 3]) ?_ ?_)))
 ·refine az (Z0 1 (iw (Y9 xs1) (Z0 2 (ib (b:=(decide ((xs1.length:Int)>0))) 16 (fun Zb=>?_) (fun Zb=>?_)))))
  ·have Yg:(xs1.length:Int)>0:=(dq).1 Zb
   refine Z0 1 (ic [2] (V3 rd bs p 6 (Yd:=ob)) ?_)
   rintro _ _ ⟨k1,rfl,rfl,YJ⟩
   have qhp3:=YJ.lt om
   refine Z0 2 (ib (b:=(decide (k1>0))) 20 (fun Zy=>?_) (fun Zy=>?_))
   ·have YQ:k1>0:=(dq).1 Zy
    exact Z1 (ZM ⟨true,p+1,(by first|exact (fun h=>Bool.noConfusion h)|exact fun _=>by omega),ob,rfl,rfl⟩ (wk [1,1,0,0] fl))
   have X4:¬(k1>0):=Y2 dq Zy
   refine ZB 1 [2] (iL (Z6 []) 0 1 fun v1=>Y0 1 [(22,Z4 [])] (ic [4] (GW g gb rs [] t) ?_))
   rintro _ _ ⟨w1,rfl,rfl⟩
   exact Z1 (ZM ⟨(!w1),p+1,(by first|exact (fun h=>Bool.noConfusion h)|exact fun _=>by omega),ob,rfl,rfl⟩ (wk [3,3,2,0] fl))
  have Xy:¬((xs1.length:Int)>0):=Y2 dq Zb
  exact Z1 (ZM ⟨false,p,(by first|exact (fun h=>Bool.noConfusion h)|exact fun _=>by omega),ob,rfl,rfl⟩ (Zs 4 fl))
 rintro F h ⟨wb,p5,kR2_0,kR2_1,rfl,rfl⟩
 refine ac wb Iff.rfl (fun Z9=>?_) (fun Z9=>?_)
 ·have hk0:=kR2_0 Z9
  refine ZX 3 (iw (Y9 xs1) (ic [2] (V3 rd bs p5 (xs1.length:Int) (Yd:=ob)) ?_))
  rintro _ _ ⟨k2,rfl,rfl,Wx⟩
  have qhp7:=Wx.lt om
  obtain ⟨x1,Z3⟩:=Zt xs1 k2.toNat om
  have hxv:=hxs.2 _ (Y4 Z3)
  exact Zp (Ze none k2 1 (Y7 Z3)) (Z0 1 (Zw [] (Qn x1) (ZG 1 b2 (YY (Z2.mk 12 x1 [])) (ie (Yc (r3 [1,2] [Yb (Z2.mk 12 x1 [])] [0] [(b2,b2)] ⟨(Z2.mk 12 x1 []),p5+1,rfl,rfl,⟨GE.var hxv om om,by omega⟩⟩ (lr _)))))))
 refine ak (Zq 3 [1] (ic [2,2] (Z9v rd bs p5 g gb rs t (Yd:=ob)) ?_))
 rintro _ _ ⟨e1,p21,rfl,rfl,WZ⟩
 have hse:=WZ.1
 exact ZG 2 b2 (YY e1) (ie (Yc (r3 [1,1] [Yb e1] [0] [(b2,b2)] ⟨e1,p21,rfl,rfl,⟨hse.ge om,by omega⟩⟩ (lr _))))
theorem Z8a (rd:Nat) (bs:LI) (p:Nat) (g:W5) (gb:Nat) (rs:List Func) (vs:LI) (Yd:∀z∈bs,0<=z/\z<=255) (hp:p+1<=1000000000:=by exact ob) (hg:GP g:=by exact ob) (Wf:g.funcs <+: rs:=by exact ob) (hv:vs.length<=2000:=by exact ob):Zm 347 [.p rd 0,.agg (Wp g gb),Z4 vs] [YU rd bs p,XP gb rs] (fun r h=>∃(z:Int),r=.i z/\h=[.obj rd [Uv bs,.i (p+1:Nat)],XP gb rs]/\0<=z/\z<=4):=by
 have Xp:=hg.decls.ok
 have hgl:=hg.len
 have hdl:=hg.decls.len
 refine ZD 24 Tryz.func347 (ar (iA (Wp g gb) fun b1=>Z1 (ZX 1 (iL (Z6 [1,1,3,0,2,4,3]) 7 1 fun v1=>Y0 0 [(9,Z4 [1,1,3,0,2,4,3])] (ic [2] (JA rd bs p [1,1,3,0,2,4,3] (Yd:=ob)) ?_)))))
 rintro _ _ ⟨z1,rfl,rfl,ZT⟩
 have hz:=C8 (a:=0) (b:=4) ZT (by decide)
 refine Z1 (aq (aq (Xw (fun fz gz F h=>∃(wb:Bool),(True)/\F=sF [7] fz [(22,.b wb)]/\h=[Zi gz 0,Zi gz 3]) ?_ ?_)))
 ·refine az (ZB 3 [2] (iw (VI g.decls) (Z0 2 (ib (b:=(decide (z1>(g.decls.length:Int)))) 16 (fun Zb=>?_) (fun Zb=>?_)))))
  ·exact Z1 (ZM ⟨true,True.intro,rfl,rfl⟩ (wk [0,2] fl))
  refine ZB 3 [2] (ic [3] (GW g gb rs vs z1) ?_)
  rintro _ _ ⟨w1,rfl,rfl⟩
  exact Z1 (ZM ⟨(!w1),True.intro,rfl,rfl⟩ (wk [1,0] fl))
 rintro F h ⟨wb,kR2_0,rfl,rfl⟩
 refine ac wb Iff.rfl (fun Z9=>?_) (fun Z9=>?_)
 ·exact ar (Zk (r1 [0,0] ⟨1,rfl,rfl,om⟩))
 exact ak (ar (Zk (r1 [0,0] ⟨z1,rfl,rfl,om⟩)))
theorem Z8e (g:W5) (gb:Nat) (rs:List Func) (t:Int) (hg:GP g:=by exact ob) (Wf:g.funcs <+: rs:=by exact ob):Zm 350 [.agg (Wp g gb),.i t] [XP gb rs] (fun r h=>∃(xs:LI),r=Z4 xs/\h=[XP gb rs]/\xs.length<=4/\∀i∈xs,1<=i/\i<g.funcs.length):=by
 have Xp:=hg.decls.ok
 have hgl:=hg.len
 have hdl:=hg.decls.len
 refine ZD 57 Tryz.func350 (ar (iA (Wp g gb) fun b1=>Z1 (ar (iL (Z6 []) 0 1 fun v1=>?_))))
 refine Z1 (Y5 (ab 0 (Y1 (fun fz gz m F h=>∃(k:Nat) (ys:LI) (u:Value),(1<=k/\k<=g.funcs.length)/\(ys.length<=k)/\(∀i∈ys,1<=i/\i<g.funcs.length)/\F=sF [1,2] fz [(5,Y6 ys u),(6,.i k)]/\h=[Zi gz 1,Zi gz 2,.tail u 1]/\m=g.funcs.length-k) _ _ _ ⟨1,[],v1,ob,ob,(fun i hi=>by cases hi),rfl,rfl,rfl⟩ (wk [1,1,0] (fr (fc (x:=.i 1) li fl))) ?_)))
 rintro m F h ⟨k,ys,u,Yi,Zd,Zz,rfl,rfl,rfl⟩
 refine Yq 3 [0] (io (.i g.funcs.length) (.i g.funcs.length) (lr _) (Y3 ((k:Int)<(g.funcs.length:Int)) (fun Z9=>?_) (fun Z9=>?_)))
 ·refine ak (aq (ab 1 (Zq 3 [0] ?_)))
  obtain ⟨x1,Z3⟩:=Zt g.funcs k om
  have hso:=(hg.sigs _ (Y4 Z3)).bd
  refine Zp (Vk gb g.funcs.length 4 k 5 (k:Int)) (Z0 1 (Ut (Ul 1 gb 4 4 5 (k*5+1) (Zu (Xt rs)) [.i x1.result] 3 (.i x1.result) (UC Wf Z3 1 rfl (Vd rfl))) (Z1 (Y5 (ab 2 (Y1 (fun fz gz m F h=>∃(j:Nat) (wo:Bool),(True)/\F=sF [1,2,5,6] fz [(7,.b wo),(8,.i j)]/\h=gz/\m=x1.params.length-j) _ _ _ ⟨0,(x1.result==t),True.intro,rfl,rfl,rfl⟩ (Zs 3 (fr (Ya fl))) ?_))))))
  rintro m F h ⟨j,wo,VG,rfl,rfl,rfl⟩
  refine Yq 4 [0] (Zp (Vk gb g.funcs.length 4 k 5 (k:Int)) (Z0 1 (Ut (Ul 1 gb 4 4 5 (k*5+0) (Zu (Xt rs)) [Z4 x1.params] 23 (Z4 x1.params) (UC Wf Z3 0 rfl (Vd rfl))) (iw (Y9 x1.params) (Y3 ((j:Int)<(x1.params.length:Int)) (fun Zh=>?_) (fun Zh=>?_))))))
  ·refine ak (aq (ab 3 (aE 16 (Zo 14 16 [0,1] (db (b:=wo) 37 (fun Zb=>?_) (fun Zb=>?_))))))
   ·refine ZV 10 14 [2,4,5,6] [0,0] (dx 7 (Vk gb g.funcs.length 4 k 5 (k:Int)) (Zo 8 9 [8] (TU 9 (Ul 1 gb 4 4 5 (k*5+0) (Zu (Xt rs)) [Z4 x1.params] 23 (Z4 x1.params) (UC Wf Z3 0 rfl (Vd rfl))) (Zo 6 7 [10] ?_))))
    obtain ⟨x2,Zv⟩:=Zt x1.params j om
    refine dx 11 (Ze none (j:Int) 1 (Y7 Zv)) (Zo 4 5 [12] (Z8 3 (dL 3 [1,0,0] [gb,b1,b1] (Z6 []) 0 1 fun v2=>Yy 3 3 [] [(39,Z4 [])] (Z8 13 (dc 13 [2] [] [] (GW g gb rs [] x2) ?_)))))
    rintro _ _ ⟨w1,rfl,rfl⟩
    exact Zo 0 2 [14,15] (de (az (Z0 1 (ZC j (Z1 (ZE ⟨j+1,w1,True.intro,rfl,rfl,rfl⟩ (wk [2,0,1] (fr (ZI j fl)))))))))
   exact Zo 0 14 [2,3,4,5,6,7,8,9,10,11,12,13,14,15] (de (az (Z0 1 (ZC j (Z1 (ZE ⟨j+1,false,ob,rfl,rfl,rfl⟩ (Zs 3 (fr (ZI j fl)))))))))
  refine ax 2 (ar (YS wo Iff.rfl (fun ZA=>?_) (fun ZA=>?_)))
  ·exact az (Z0 2 (iL (Z6 [(k:Int)]) 1 1 fun v3=>Y0 0 [(54,Z4 [(k:Int)])] (ip 3 (Z6 (ys++[(k:Int)])) (Z6 ys) (Z6 [(k:Int)]) u none 1 (YG _) (YG _) (XT _) (by simp<;>omega) (by simp [XX,Z6]) fun v4=>Z1 (az (Z0 1 (ZC k (Z1 (ZE ⟨k+1,(ys++[(k:Int)]),v4,ob,ob,(XC Zz om),rfl,rfl,rfl⟩ (wk [2,2,0] (fr (ZI k fl)))))))))))
  exact ak (az (Z0 1 (ZC k (Z1 (ZE ⟨k+1,ys,u,ob,ob,ob,rfl,rfl,rfl⟩ (Zs 3 (fr (ZI k fl))))))))
 exact ax 0 (ar (Zk (r2 [1] [Y6 ys u] ⟨ys,rfl,rfl,⟨by omega,Zz⟩⟩ (Zl.forget _ _))))
theorem Z9m (e:Z2) (left:Int) (hz:e.sz<=1000000:=by exact ob) (hl:0<=left/\left<=1000:=by exact ob) (ih:∀(e2:Z2) (left:Int),(e2.sz<e.sz)->(0<=left/\left<=1000)->Zm 336 [Yb e2,.i left] [] (fun r h=>∃(w:Int),r=.i w/\h=[]/\NL e2.sz left w)):Zm 336 [Yb e,.i left] [] (fun r h=>∃(w:Int),r=.i w/\h=[]/\NL e.sz left w):=by
 have hes:=e.sz_eq
 have hel:=OP (xs:=e.kids)
 refine ZD 27 Tryz.func336 (ar (iA (YY e) fun b1=>Z1 (X6 (Y3 (left<1) (fun Z9=>?_) (fun Z9=>?_)))))
 ·exact ar (Zk (r1 [] ⟨(-1),rfl,rfl,(.inr ⟨by omega,rfl⟩)⟩))
 refine ak (ZX 1 (ia ((left-1)) ((left)-(1)) (Z1 (Y5 (ab 0 (Y1 (fun fz gz m F h=>∃(k:Nat) (q:Int),(k<=e.kids.length)/\(0<=q/\q+1+Xx (e.kids.take k)=left)/\F=sF [2] fz [(1,.i q),(5,.i k)]/\h=gz/\m=e.kids.length-k) _ _ _ ⟨0,(left-1),ob,(by simp [Xx];omega),rfl,rfl,rfl⟩ (wk [0] (fr (Ya fl))) ?_))))))
 rintro m F h ⟨k,q,Yi,Zd,rfl,rfl,rfl⟩
 refine Yq 3 [0] (iw (Lb e.kids) (Y3 ((k:Int)<(e.kids.length:Int)) (fun Zh=>?_) (fun Zh=>?_)))
 ·refine ak (aq (ab 1 (Zq 3 [0] ?_)))
  obtain ⟨x1,Z3⟩:=Zt e.kids k om
  have hks:=CG Z3
  have htk:Xx (e.kids.take (k+1))=Xx (e.kids.take k)+(x1).sz:=by rw [VO Z3,EJ,Xx,Xx];rfl
  have htl:Xx (e.kids.take (k+1))<=Xx e.kids:=by have h:=Yn Xx (Qj (k+1) e.kids);rw [EJ] at h;omega
  refine Zp (Ze none (k:Int) 3 (DB Z3)) (Z0 2 (ic [] (ih x1 q ob ob) ?_))
  rintro _ _ ⟨w1,rfl,rfl,ZT⟩
  have hnl:=ZT
  unfold NL at hnl
  refine Z1 (ar (Y3 (w1<0) (fun ZA=>?_) (fun ZA=>?_)))
  ·exact ar (Zk (r1 [] ⟨(-1),rfl,rfl,(.inr ⟨by omega,rfl⟩)⟩))
  exact ak (az (Z0 1 (ZC k (Z1 (ZE ⟨k+1,w1,ob,ob,rfl,rfl,rfl⟩ (wk [0] (fr (ZI k fl))))))))
 refine ax 0 (ZY ?_)
 have htk:Xx (e.kids.take k)=Xx e.kids:=by rw [U8 om]
 exact Yc (r1 [] ⟨q,rfl,rfl,(.inl ⟨by omega,by omega⟩)⟩)
theorem Z9l (e:Z2) (left:Int) (hz:e.sz<=1000000:=by exact ob) (hl:0<=left/\left<=1000:=by exact ob):Zm 336 [Yb e,.i left] [] (fun r h=>∃(w:Int),r=.i w/\h=[]/\NL e.sz left w):=by
 have key:∀k:Nat,∀(e2:Z2) (left:Int),(e2.sz<k)->(e2.sz<=1000000)->(0<=left/\left<=1000)->Zm 336 [Yb e2,.i left] [] (fun r h=>∃(w:Int),r=.i w/\h=[]/\NL e2.sz left w):=by
  intro k
  induction k with
  | zero=>intro e2 left h;omega
  | succ k ih=>intro e2 left h1 h2 h3;exact Z9m e2 left h2 h3 fun e3 l3 q1 q2=>ih e3 l3 om om q2
 exact key (e.sz+1) e left om hz hl
theorem PD (e:Z2) (hz:e.sz<=1000000:=by exact ob):Zm 311 [Yb e] [] (fun r h=>∃(w:Int),r=.i w/\h=[]/\((w=e.sz/\e.sz<=30)∨(w=-1/\30<e.sz))):=by
 refine ZD 10 Tryz.func311 (ar (iA (YY e) fun b1=>Z1 (Zq 1 [0] (ic [] (Z9l e 30) ?_))))
 rintro _ _ ⟨w1,rfl,rfl,ZT⟩
 have hnl:=ZT
 unfold NL at hnl
 refine Z1 (X6 (Y3 (w1<0) (fun Z9=>?_) (fun Z9=>?_)))
 ·exact ar (Zk (r1 [] ⟨(-1),rfl,rfl,ob⟩))
 exact ak (ZX 1 (ia ((30-w1)) ((30)-(w1)) (Zk (r1 [] ⟨(30-w1),rfl,rfl,ob⟩))))
theorem CI (rd:Nat) (bs:LI) (p:Nat) (g:W5) (gb:Nat) (rs:List Func) (vs:LI) (ts:LI) (b:Nat) (bb:Nat) (Yd:∀z∈bs,0<=z/\z<=255) (hp:p+ts.length*bC (b / ts.length)<=1000000000:=by exact ob) (hg:GP g:=by exact ob) (Wf:g.funcs <+: rs:=by exact ob) (hv:vs.length+3*bb<=900:=by exact ob) (ht:ts.length<=3:=by exact ob) (hb:b<bb/\bb<=1000:=by exact ob) (ih:∀(rd:Nat) (bs:LI) (p:Nat) (vs2:LI) (t2:Int) (b2:Nat),(∀z∈bs,0<=z/\z<=255)->(p+bC b2<=1000000000)->(vs2.length+3*b2<=900)->(b2<bb)->Zm 331 [.p rd 0,.agg (Wp g gb),Z4 vs2,.i t2,.i b2] [YU rd bs p,XP gb rs] (fun r h=>∃(e:Z2) (p2:Nat),r=Yb e/\h=[YU rd bs p2,XP gb rs]/\GE g vs2.length (bS b2) e/\p<=p2/\p2<=p+bC b2)):Zm 348 [.p rd 0,.agg (Wp g gb),Z4 vs,Z4 ts,.i b] [YU rd bs p,XP gb rs] (fun r h=>∃(ys:List Z2) (p2:Nat),r=Xz ys/\h=[YU rd bs p2,XP gb rs]/\ys.length=ts.length/\(∀e∈ys,GE g vs.length (bS (b / ts.length)) e)/\p<=p2/\p2<=p+ts.length*bC (b / ts.length)):=by
 have hqb:=Nat.div_le_self b ts.length
 refine ZD 36 Tryz.func348 (ar (iA (Wp g gb) fun b1=>Z1 (ar (iL (Yv []) 0 3 fun v1=>?_))))
 refine Z1 (Y5 (ab 0 (Y1 (fun fz gz m F h=>∃(k:Nat) (ys:List Z2) (u:Value) (pq:Nat),(k<=ts.length)/\(ys.length=k)/\(∀e∈ys,GE g vs.length (bS (b / ts.length)) e)/\(p<=pq/\pq<=p+k*bC (b / ts.length))/\F=sF [0,2,3,4,6] fz [(11,QJ ys u),(12,.i k)]/\h=[Zi gz 1,YU rd bs pq,Zi gz 3,.tail u 3]/\m=ts.length-k) _ _ _ ⟨0,[],v1,p,ob,ob,(fun e he=>by cases he),(by simp),rfl,rfl,rfl⟩ (wk [1,1,1,0] (fr (Ya fl))) ?_)))
 rintro m F h ⟨k,ys,u,pq,Yi,Zd,Zz,YA,rfl,rfl,rfl⟩
 refine YR 2 (iw (Y9 ts) (Y3 ((k:Int)<(ts.length:Int)) (fun Z9=>?_) (fun Z9=>?_)))
 ·obtain ⟨hm1,hm2⟩:=RZ (k:=k) (L:=ts.length) (C:=bC (b / ts.length)) om
  refine ak (aq (ab 1 (aE 16 (ZV 10 16 [0,1,2,3,4,5] [0] ?_))))
  obtain ⟨x1,Z3⟩:=Zt ts k om
  refine dx 6 (Ze none (k:Int) 1 (Y7 Z3)) (Zo 6 9 [7,8,9] (dw 10 (Y9 ts) (dx 11 (CS b ts.length om om) (Z8 12 (dc 12 [1,1] [] [] (ih rd bs pq vs x1 (b / ts.length) ob ob ob ob) ?_)))))
  rintro _ _ ⟨e1,p21,rfl,rfl,ZT⟩
  have Xh:=ZT.1
  exact Z8 13 (WB 13 [] [] [Yb e1] (Yv [e1]) (XO [e1]).symm 1 3 fun v2=>Yy 2 2 [] [(33,Xz [e1])] (Z8 14 (dp 14 4 [] [] (Yv (ys++[e1])) (Yv ys) (Yv [e1]) u none 3 (T7 _) (T7 _) (An _) (by simp<;>omega) (by simp [Am,Yv]) fun v3=>Zo 0 1 [15] (de (az (Z0 1 (ZC k (Z1 (ZE ⟨k+1,(ys++[e1]),v3,p21,ob,ob,(XC Zz (by assumption)),om,rfl,rfl,rfl⟩ (wk [4,2,2,0] (fr (ZI k fl))))))))))))
 have hke:k=ts.length:=by omega
 subst hke
 exact ax 0 (ar (Zk (r2 [1,1] [QJ ys u] ⟨ys,pq,rfl,rfl,⟨by omega,Zz,by omega⟩⟩ (Zl.forget _ _))))
theorem Z8x (rd:Nat) (bs:LI) (p:Nat) (g:W5) (gb:Nat) (rs:List Func) (vs:LI) (t:Int) (b:Nat) (Yd:∀z∈bs,0<=z/\z<=255) (hp:p+(bC b-1)<=1000000000:=by exact ob) (hg:GP g:=by exact ob) (Wf:g.funcs <+: rs:=by exact ob) (hv:vs.length+3*b<=900:=by exact ob) (hb:3<=b:=by exact ob) (ih:∀(rd:Nat) (bs:LI) (p:Nat) (vs2:LI) (t2:Int) (b2:Nat),(∀z∈bs,0<=z/\z<=255)->(p+bC b2<=1000000000)->(vs2.length+3*b2<=900)->(b2<b)->Zm 331 [.p rd 0,.agg (Wp g gb),Z4 vs2,.i t2,.i b2] [YU rd bs p,XP gb rs] (fun r h=>∃(e:Z2) (p2:Nat),r=Yb e/\h=[YU rd bs p2,XP gb rs]/\GE g vs2.length (bS b2) e/\p<=p2/\p2<=p+bC b2)):Zm 349 [.p rd 0,.agg (Wp g gb),Z4 vs,.i t,.i b] [YU rd bs p,XP gb rs] (fun r h=>∃(e:Z2) (p2:Nat),r=Yb e/\h=[YU rd bs p2,XP gb rs]/\GE g vs.length (bS b) e/\p<=p2/\p2<=p+(bC b-1)):=by
 have Xp:=hg.decls.ok
 have hgl:=hg.len
 have hdl:=hg.decls.len
 have hcm:=ND b
 refine ZD 69 Tryz.func349 (ar (iA (Wp g gb) fun b1=>iA [.i 0,.i 0,nl] fun b2=>ie (ZX 1 (iL (Z6 [1,1,3,4]) 4 1 fun v1=>Y0 0 [(16,Z4 [1,1,3,4])] (ic [3] (JA rd bs p [1,1,3,4] (Yd:=ob)) ?_)))))
 rintro _ _ ⟨z1,rfl,rfl,ZT⟩
 have hz:=C8 (a:=1) (b:=4) ZT (by decide)
 refine Z1 (Yq 3 [3] (iw (VI g.decls) (Xi [0,2,3,4,6,10,11] [(28,.b ((decide (z1>(g.decls.length:Int)))||VU g.decls z1))] (fun gz=>gz) ?_ ?_)))
 ·refine Z0 2 (ib (b:=(decide (z1>(g.decls.length:Int)))) 23 (fun Zb=>?_) (fun Zb=>?_))
  ·exact Z1 (Zs 5 (Zj true Zb fl))
  exact ZB 3 [3] (Zw [] (FM g.decls z1) (Z1 (Zs 5 (Zj (VU g.decls z1) Zb fl))))
 refine Xw (fun fz gz F h=>∃(d:Int),(1<=d/\d<=4)/\F=sF [0,2,3,4,6,10] fz [(11,.i d)]/\h=[Zi gz 0,Zi gz 2,Zi gz 3,Zi gz 4]) ?_ ?_
 ·refine ac ((decide (z1>(g.decls.length:Int)))||VU g.decls z1) (p:=(z1>(g.decls.length:Int))∨(VU g.decls z1=true)) (ZJ dq Iff.rfl) (fun Z9=>?_) (fun Z9=>?_)
  ·exact Vv (ZM ⟨1,om,rfl,rfl⟩ (wk [0,1,1,1] fl))
  exact ak (ZM ⟨z1,om,rfl,rfl⟩ (wk [0,1,1,1] fl))
 rintro F h ⟨d,Av,rfl,rfl⟩
 have hcl:=D0 Xp d
 have hmc:=Zcj (L:=(ZU g.decls d).length) (q:=((b-2) / (ZU g.decls d).length)) (b:=b) om hb (Ql _ _)
 have hqb:=Nat.div_le_self (b-2) (ZU g.decls d).length
 refine Zq 3 [2] (ic [] (Je g.decls d) ?_)
 rintro _ _ ⟨v2,rfl,rfl⟩
 refine Z1 (Zq 4 [3] (ic [1,3] (DN rd bs (p+1) g gb rs vs d (Yd:=ob)) ?_))
 rintro _ _ ⟨e1,p21,rfl,rfl,YQ⟩
 have hle:=YQ.1
 refine UG [Yb e1] (Yv [e1]) (XO [e1]).symm 1 3 fun v3=>?_
 refine Z1 (Y5 (ab 0 (Y1 (fun fz gz m F h=>∃(k:Nat) (ys:List Z2) (u:Value) (pq:Nat),(k<=(ZU g.decls d).length)/\(ys.length=k)/\(K3 g.decls g.funcs.length (Qd g.decls 8 d vs.length) 1 ys)/\(∀e∈ys,e.sz<=bS ((b-2) / (ZU g.decls d).length))/\(p<=pq/\pq<=p+31+k*bC ((b-2) / (ZU g.decls d).length))/\F=sF [0,2,3,4,6,10,11] fz [(12,Z4 (ZU g.decls d)),(13,QJ (e1::ys) u),(14,.i k)]/\h=[YU rd bs pq,Zi gz 2,Zi gz 4,Zi gz 5,.tail u 3]/\m=(ZU g.decls d).length-k) _ _ _ ⟨0,[],v3,p21,ob,rfl,True.intro,(fun e he=>by cases he),(by simp only [Nat.zero_mul];omega),rfl,rfl,rfl⟩ (wk [1,1,2,2,0] (fc (x:=Y6 (ZU g.decls d) v2) (Zl.forget _ _) (fc (x:=QJ [e1] v3) (Zl.slh _ (Yn Yv rfl)) (Ya fl)))) ?_)))
 rintro m F h ⟨k,ys,u,pq,Yi,Zd,Zz,YA,Wb,rfl,rfl,rfl⟩
 refine YR 2 (io (.i (((ZU g.decls d).length:Nat):Int)) (.i (((Z6 (ZU g.decls d)).length:Nat):Int)) (li (by rw [Y9])) (Y3 ((k:Int)<(((ZU g.decls d).length:Nat):Int)) (fun Zh=>?_) (fun Zh=>?_)))
 ·refine ak (aq (ab 1 (aE 22 (ZV 14 22 [0,1,2,3,4,5,6,7] [3,3] ?_))))
  obtain ⟨x1,Z3⟩:=Zt (ZU g.decls d) k om
  have hcf:=V8 Xp x1
  have harm:=Ea (m:=vs.length) Z3
  obtain ⟨hm1,hm2⟩:=RZ (k:=k) (L:=(ZU g.decls d).length) (C:=bC ((b-2) / (ZU g.decls d).length)) om
  refine dx 8 (Ze none (k:Int) 1 (Y7 Z3)) (Zo 10 13 [9,12,13] (da 14 (((b-2:Nat):Int)) (((b:Int))-(2)) (Zo 8 9 [15] (dn 16 (.i (((ZU g.decls d).length:Nat):Int)) (.i (((Z6 (ZU g.decls d)).length:Nat):Int)) (li (by rw [Y9])) (dx 17 (CS (b-2) ((ZU g.decls d).length) om om) (Z8 10 (YD 10 [] [3] [b1] (Qy g.decls x1) (Z8 11 (dc 11 [] [3] [b1] (TA vs (ZO g.decls x1)) ?_)))))))))
  rintro _ _ ⟨v4,rfl,rfl⟩
  refine Yy 4 4 [] [(56,Z4 (vs++(ZO g.decls x1)))] (Z8 18 (dc 18 [1,1] [] [] (ih rd bs pq (vs++(ZO g.decls x1)) t ((b-2) / ((ZU g.decls d).length)) ob ob (by simp only [ZH];omega) ob) ?_))
  rintro _ _ ⟨e2,p22,rfl,rfl,X4⟩
  have Xh:=X4.1
  exact Z8 19 (WB 19 [] [] [Yb e2] (Yv [e2]) (XO [e2]).symm 1 3 fun v5=>Yy 2 2 [] [(64,Xz [e2])] (Z8 20 (dp 20 6 [] [] (Yv ((e1::ys)++[e2])) (Yv (e1::ys)) (Yv [e2]) u none 3 (T7 _) (T7 _) (An _) (by simp<;>omega) (by simp [Am,Yv]) fun v6=>Zo 0 1 [21] (de (az (Z0 1 (ZC k (Z1 (ZE ⟨k+1,(ys++[e2]),v6,p22,ob,ob,(Oj.2 ⟨Zz,by rw [Zd,harm,<-ZH];exact Xh.1,True.intro⟩),(XC YA Xh.2),om,rfl,rfl,rfl⟩ (wk [2,2,3,3,0] (fr (fc (x:=QJ ((e1::ys)++[e2]) v6) (Zl.slh _ (Yn Yv rfl)) (ZI k fl)))))))))))))
 refine ax 0 (ar (Y0 2 [(67,Xz (e1::ys))] (Zw [] (XR 8 d (e1::ys)) (ZG 2 b2 (YY (Z2.mk 8 d (e1::ys))) (ie ?_)))))
 have hke:k=(ZU g.decls d).length:=by omega
 subst hke
 exact Yc (r3 [1,1] [Yb (Z2.mk 8 d (e1::ys))] [0] [(b2,b2)] ⟨(Z2.mk 8 d (e1::ys)),pq,rfl,rfl,⟨GE.match_ om hle Zz YA Zd rfl om (Zck om hb (Ql _ _)),by omega⟩⟩ (lr _))
theorem Px (rd:Nat) (bs:LI) (p:Nat) (g:W5) (gb:Nat) (rs:List Func) (vs:LI) (t:Int) (b:Nat) (Yd:∀z∈bs,0<=z/\z<=255) (hp:p+(bC b-1)<=1000000000:=by exact ob) (hg:GP g:=by exact ob) (Wf:g.funcs <+: rs:=by exact ob) (hv:vs.length+3*b<=900:=by exact ob) (hb:3<=b:=by exact ob) (ih:∀(rd:Nat) (bs:LI) (p:Nat) (vs2:LI) (t2:Int) (b2:Nat),(∀z∈bs,0<=z/\z<=255)->(p+bC b2<=1000000000)->(vs2.length+3*b2<=900)->(b2<b)->Zm 331 [.p rd 0,.agg (Wp g gb),Z4 vs2,.i t2,.i b2] [YU rd bs p,XP gb rs] (fun r h=>∃(e:Z2) (p2:Nat),r=Yb e/\h=[YU rd bs p2,XP gb rs]/\GE g vs2.length (bS b2) e/\p<=p2/\p2<=p+bC b2)):Zm 351 [.p rd 0,.agg (Wp g gb),Z4 vs,.i t,.i b] [YU rd bs p,XP gb rs] (fun r h=>∃(e:Z2) (p2:Nat),r=Yb e/\h=[YU rd bs p2,XP gb rs]/\GE g vs.length (bS b) e/\p<=p2/\p2<=p+(bC b-1)):=by
 have Xp:=hg.decls.ok
 have hgl:=hg.len
 have hdl:=hg.decls.len
 have hac:=Z3u hb
 have has:=Z3v hb
 refine ZD 120 Tryz.func351 (ar (iA (Wp g gb) fun b1=>iA [.i 0,.i 0,nl] fun b2=>ie (YR 1 (ic [2] (V3 rd bs p 4 (Yd:=ob)) ?_))))
 rintro _ _ ⟨k1,rfl,rfl,ZT⟩
 have qhp1:=ZT.lt om
 refine Z1 (Xw (fun fz gz F h=>∃(p5:Nat),(p<=p5/\p5<=p+1)/\F=sF [0,2,3,4,6,10] fz []/\h=[YU rd bs p5,Zi gz 1,Zi gz 2,Zi gz 3]) ?_ ?_)
 ·refine ac (k1==0) Zg (fun Z9=>?_) (fun Z9=>?_)
  ·refine ZY (ab 0 (Y1 (fun fz gz m F h=>∃(a:Nat),(1<=a/\a<=g.decls.length+1)/\F=sF [0,2,3,4,6,10] fz [(11,.i a)]/\h=gz/\m=g.decls.length+1-a) _ _ _ ⟨1,ob,rfl,rfl,rfl⟩ (Zs 4 (fc (x:=.i 1) li fl)) ?_))
   rintro m F h ⟨a,Yi,rfl,rfl,rfl⟩
   refine Yq 3 [2] (iw (VI g.decls) (Y3 ((a:Int)<=(g.decls.length:Int)) (fun Zh=>?_) (fun Zh=>?_)))
   ·refine ak (aq (ab 1 (aq (Xw (fun fz gz F h=>∃(wb:Bool),(True)/\F=sF [0,2,3,4,6,10,11] fz [(44,.b wb)]/\h=gz) ?_ ?_))))
    ·refine az (ZB 3 [2] (Zw [] (FM g.decls (a:Int)) (Z0 1 (ib (b:=VU g.decls (a:Int)) 28 (fun Zb=>?_) (fun Zb=>?_)))))
     ·refine ZB 3 [2] (ia (((a-1:Nat):Int)) (((a:Int))-(1)) ?_)
      obtain ⟨x1,Z3⟩:=Zt g.decls (a-1) om
      refine Zp (Ze none ((a-1:Nat):Int) 3 (Ww Z3)) (Z0 6 (ib (b:=(x1.to_==t)) 39 (fun Zy=>?_) (fun Zy=>?_)))
      ·refine ZB 3 [2] (ic [3] (GW g gb rs vs (a:Int)) ?_)
       rintro _ _ ⟨w1,rfl,rfl⟩
       exact Z1 (ZM ⟨w1,True.intro,rfl,rfl⟩ (wk [1,1,1,0] fl))
      exact Z1 (ZM ⟨false,True.intro,rfl,rfl⟩ (Zs 4 fl))
     exact Z1 (ZM ⟨false,True.intro,rfl,rfl⟩ (Zs 4 fl))
    rintro F h ⟨wb,kR5_0,rfl,rfl⟩
    refine ac wb Iff.rfl (fun ZA=>?_) (fun ZA=>?_)
    ·refine aD 21 (ZV 11 21 [0,1,2,3,5,6,7,8,9,10] [2,2,2] (da 11 (((a-1:Nat):Int)) (((a:Int))-(1)) ?_))
     obtain ⟨x2,Zv⟩:=Zt g.decls (a-1) om
     refine dx 12 (Ze none ((a-1:Nat):Int) 3 (Ww Zv)) (Zo 6 9 [13,14,15] (da 16 (((b-2:Nat):Int)) (((b:Int))-(2)) (Z8 4 (dc 4 [0,2] [1,1] [b1,b1] (DN rd bs (p+1) g gb rs vs (a:Int) (Yd:=ob)) ?_))))
     rintro _ _ ⟨e1,p21,rfl,rfl,Xy⟩
     have hle:=Xy.1
     refine Z8 17 (dc 17 [0,0] [] [] (ih rd bs p21 vs x2.frm (b-2) ob ob ob ob) ?_)
     rintro _ _ ⟨e2,p22,rfl,rfl,Wx⟩
     have Xh:=Wx.1
     exact Z8 18 (WB 18 [] [] [Yb e1,Yb e2] (Yv [e1,e2]) (XO [e1,e2]).symm 2 3 fun v1=>Yy 2 2 [] [(63,Xz [e1,e2])] (Z8 19 (YD 19 [] [] [] (XR 11 0 [e1,e2]) (Z8 20 (X5 20 3 [] [] b2 (YY (Z2.mk 11 0 [e1,e2])) (de (Yc (r3 [2,2] [Yb (Z2.mk 11 0 [e1,e2])] [0] [(b2,b2)] ⟨(Z2.mk 11 0 [e1,e2]),p22,rfl,rfl,⟨GE.two om om hle Xh om,by omega⟩⟩ (lr _)))))))))
    exact ak (az (Z0 1 (ZC a (Z1 (ZE ⟨a+1,ob,rfl,rfl,rfl⟩ (Zs 4 (ZI a fl)))))))
   exact ax 0 (ZM ⟨p+1,ob,rfl,rfl⟩ (Zs 4 fl))
  exact ak (ZM ⟨p+1,ob,rfl,rfl⟩ (Zs 4 fl))
 rintro F h ⟨p5,Av,rfl,rfl⟩
 refine Zq 3 [2] (ic [] (Je g.decls t) ?_)
 rintro _ _ ⟨v2,rfl,rfl⟩
 refine Z1 (YR 1 (io (.i (((ZU g.decls t).length:Nat):Int)) (.i (((Z6 (ZU g.decls t)).length:Nat):Int)) (li (by rw [Y9])) (Y3 ((((ZU g.decls t).length:Nat):Int)>0) (fun Yk=>?_) (fun Yk=>?_))))
 ·refine ZX 3 (io (.i (((ZU g.decls t).length:Nat):Int)) (.i (((Z6 (ZU g.decls t)).length:Nat):Int)) (li (by rw [Y9])) (ic [1] (V3 rd bs p5 (((ZU g.decls t).length:Nat):Int) (Yd:=ob)) ?_))
  rintro _ _ ⟨k2,rfl,rfl,WZ⟩
  have qhp8:=WZ.lt om
  obtain ⟨x3,YN⟩:=Zt (ZU g.decls t) k2.toNat om
  have hcc:=hg.decls.cons_cases (Y4 YN)
  refine Zp (Ze (some v2) k2 1 (Y7 YN)) (Z1 (aD 13 (ZV 5 13 [0,1,2,3,4,5,6,8] [3,3] (da 9 (((b-1:Nat):Int)) (((b:Int))-(1)) (Z8 7 (YD 7 [] [2] [b1] (Qy g.decls x3) (Z8 10 (dc 10 [0,3] [] [] (CI rd bs (p5+1) g gb rs vs (ZO g.decls x3) (b-1) b (Yd:=ob) (hp:=(CX (p:=p) (by first|omega|simp) hb om om)) (ht:=(by first|omega|simp)) (hb:=om) (ih:=ih)) ?_))))))))
  rintro _ _ ⟨ys1,p23,rfl,rfl,Vw⟩
  have hga1:=Vw.1
  have hga2:=Vw.2.1
  have hga3:=Vw.2.2
  have hnc:=Bl (b:=b) (show (ys1).length<=3 by rw [hga1];first|omega|simp) hb (Ql _ (b-1))
  rw [hga1] at hnc
  exact Z8 11 (YD 11 [] [] [] (XR 6 x3 ys1) (Z8 12 (X5 12 3 [] [] b2 (YY (Z2.mk 6 x3 ys1)) (de (Yc (r3 [1,1] [Yb (Z2.mk 6 x3 ys1)] [0] [(b2,b2)] ⟨(Z2.mk 6 x3 ys1),p23,rfl,rfl,⟨GE.node om (fun h=>by omega) om hga2 hga1 (by first|omega|simp) (F9 (by first|omega|simp) hb (Ql _ _)),by omega⟩⟩ (lr _)))))))
 refine ak (X6 (Y3 (t>0) (fun YI=>?_) (fun YI=>?_)))
 ·refine Zq 4 [3] (ic [1,3] (DN rd bs p5 g gb rs vs t (Yd:=ob)) ?_)
  rintro _ _ ⟨e3,p24,rfl,rfl,Ua⟩
  have hle:=Ua.1
  exact ZG 3 b2 (YY e3) (ie (Yc (r3 [1,1] [Yb e3] [0] [(b2,b2)] ⟨e3,p24,rfl,rfl,⟨hle.le (NE b),by omega⟩⟩ (lr _))))
 refine ak (YR 1 (ic [1] (V3 rd bs p5 3 (Yd:=ob)) ?_))
 rintro _ _ ⟨k3,rfl,rfl,UF⟩
 have qhp11:=UF.lt om
 refine YS (k3==0) Zg (fun X9=>?_) (fun X9=>?_)
 ·refine Zq 3 [3] (iL (Z6 [0]) 1 1 fun v3=>Z0 1 (ia (((b-1:Nat):Int)) (((b:Int))-(1)) (Y0 0 [(104,Z4 [0])] (ic [1,4] (CI rd bs (p5+1) g gb rs vs [0] (b-1) b (Yd:=ob) (hp:=(CX (p:=p) (by first|omega|simp) hb om om)) (ht:=(by first|omega|simp)) (hb:=om) (ih:=ih)) ?_))))
  rintro _ _ ⟨ys2,p25,rfl,rfl,Ur⟩
  have hga1:=Ur.1
  have hga2:=Ur.2.1
  have hga3:=Ur.2.2
  have hnc:=Bl (b:=b) (show (ys2).length<=3 by rw [hga1];first|omega|simp) hb (Ql _ (b-1))
  rw [hga1] at hnc
  exact Zw [] (XR 5 0 ys2) (ZG 4 b2 (YY (Z2.mk 5 0 ys2)) (ie (Yc (r3 [1,1] [Yb (Z2.mk 5 0 ys2)] [0] [(b2,b2)] ⟨(Z2.mk 5 0 ys2),p25,rfl,rfl,⟨GE.node om (fun h=>by omega) om hga2 hga1 (by first|omega|simp) (F9 (by first|omega|simp) hb (Ql _ _)),by omega⟩⟩ (lr _)))))
 refine ak (aD 12 (ZV 7 12 [0,3,4,5,7] [3] (da 8 (((b-1:Nat):Int)) (((b:Int))-(1)) (BM (fun fz gz F h=>∃(z1:Int) (ys3:List Z2) (p26:Nat),(z1∈[1,2,3,4])/\(ys3.length=[0,0].length/\(∀e∈ys3,GE g vs.length (bS ((b-1) / [0,0].length)) e)/\((p5+1)+1)<=p26/\p26<=((p5+1)+1)+[0,0].length*bC ((b-1) / [0,0].length))/\F=sF [10] fz []/\h=[.obj b2 (YY (Z2.mk z1 0 ys3)),YU rd bs p26,Zi gz 4,Zi gz 1,Zi gz 3]) ?_ ?_))))
 ·refine Uj 1 6 ?_ ?_
  ·refine dL 1 [2] [b1] (Z6 [1,2,3,4]) 4 1 fun v4=>Yy 5 5 [] [(110,Z4 [1,2,3,4])] (Uj 2 6 ?_ ?_)
   ·refine dc 2 [1] [1] [b1] (JA rd bs (p5+1) [1,2,3,4] (Yd:=ob)) ?_
    rintro _ _ ⟨z1,rfl,rfl,Q2⟩
    have hz:=C8 (a:=1) (b:=4) Q2 (by decide)
    refine Z8 6 (dL 6 [2] [b1] (Z6 [0,0]) 2 1 fun v5=>Yy 3 3 [] [(115,Z4 [0,0])] (Z8 9 (dc 9 [1,5] [] [] (CI rd bs ((p5+1)+1) g gb rs vs [0,0] (b-1) b (Yd:=ob) (hp:=(CX (p:=p) (by first|omega|simp) hb om om)) (ht:=(by first|omega|simp)) (hb:=om) (ih:=ih)) ?_)))
    rintro _ _ ⟨ys3,p26,rfl,rfl,Tw⟩
    have hga1:=Tw.1
    have hga2:=Tw.2.1
    have hga3:=Tw.2.2
    have hnc:=Bl (b:=b) (show (ys3).length<=3 by rw [hga1];first|omega|simp) hb (Ql _ (b-1))
    rw [hga1] at hnc
    exact Z8 10 (YD 10 [] [] [] (XR z1 0 ys3) (Z8 11 (X5 11 5 [] [] b2 (YY (Z2.mk z1 0 ys3)) (de (ZM ⟨z1,ys3,p26,(by assumption),(by assumption),rfl,rfl⟩ (wk [0,0,0,2,2] fl))))))
   refine dL 6 [2] [b1] (Z6 [0,0]) 2 1 fun v6=>Z8 2 (dc 2 [2] [1] [b1] (JA rd bs (p5+1) [1,2,3,4] (Yd:=ob)) ?_)
   rintro _ _ ⟨z2,rfl,rfl,K7⟩
   have hz:=C8 (a:=1) (b:=4) K7 (by decide)
   refine Yy 3 3 [] [(115,Z4 [0,0])] (Z8 9 (dc 9 [0,5] [] [] (CI rd bs ((p5+1)+1) g gb rs vs [0,0] (b-1) b (Yd:=ob) (hp:=(CX (p:=p) (by first|omega|simp) hb om om)) (ht:=(by first|omega|simp)) (hb:=om) (ih:=ih)) ?_))
   rintro _ _ ⟨ys4,p27,rfl,rfl,K8⟩
   have hga1:=K8.1
   have hga2:=K8.2.1
   have hga3:=K8.2.2
   have hnc:=Bl (b:=b) (show (ys4).length<=3 by rw [hga1];first|omega|simp) hb (Ql _ (b-1))
   rw [hga1] at hnc
   exact Z8 10 (YD 10 [] [] [] (XR z2 0 ys4) (Z8 11 (X5 11 5 [] [] b2 (YY (Z2.mk z2 0 ys4)) (de (ZM ⟨z2,ys4,p27,(by assumption),(by assumption),rfl,rfl⟩ (wk [0,0,0,2,2] fl))))))
  refine dL 6 [2] [b1] (Z6 [0,0]) 2 1 fun v7=>Z8 1 (dL 1 [2] [b1] (Z6 [1,2,3,4]) 4 1 fun v8=>Yy 4 4 [] [(110,Z4 [1,2,3,4])] (Z8 2 (dc 2 [2] [1] [b1] (JA rd bs (p5+1) [1,2,3,4] (Yd:=ob)) ?_)))
  rintro _ _ ⟨z3,rfl,rfl,Au⟩
  have hz:=C8 (a:=1) (b:=4) Au (by decide)
  refine Yy 3 3 [] [(115,Z4 [0,0])] (Z8 9 (dc 9 [0,5] [] [] (CI rd bs ((p5+1)+1) g gb rs vs [0,0] (b-1) b (Yd:=ob) (hp:=(CX (p:=p) (by first|omega|simp) hb om om)) (ht:=(by first|omega|simp)) (hb:=om) (ih:=ih)) ?_))
  rintro _ _ ⟨ys5,p28,rfl,rfl,Bh⟩
  have hga1:=Bh.1
  have hga2:=Bh.2.1
  have hga3:=Bh.2.2
  have hnc:=Bl (b:=b) (show (ys5).length<=3 by rw [hga1];first|omega|simp) hb (Ql _ (b-1))
  rw [hga1] at hnc
  exact Z8 10 (YD 10 [] [] [] (XR z3 0 ys5) (Z8 11 (X5 11 5 [] [] b2 (YY (Z2.mk z3 0 ys5)) (de (ZM ⟨z3,ys5,p28,(by assumption),(by assumption),rfl,rfl⟩ (wk [0,0,0,2,2] fl))))))
 rintro F h ⟨z1,ys3,p26,Q2,Tw,rfl,rfl⟩
 have hz:=C8 (a:=1) (b:=4) Q2 (by decide)
 have hga1:=Tw.1
 have hga2:=Tw.2.1
 have hga3:=Tw.2.2
 have hnc:=Bl (b:=b) (show (ys3).length<=3 by rw [hga1];first|omega|simp) hb (Ql _ (b-1))
 rw [hga1] at hnc
 exact Yc (r3 [1,1] [Yb (Z2.mk z1 0 ys3)] [0] [(b2,b2)] ⟨(Z2.mk z1 0 ys3),p26,rfl,rfl,⟨GE.node om (fun h=>by omega) om hga2 hga1 (by first|omega|simp) (F9 (by first|omega|simp) hb (Ql _ _)),by omega⟩⟩ (lr _))
theorem Z8y (rd:Nat) (bs:LI) (p:Nat) (g:W5) (gb:Nat) (rs:List Func) (vs:LI) (t:Int) (b:Nat) (Yd:∀z∈bs,0<=z/\z<=255) (hp:p+bC b<=1000000000) (hg:GP g) (Wf:g.funcs <+: rs) (hv:vs.length+3*b<=900) (ih:∀(rd:Nat) (bs:LI) (p:Nat) (vs2:LI) (t2:Int) (b2:Nat),(∀z∈bs,0<=z/\z<=255)->(p+bC b2<=1000000000)->(vs2.length+3*b2<=900)->(b2<b)->Zm 331 [.p rd 0,.agg (Wp g gb),Z4 vs2,.i t2,.i b2] [YU rd bs p,XP gb rs] (fun r h=>∃(e:Z2) (p2:Nat),r=Yb e/\h=[YU rd bs p2,XP gb rs]/\GE g vs2.length (bS b2) e/\p<=p2/\p2<=p+bC b2)):Zm 331 [.p rd 0,.agg (Wp g gb),Z4 vs,.i t,.i b] [YU rd bs p,XP gb rs] (fun r h=>∃(e:Z2) (p2:Nat),r=Yb e/\h=[YU rd bs p2,XP gb rs]/\GE g vs.length (bS b) e/\p<=p2/\p2<=p+bC b):=by
 have Xp:=hg.decls.ok
 have hgl:=hg.len
 have hdl:=hg.decls.len
 have hbm:=NE b
 have hcm:=ND b
 refine ZD 114 Tryz.func331 (ar (iA (Wp g gb) fun b1=>iA [.i 0,.i 0,nl] fun b2=>ie (X6 (Y3 ((b:Int)<3) (fun Z9=>?_) (fun Z9=>?_)))))
 ·refine Zq 4 [1] (ic [2,2] (DN rd bs p g gb rs vs t (Yd:=ob)) ?_)
  rintro _ _ ⟨e1,p21,rfl,rfl,ZT⟩
  have hle:=ZT.1
  exact ZG 2 b2 (YY e1) (ie (Yc (r3 [1,1] [Yb e1] [0] [(b2,b2)] ⟨e1,p21,rfl,rfl,⟨hle.le hbm,by omega⟩⟩ (lr _))))
 have hb:3<=b:=by omega
 have hlc:=Zch hb
 have hls:=Zci hb
 refine ak (YR 1 (ic [2] (V3 rd bs p 12 (Yd:=ob)) ?_))
 rintro _ _ ⟨k1,rfl,rfl,Yg⟩
 have qhp2:=Yg.lt om
 refine ie (ab 0 (ar (YS (k1==0) Zg (fun Zh=>?_) (fun Zh=>?_))))
 ·refine Zq 4 [2] (ic [0,2] (DN rd bs (p+1) g gb rs vs t (Yd:=ob)) ?_)
  rintro _ _ ⟨e2,p22,rfl,rfl,YJ⟩
  have hle:=YJ.1
  exact ZG 2 b2 (YY e2) (ie (Yc (r3 [1,1] [Yb e2] [0] [(b2,b2)] ⟨e2,p22,rfl,rfl,⟨hle.le hbm,by omega⟩⟩ (lr _))))
 refine Y5 (Xw (fun fz gz F h=>F=sF [0,2,3,4,6,10,22] fz [(30,.b ((k1==1)||(k1==2)))]/\h=gz) ?_ ?_)
 ·refine ac (k1==1) Zg (fun ZA=>?_) (fun ZA=>?_)
  ·exact ak (ZM ⟨rfl,rfl⟩ (Zs 4 (fc (x:=.b (k1==1)) (lb (by first|rfl|(rw [Zf ZA])|(rw [Za ZA])|(simp [ZA];done)|(rw [Ye];simp [ZA];done)|omega)) fl)))
  exact Vv (ZM ⟨rfl,rfl⟩ (Zs 4 (fc (x:=.b (k1==2)) (lb (by first|rfl|(rw [Zf ZA])|(rw [Za ZA])|(simp [ZA];done)|(rw [Ye];simp [ZA];done)|omega)) fl)))
 rintro F h ⟨rfl,rfl⟩
 refine ac ((k1==1)||(k1==2)) (p:=(k1=1)∨(k1=2)) (ZJ Zg Zg) (fun Yk=>?_) (fun Yk=>?_)
 ·refine Zq 3 [2] (ic [0,2] (Z8a rd bs (p+1) g gb rs vs (Yd:=ob)) ?_)
  rintro _ _ ⟨z1,rfl,rfl,YQ⟩
  refine Z1 (aD 20 (ZV 15 20 [0,1,2,3,4] [3] (dx 5 (CS b 2 om om) (ZV 8 14 [7,8,9,10,13,14] [3] (dx 15 (CS b 2 om om) (BM (fun fz gz F h=>∃(e3:Z2) (e4:Z2) (p24:Nat) (p23:Nat),(GE g vs.length (bS (b / 2)) e3/\((p+1)+1)<=p23/\p23<=((p+1)+1)+bC (b / 2))/\(GE g (vs++[z1]).length (bS (b / 2)) e4/\p23<=p24/\p24<=p23+bC (b / 2))/\F=sF [10] fz []/\h=[.obj b2 (YY (Z2.mk 13 0 [e3,e4])),YU rd bs p24,Zi gz 1,Zi gz 3]) ?_ ?_))))))
  ·refine Uj 6 11 ?_ ?_
   ·refine dc 6 [0,0] [1] [b1] (ih rd bs ((p+1)+1) vs z1 (b / 2) ob ob (by first|omega|(simp only [ZH,Ys,YF];omega)) ob) ?_
    rintro _ _ ⟨e3,p23,rfl,rfl,X4⟩
    have hgehp5:=X4.1
    refine Z8 11 (dL 11 [3] [b1] (Z6 [z1]) 1 1 fun v1=>Yy 5 5 [] [(48,Z4 [z1])] (Z8 12 (dc 12 [] [3] [b1] (TA vs [z1]) ?_)))
    rintro _ _ ⟨v2,rfl,rfl⟩
    refine Yy 4 4 [] [(49,Z4 (vs++[z1]))] (Z8 16 (dc 16 [2,2] [] [] (ih rd bs p23 (vs++[z1]) t (b / 2) ob ob (by first|omega|(simp only [ZH,Ys,YF];omega)) ob) ?_))
    rintro _ _ ⟨e4,p24,rfl,rfl,Xy⟩
    have hgehp6:=Xy.1
    exact Z8 17 (WB 17 [] [] [Yb e3,Yb e4] (Yv [e3,e4]) (XO [e3,e4]).symm 2 3 fun v3=>Yy 2 2 [] [(54,Xz [e3,e4])] (Z8 18 (YD 18 [] [] [] (XR 13 0 [e3,e4]) (Z8 19 (X5 19 5 [] [] b2 (YY (Z2.mk 13 0 [e3,e4])) (de (ZM ⟨e3,e4,p24,_,(by assumption),(by assumption),rfl,rfl⟩ (wk [0,1,1,3] fl))))))))
   refine dL 11 [3,3] [b1,b1] (Z6 [z1]) 1 1 fun v4=>Z8 6 (dc 6 [1,1] [1] [b1] (ih rd bs ((p+1)+1) vs z1 (b / 2) ob ob (by first|omega|(simp only [ZH,Ys,YF];omega)) ob) ?_)
   rintro _ _ ⟨e5,p25,rfl,rfl,Wx⟩
   have hgehp7:=Wx.1
   refine Yy 5 5 [] [(48,Z4 [z1])] (Z8 12 (dc 12 [] [3] [b1] (TA vs [z1]) ?_))
   rintro _ _ ⟨v5,rfl,rfl⟩
   refine Yy 4 4 [] [(49,Z4 (vs++[z1]))] (Z8 16 (dc 16 [1,1] [] [] (ih rd bs p25 (vs++[z1]) t (b / 2) ob ob (by first|omega|(simp only [ZH,Ys,YF];omega)) ob) ?_))
   rintro _ _ ⟨e6,p26,rfl,rfl,WZ⟩
   have hgehp8:=WZ.1
   exact Z8 17 (WB 17 [] [] [Yb e5,Yb e6] (Yv [e5,e6]) (XO [e5,e6]).symm 2 3 fun v6=>Yy 2 2 [] [(54,Xz [e5,e6])] (Z8 18 (YD 18 [] [] [] (XR 13 0 [e5,e6]) (Z8 19 (X5 19 5 [] [] b2 (YY (Z2.mk 13 0 [e5,e6])) (de (ZM ⟨e5,e6,p26,_,(by assumption),(by assumption),rfl,rfl⟩ (wk [0,1,1,3] fl))))))))
  rintro F h ⟨e3,e4,p24,p23,X4,Xy,rfl,rfl⟩
  have hgehp5:=X4.1
  have hgehp6:=Xy.1
  exact Yc (r3 [1,1] [Yb (Z2.mk 13 0 [e3,e4])] [0] [(b2,b2)] ⟨(Z2.mk 13 0 [e3,e4]),p24,rfl,rfl,⟨GE.let_ (by assumption) (by have h:=‹GE g (vs++[_]).length (bS (b / 2)) _›;rw [ZH] at h;exact h) hls,by omega⟩⟩ (lr _))
 refine ar (YS (k1==3) Zg (fun YI=>?_) (fun YI=>?_))
 ·refine Zq 5 [2] (iL (Z6 [0,t,t]) 3 1 fun v7=>Z0 1 (ia (((b-1:Nat):Int)) (((b:Int))-(1)) (Y0 0 [(63,Z4 [0,t,t])] (ic [1,3] (CI rd bs (p+1) g gb rs vs [0,t,t] (b-1) b (Yd:=ob) (hp:=(CX (p:=p) (by first|omega|simp) hb om om)) (ht:=(by first|omega|simp)) (hb:=om) (ih:=ih)) ?_))))
  rintro _ _ ⟨ys1,p27,rfl,rfl,Vw⟩
  have hga1:=Vw.1
  have hga2:=Vw.2.1
  have hga3:=Vw.2.2
  have hnc:=Bl (b:=b) (show (ys1).length<=3 by rw [hga1];first|omega|simp) hb (Ql _ (b-1))
  rw [hga1] at hnc
  exact Zw [] (XR 7 0 ys1) (ZG 3 b2 (YY (Z2.mk 7 0 ys1)) (ie (Yc (r3 [1,1] [Yb (Z2.mk 7 0 ys1)] [0] [(b2,b2)] ⟨(Z2.mk 7 0 ys1),p27,rfl,rfl,⟨GE.if_ om hga2 hga1 (F9 (by simp) hb (Ql 3 _)),by omega⟩⟩ (lr _)))))
 refine Y5 (Xw (fun fz gz F h=>F=sF [0,2,3,4,6,10,22] fz [(68,.b ((k1==4)||((k1==5)||(k1==6))))]/\h=gz) ?_ ?_)
 ·refine ac (k1==4) Zg (fun X9=>?_) (fun X9=>?_)
  ·exact ak (ZM ⟨rfl,rfl⟩ (Zs 4 (fc (x:=.b (k1==4)) (lb (by first|rfl|(rw [Zf X9])|(rw [Za X9])|(simp [X9];done)|(rw [Ye];simp [X9];done)|omega)) fl)))
  refine ar (YS (k1==5) Zg (fun WH=>?_) (fun WH=>?_))
  ·exact ak (ZM ⟨rfl,rfl⟩ (Zs 4 (fc (x:=.b (k1==5)) (lb (by first|rfl|(rw [Zf X9])|(rw [Za X9])|(simp [X9,WH];done)|(rw [Ye];simp [X9,WH];done)|omega)) fl)))
  exact Vv (ZM ⟨rfl,rfl⟩ (Zs 4 (fc (x:=.b (k1==6)) (lb (by first|rfl|(rw [Zf X9])|(rw [Za X9])|(simp [X9,WH];done)|(rw [Ye];simp [X9,WH];done)|omega)) fl)))
 rintro F h ⟨rfl,rfl⟩
 refine ac ((k1==4)||((k1==5)||(k1==6))) (p:=(k1=4)∨((k1=5)∨(k1=6))) (ZJ Zg (ZJ Zg Zg)) (fun VS=>?_) (fun VS=>?_)
 ·refine Zq 5 [2] (ic [0,2] (Z8x rd bs (p+1) g gb rs vs t b (Yd:=ob) (ih:=ih)) ?_)
  rintro _ _ ⟨e7,p28,rfl,rfl,Ua⟩
  have hgm:=Ua.1
  exact ZG 2 b2 (YY e7) (ie (Yc (r3 [1,1] [Yb e7] [0] [(b2,b2)] ⟨e7,p28,rfl,rfl,⟨hgm,by omega⟩⟩ (lr _))))
 refine Y5 (Xw (fun fz gz F h=>F=sF [0,2,3,4,6,10] fz [(78,.b ((k1==7)||(k1==8)))]/\h=gz) ?_ ?_)
 ·refine ac (k1==7) Zg (fun Vj=>?_) (fun Vj=>?_)
  ·exact ak (ZM ⟨rfl,rfl⟩ (Zs 4 (fc (x:=.b (k1==7)) (lb (by first|rfl|(rw [Zf Vj])|(rw [Za Vj])|(simp [Vj];done)|(rw [Ye];simp [Vj];done)|omega)) fl)))
  exact Vv (ZM ⟨rfl,rfl⟩ (Zs 4 (fc (x:=.b (k1==8)) (lb (by first|rfl|(rw [Zf Vj])|(rw [Za Vj])|(simp [Vj];done)|(rw [Ye];simp [Vj];done)|omega)) fl)))
 rintro F h ⟨rfl,rfl⟩
 refine ac ((k1==7)||(k1==8)) (p:=(k1=7)∨(k1=8)) (ZJ Zg Zg) (fun VC=>?_) (fun VC=>?_)
 ·refine Zq 2 [2] (ic [3] (Z8e g gb rs t) ?_)
  rintro _ _ ⟨xs1,rfl,rfl,UF⟩
  have hcal:=UF
  refine Z1 (ZX 1 (iw (Y9 xs1) (Y3 ((xs1.length:Int)>0) (fun Q1=>?_) (fun Q1=>?_))))
  ·refine ZX 3 (iw (Y9 xs1) (ic [1] (V3 rd bs (p+1) (xs1.length:Int) (Yd:=ob)) ?_))
   rintro _ _ ⟨k2,rfl,rfl,Ur⟩
   have qhp12:=Ur.lt om
   obtain ⟨x1,Z3⟩:=Zt xs1 k2.toNat om
   have hcv:=hcal.2 _ (Y4 Z3)
   refine Zp (Ze none k2 1 (Y7 Z3)) (Z1 (aD 15 (ZV 8 15 [0,1,2,3,4,5,6] [3,3] ?_)))
   obtain ⟨x2,Zv⟩:=Zt g.funcs x1.toNat om
   have hso:=(hg.sigs _ (Y4 Zv)).bd
   refine dx 7 (Vk gb g.funcs.length 4 x1.toNat 5 x1) (Zo 6 7 [8] (TU 9 (Ul 1 gb 4 4 5 (x1.toNat * 5+0) (Zu (Xt rs)) [Z4 x2.params] 23 (Z4 x2.params) (UC Wf Zv 0 rfl (Vd rfl))) (Zo 4 5 [10] (da 11 (((b-1:Nat):Int)) (((b:Int))-(1)) (Z8 12 (dc 12 [0,0] [] [] (CI rd bs ((p+1)+1) g gb rs vs x2.params (b-1) b (Yd:=ob) (hp:=(CX (p:=p) (by first|omega|simp) hb om om)) (ht:=(by first|omega|simp)) (hb:=om) (ih:=ih)) ?_))))))
   rintro _ _ ⟨ys2,p29,rfl,rfl,Q2⟩
   have hga1:=Q2.1
   have hga2:=Q2.2.1
   have hga3:=Q2.2.2
   have hnc:=Bl (b:=b) (show (ys2).length<=3 by rw [hga1];first|omega|simp) hb (Ql _ (b-1))
   rw [hga1] at hnc
   exact Z8 13 (YD 13 [] [] [] (XR 9 x1 ys2) (Z8 14 (X5 14 2 [] [] b2 (YY (Z2.mk 9 x1 ys2)) (de (Yc (r3 [1,1] [Yb (Z2.mk 9 x1 ys2)] [0] [(b2,b2)] ⟨(Z2.mk 9 x1 ys2),p29,rfl,rfl,⟨GE.node om (fun _=>by omega) om hga2 hga1 (by first|omega|simp) (F9 (by first|omega|simp) hb (Ql _ _)),by omega⟩⟩ (lr _)))))))
  refine ak (Zq 5 [3] (ic [1,0] (Px rd bs (p+1) g gb rs vs t b (Yd:=ob) (ih:=ih)) ?_))
  rintro _ _ ⟨e8,p210,rfl,rfl,Tw⟩
  have hgm:=Tw.1
  exact ZG 2 b2 (YY e8) (ie (Yc (r3 [1,1] [Yb e8] [0] [(b2,b2)] ⟨e8,p210,rfl,rfl,⟨hgm,by omega⟩⟩ (lr _))))
 refine ak (Zq 5 [2] (ic [0,2] (Px rd bs (p+1) g gb rs vs t b (Yd:=ob) (ih:=ih)) ?_))
 rintro _ _ ⟨e9,p211,rfl,rfl,K7⟩
 have hgm:=K7.1
 exact ZG 2 b2 (YY e9) (ie (Yc (r3 [1,1] [Yb e9] [0] [(b2,b2)] ⟨e9,p211,rfl,rfl,⟨hgm,by omega⟩⟩ (lr _))))
theorem K5 (rd:Nat) (bs:LI) (p:Nat) (g:W5) (gb:Nat) (rs:List Func) (vs:LI) (t:Int) (b:Nat) (Yd:∀z∈bs,0<=z/\z<=255) (hp:p+bC b<=1000000000:=by exact ob) (hg:GP g:=by exact ob) (Wf:g.funcs <+: rs:=by exact ob) (hv:vs.length+3*b<=900:=by exact ob):Zm 331 [.p rd 0,.agg (Wp g gb),Z4 vs,.i t,.i b] [YU rd bs p,XP gb rs] (fun r h=>∃(e:Z2) (p2:Nat),r=Yb e/\h=[YU rd bs p2,XP gb rs]/\GE g vs.length (bS b) e/\p<=p2/\p2<=p+bC b):=by
 have key:∀k:Nat,∀(rd:Nat) (bs:LI) (p:Nat) (vs:LI) (t:Int) (b2:Nat),(∀z∈bs,0<=z/\z<=255)->(p+bC b2<=1000000000)->(vs.length+3*b2<=900)->(b2<k)->Zm 331 [.p rd 0,.agg (Wp g gb),Z4 vs,.i t,.i b2] [YU rd bs p,XP gb rs] (fun r h=>∃(e:Z2) (p2:Nat),r=Yb e/\h=[YU rd bs p2,XP gb rs]/\GE g vs.length (bS b2) e/\p<=p2/\p2<=p+bC b2):=by
  intro k
  induction k with
  | zero=>intro rd bs p vs t b2 h1 h2 h3 h4;omega
  | succ k ih=>intro rd bs p vs t b2 h1 h2 h3 h4;exact Z8y rd bs p g gb rs vs t b2 h1 h2 hg Wf h3 fun rd bs p vs t b3 q1 q2 q3 q4=>ih rd bs p vs t b3 q1 q2 q3 om
 exact key (b+1) rd bs p vs t b Yd hp hv om
theorem Pw (rd:Nat) (bs:LI) (p:Nat) (g:W5) (gb:Nat) (rs:List Func) (vs:LI) (t:Int) (b:Nat) (Yd:∀z∈bs,0<=z/\z<=255) (hp:p+40000<=1000000000:=by exact ob) (hg:GP g:=by exact ob) (Wf:g.funcs <+: rs:=by exact ob) (hv:vs.length+3*b<=900:=by exact ob) (hb:b<=20:=by exact ob):Zm 310 [.p rd 0,.agg (Wp g gb),Z4 vs,.i t,.i b] [YU rd bs p,XP gb rs] (fun r h=>∃(e:Z2) (p2:Nat),r=Yb e/\h=[YU rd bs p2,XP gb rs]/\GE g vs.length 30 e/\p<=p2/\p2<=p+40000):=by
 have Zjn:=Gi hb
 refine ZD 34 Tryz.func310 (ar (iA (Wp g gb) fun b1=>iA [.i 0,.i 0,nl] fun b2=>ie (Zq 5 [1] (ic [2,2] (K5 rd bs p g gb rs vs t b (Yd:=ob)) ?_))))
 rintro _ _ ⟨e1,p21,rfl,rfl,ZT⟩
 have Xh:=ZT.1
 refine iA [.i 0,.i 0,nl] fun b3=>?_
 refine ZG 0 b3 (YY e1) (ie (aq (ab 0 (Y1 (fun fz gz m F h=>∃(bq:Nat) (eQ:Z2) (pq:Nat),(GE g vs.length (bS bq) eQ)/\(bq<=b)/\(p<=pq/\pq+1900*bq<=p+1900*(b+1))/\F=sF [0,2,3,6,10,11] fz [(4,.i bq)]/\h=[.obj b3 (YY eQ),YU rd bs pq,Zi gz 2,Zi gz 3,Zi gz 4]/\m=bq+1) _ _ _ ⟨b,e1,p21,Xh,ob,ob,rfl,rfl,rfl⟩ (Zs 5 fl) ?_))))
 rintro m F h ⟨bq,eQ,pq,Yi,Zd,Zz,rfl,rfl,rfl⟩
 refine Yq 1 [0] (ic [] (PD eQ (hz:=(by have h1:=Yi.2;have h2:=(Gi (b:=bq) om).1;omega))) ?_)
 rintro _ _ ⟨w1,rfl,rfl,Yg⟩
 have LN:=Yg
 have hq20:=Gi (b:=bq) om
 have hq21:=Gi (b:=bq / 2) om
 have Xo:=Yi.2
 refine Xi [0,2,3,4,6,10,11] [(24,.b ((decide (w1<0))&&(decide ((bq:Int)>2))))] (fun gz=>gz) ?_ ?_
 ·refine Z0 2 (ib (b:=(decide (w1<0))) 21 (fun Zb=>?_) (fun Zb=>?_))
  ·exact Z1 (Zs 5 (Zj (decide ((bq:Int)>2)) Zb fl))
  exact Z1 (Zs 5 (Zj false Zb fl))
 refine ac ((decide (w1<0))&&(decide ((bq:Int)>2))) (p:=(w1<0)/\((bq:Int)>2)) (Yo dq dq) (fun Z9=>?_) (fun Z9=>?_)
 ·refine ak (ab 1 (ZX 1 (Zp (CS bq 2 om om) (Z1 (az (ZB 5 [4] (ic [1,1] (K5 rd bs pq g gb rs vs t (bq / 2) (Yd:=ob)) ?_)))))))
  rintro _ _ ⟨e2,p22,rfl,rfl,X4⟩
  have Xh:=X4.1
  exact ZG 2 b3 (YY e2) (ie (ZE ⟨(bq / 2),e2,p22,Xh,ob,ob,rfl,rfl,rfl⟩ (Zs 5 (fc (x:=.i (bq / 2:Nat)) li fl))))
 exact ax 0 (Zq 1 [0] (ZG 3 b2 (YY eQ) (ie (Yc (r3 [2,2] [Yb eQ] [0] [(b2,b2)] ⟨eQ,pq,rfl,rfl,⟨⟨Yi.1,by omega⟩,by omega⟩⟩ (lr _))))))
theorem Z9e (rd:Nat) (bs:LI) (p:Nat) (t:Int) (Yd:∀z∈bs,0<=z/\z<=255) (hp:p+14<=1000000000:=by exact ob):Zm 333 [.p rd 0,.i t] [YU rd bs p] (fun r h=>∃(e:Z2) (p2:Nat),r=Yb e/\h=[YU rd bs p2]/\(∀g:W5,SE g 9 e)/\p<=p2/\p2<=p+14):=by
 refine ZD 45 Tryz.func333 (ar (iA [.i 0,.i 0,nl] fun b1=>ie (ar (iL (Yv []) 0 3 fun v1=>Y0 0 [(10,Xz [])] (Zw [] (XR 6 0 []) (iA [.i 0,.i 0,nl] fun b2=>ZG 0 b2 (YY (Z2.mk 6 0 [])) (ie (X6 (YS (t==3) Zg (fun Z9=>?_) (fun Z9=>?_))))))))))
 ·refine ar (iL (Yv []) 0 3 fun v2=>Y0 0 [(14,Xz [])] (Zw [] (XR 6 2 []) (iA [.i 0,.i 0,nl] fun b3=>?_)))
  refine ZG 0 b3 (YY (Z2.mk 6 2 [])) (ie (aD 9 (ZV 6 9 [0,1,4] [0,0] (BM (fun fz gz F h=>∃(k1:Int) (b4:Nat),(Pk 9 k1)/\F=sF [0,4,6] fz [(7,.p b4 0)]/\h=[.obj b4 (YY (Z2.mk 6 3 [Z2.mk 6 2 [],Z2.mk 0 k1 [],Z2.mk 6 2 []])),.obj rd [Uv bs,.i (p+1:Nat)],Zi gz 0,Zi gz 1,Zi gz 2,Zi gz 3,Zi gz 4]) ?_ ?_))))
  ·refine Uj 2 7 ?_ ?_
   ·refine dc 2 [5] [0,0] [b3,b3] (V3 rd bs p 9 (Yd:=ob)) ?_
    rintro _ _ ⟨k1,rfl,rfl,ZT⟩
    have qhp1:=ZT.lt om
    refine Uj 3 7 ?_ ?_
    ·refine YD 3 [] [1,1] [b3,b3] (Be k1) (Uj 5 7 ?_ ?_)
     ·refine WB 5 [] [] [Yb (Z2.mk 6 2 []),Yb (Z2.mk 0 k1 []),Yb (Z2.mk 6 2 [])] (Yv [Z2.mk 6 2 [],Z2.mk 0 k1 [],Z2.mk 6 2 []]) (XO [Z2.mk 6 2 [],Z2.mk 0 k1 [],Z2.mk 6 2 []]).symm 3 3 fun v3=>Yy 3 3 [] [(21,Xz [Z2.mk 6 2 [],Z2.mk 0 k1 [],Z2.mk 6 2 []])] (Uj 6 7 ?_ ?_)
      ·exact YD 6 [] [] [] (XR 6 3 [Z2.mk 6 2 [],Z2.mk 0 k1 [],Z2.mk 6 2 []]) (Z8 7 (dA 7 [] [] [.i 0,.i 0,nl] fun b4=>Z8 8 (X5 8 0 [] [] b4 (YY (Z2.mk 6 3 [Z2.mk 6 2 [],Z2.mk 0 k1 [],Z2.mk 6 2 []])) (de (ZM ⟨k1,b4,(by assumption),rfl,rfl⟩ (wk [0,1,1,1,1,1,1] fl))))))
      exact dA 7 [] [] [.i 0,.i 0,nl] fun b5=>Z8 6 (YD 6 [] [] [] (XR 6 3 [Z2.mk 6 2 [],Z2.mk 0 k1 [],Z2.mk 6 2 []]) (Z8 8 (X5 8 0 [] [] b5 (YY (Z2.mk 6 3 [Z2.mk 6 2 [],Z2.mk 0 k1 [],Z2.mk 6 2 []])) (de (ZM ⟨k1,b5,(by assumption),rfl,rfl⟩ (wk [0,1,1,1,1,1,1] fl))))))
     exact dA 7 [1,1] [b3,b3] [.i 0,.i 0,nl] fun b6=>Z8 5 (WB 5 [] [] [Yb (Z2.mk 6 2 []),Yb (Z2.mk 0 k1 []),Yb (Z2.mk 6 2 [])] (Yv [Z2.mk 6 2 [],Z2.mk 0 k1 [],Z2.mk 6 2 []]) (XO [Z2.mk 6 2 [],Z2.mk 0 k1 [],Z2.mk 6 2 []]).symm 3 3 fun v4=>Yy 2 2 [] [(21,Xz [Z2.mk 6 2 [],Z2.mk 0 k1 [],Z2.mk 6 2 []])] (Z8 6 (YD 6 [] [] [] (XR 6 3 [Z2.mk 6 2 [],Z2.mk 0 k1 [],Z2.mk 6 2 []]) (Z8 8 (X5 8 1 [] [] b6 (YY (Z2.mk 6 3 [Z2.mk 6 2 [],Z2.mk 0 k1 [],Z2.mk 6 2 []])) (de (ZM ⟨k1,b6,(by assumption),rfl,rfl⟩ (wk [0,1,1,1,1,1,1] fl))))))))
    exact dA 7 [1,1] [b3,b3] [.i 0,.i 0,nl] fun b7=>Z8 3 (YD 3 [] [2,2] [b3,b3] (Be k1) (Z8 5 (WB 5 [] [] [Yb (Z2.mk 6 2 []),Yb (Z2.mk 0 k1 []),Yb (Z2.mk 6 2 [])] (Yv [Z2.mk 6 2 [],Z2.mk 0 k1 [],Z2.mk 6 2 []]) (XO [Z2.mk 6 2 [],Z2.mk 0 k1 [],Z2.mk 6 2 []]).symm 3 3 fun v5=>Yy 2 2 [] [(21,Xz [Z2.mk 6 2 [],Z2.mk 0 k1 [],Z2.mk 6 2 []])] (Z8 6 (YD 6 [] [] [] (XR 6 3 [Z2.mk 6 2 [],Z2.mk 0 k1 [],Z2.mk 6 2 []]) (Z8 8 (X5 8 1 [] [] b7 (YY (Z2.mk 6 3 [Z2.mk 6 2 [],Z2.mk 0 k1 [],Z2.mk 6 2 []])) (de (ZM ⟨k1,b7,(by assumption),rfl,rfl⟩ (wk [0,1,1,1,1,1,1] fl))))))))))
   refine dA 7 [0,0] [b3,b3] [.i 0,.i 0,nl] fun b8=>Z8 2 (dc 2 [6] [1,1] [b3,b3] (V3 rd bs p 9 (Yd:=ob)) ?_)
   rintro _ _ ⟨k2,rfl,rfl,Yg⟩
   have qhp2:=Yg.lt om
   exact Z8 3 (YD 3 [] [2,2] [b3,b3] (Be k2) (Z8 5 (WB 5 [] [] [Yb (Z2.mk 6 2 []),Yb (Z2.mk 0 k2 []),Yb (Z2.mk 6 2 [])] (Yv [Z2.mk 6 2 [],Z2.mk 0 k2 [],Z2.mk 6 2 []]) (XO [Z2.mk 6 2 [],Z2.mk 0 k2 [],Z2.mk 6 2 []]).symm 3 3 fun v6=>Yy 2 2 [] [(21,Xz [Z2.mk 6 2 [],Z2.mk 0 k2 [],Z2.mk 6 2 []])] (Z8 6 (YD 6 [] [] [] (XR 6 3 [Z2.mk 6 2 [],Z2.mk 0 k2 [],Z2.mk 6 2 []]) (Z8 8 (X5 8 2 [] [] b8 (YY (Z2.mk 6 3 [Z2.mk 6 2 [],Z2.mk 0 k2 [],Z2.mk 6 2 []])) (de (ZM ⟨k2,b8,(by assumption),rfl,rfl⟩ (wk [0,1,1,1,1,1,1] fl))))))))))
  rintro F h ⟨k1,b4,ZT,rfl,rfl⟩
  have qhp1:=ZT.lt om
  refine aD 8 (ZV 5 8 [0,1,4] [0,2] (Z8 2 (dc 2 [1] [1,0] [b3,b4] (V3 rd bs (p+1) 9 (Yd:=ob)) ?_)))
  rintro _ _ ⟨k3,rfl,rfl,YJ⟩
  have qhp3:=YJ.lt om
  exact Z8 3 (YD 3 [] [2,1] [b3,b4] (Be k3) (Z8 5 (WB 5 [] [] [Yb (Z2.mk 6 3 [Z2.mk 6 2 [],Z2.mk 0 k1 [],Z2.mk 6 2 []]),Yb (Z2.mk 0 k3 []),Yb (Z2.mk 6 2 [])] (Yv [Z2.mk 6 3 [Z2.mk 6 2 [],Z2.mk 0 k1 [],Z2.mk 6 2 []],Z2.mk 0 k3 [],Z2.mk 6 2 []]) (XO [Z2.mk 6 3 [Z2.mk 6 2 [],Z2.mk 0 k1 [],Z2.mk 6 2 []],Z2.mk 0 k3 [],Z2.mk 6 2 []]).symm 3 3 fun v7=>Yy 2 2 [] [(28,Xz [Z2.mk 6 3 [Z2.mk 6 2 [],Z2.mk 0 k1 [],Z2.mk 6 2 []],Z2.mk 0 k3 [],Z2.mk 6 2 []])] (Z8 6 (YD 6 [] [] [] (XR 6 3 [Z2.mk 6 3 [Z2.mk 6 2 [],Z2.mk 0 k1 [],Z2.mk 6 2 []],Z2.mk 0 k3 [],Z2.mk 6 2 []]) (Z8 7 (X5 7 7 [] [] b1 (YY (Z2.mk 6 3 [Z2.mk 6 3 [Z2.mk 6 2 [],Z2.mk 0 k1 [],Z2.mk 6 2 []],Z2.mk 0 k3 [],Z2.mk 6 2 []])) (de (Yc (r3 [2] [Yb (Z2.mk 6 3 [Z2.mk 6 3 [Z2.mk 6 2 [],Z2.mk 0 k1 [],Z2.mk 6 2 []],Z2.mk 0 k3 [],Z2.mk 6 2 []])] [0] [(b1,b1)] ⟨(Z2.mk 6 3 [Z2.mk 6 3 [Z2.mk 6 2 [],Z2.mk 0 k1 [],Z2.mk 6 2 []],Z2.mk 0 k3 [],Z2.mk 6 2 []]),(p+1)+1,rfl,rfl,⟨fun g=>SE.three (s1:=4) (s2:=1) (s3:=1) om om (SE.three (s1:=1) (s2:=1) (s3:=1) om om (SE.nil om om om) (SE.int om om) (SE.nil om om om) om) (SE.int om om) (SE.nil om om om) om,by omega⟩⟩ (lr _)))))))))))
 refine ak (Zq 1 [0] (iA [.i 0,.i 0,nl] fun b9=>ZG 0 b9 (YY (Z2.mk 6 0 [])) (ie (YR 1 (ic [4] (V3 rd bs p 3 (Yd:=ob)) ?_)))))
 rintro _ _ ⟨k4,rfl,rfl,YQ⟩
 have qhp4:=YQ.lt om
 refine ia ((1+k4)) ((1)+(k4)) (Z1 (ab 0 (Y1 (fun fz gz m F h=>∃(j:Int) (eQ:Z2) (pq:Nat),(0<=j/\j<=3)/\(∀g:W5,SE g (7-2*j.toNat) eQ)/\(p+1<=pq/\pq+4*j.toNat<=p+13)/\F=sF [0,4,8] fz [(9,.i j)]/\h=[YU rd bs pq,.obj b9 (YY eQ),Zi gz 4]/\m=j.toNat) _ _ _ ⟨(1+k4),(Z2.mk 6 0 []),p+1,ob,(fun g=>SE.nil om om om),ob,rfl,rfl,rfl⟩ (wk [0,0,2] fl) ?_)))
 rintro m F h ⟨j,eQ,pq,Yi,Zd,Zz,rfl,rfl,rfl⟩
 refine X6 (Y3 (j>0) (fun Zh=>?_) (fun Zh=>?_))
 ·refine ak (aq (ab 1 (aE 7 (ZV 5 7 [0,3] [1] (Z8 1 (dc 1 [0] [0] [b9] (PH rd bs pq (Yd:=ob)) ?_))))))
  rintro _ _ ⟨z1,rfl,rfl,X4⟩
  have hz:=X4
  exact Z8 2 (YD 2 [] [1] [b9] (Be z1) (Z8 4 (WB 4 [] [] [Yb (Z2.mk 0 z1 []),Yb eQ] (Yv [Z2.mk 0 z1 [],eQ]) (XO [Z2.mk 0 z1 [],eQ]).symm 2 3 fun v8=>Yy 2 2 [] [(42,Xz [Z2.mk 0 z1 [],eQ])] (Z8 5 (YD 5 [] [] [] (XR 6 1 [Z2.mk 0 z1 [],eQ]) (Z8 6 (X5 6 2 [] [] b9 (YY (Z2.mk 6 1 [Z2.mk 0 z1 [],eQ])) (de (az (Z0 1 (ia ((j-1)) ((j)-(1)) (Z1 (ZE ⟨(j-1),(Z2.mk 6 1 [Z2.mk 0 z1 [],eQ]),pq+4,ob,(fun g=>SE.two om om (SE.int (q:=1) om om) (Zd g) om),ob,rfl,rfl,rfl⟩ (wk [2,0,1] fl))))))))))))))
 exact ax 0 (Zq 1 [1] (ZG 2 b1 (YY eQ) (ie (Yc (r3 [1] [Yb eQ] [0] [(b1,b1)] ⟨eQ,pq,rfl,rfl,⟨fun g=>(⟨(Zd g).1,by have:=(Zd g).2;omega⟩:SE g 9 _),by omega⟩⟩ (lr _))))))
theorem Z9h (rd:Nat) (bs:LI) (p:Nat) (g:W5) (gb:Nat) (rs:List Func) (Yd:∀z∈bs,0<=z/\z<=255) (hp:p+1600<=1000000000:=by exact ob) (hg:GP g:=by exact ob) (Wf:g.funcs <+: rs:=by exact ob):Zm 306 [.p rd 0,.agg (Wp g gb)] [YU rd bs p,XP gb rs] (fun r h=>∃(e:Z2) (p2:Nat),r=Yb e/\h=[YU rd bs p2,XP gb rs]/\GE g 0 200 e/\p<=p2/\p2<=p+1600):=by
 have hbv:=Ew
 refine ZD 27 Tryz.func306 (ar (iA (Wp g gb) fun b1=>iA [.i 0,.i 0,nl] fun b2=>ie (ZX 1 (iL (Z6 [1,1,3]) 3 1 fun v1=>Y0 0 [(8,Z4 [1,1,3])] (ic [3] (JA rd bs p [1,1,3] (Yd:=ob)) ?_)))))
 rintro _ _ ⟨z1,rfl,rfl,ZT⟩
 have hz:=C8 (a:=1) (b:=3) ZT (by decide)
 refine Z1 (Zq 3 [3] (iL (Z6 [z1]) 1 1 fun v2=>Y0 0 [(13,Z4 [z1])] (ic [1,4] (K5 rd bs (p+1) g gb rs [z1] 0 16 (Yd:=ob) (hv:=(by simp))) ?_)))
 rintro _ _ ⟨e1,p21,rfl,rfl,Yg⟩
 have Xh:=Yg.1
 have K6:=Yg.2
 rw [hbv.2.2.2.1] at Xh
 refine iA [.i 0,.i 0,nl] fun b3=>ZG 0 b3 (YY e1) (ie (YR 1 (ic [1] (V3 rd bs p21 3 (Yd:=ob)) ?_)))
 rintro _ _ ⟨k1,rfl,rfl,YJ⟩
 have qhp3:=YJ.lt om
 refine Z1 (Xw (fun fz gz F h=>∃(eQ:Z2),(GE g 1 151 eQ)/\F=sF [0,4,5,6] fz []/\h=[Zi gz 0,.obj b3 (YY eQ),Zi gz 2,Zi gz 5]) ?_ ?_)
 ·refine ac (k1==0) Zg (fun Z9=>?_) (fun Z9=>?_)
  ·exact az (ZB 1 [1] (UG [Yb e1] (Yv [e1]) (XO [e1]).symm 1 3 fun v3=>Y0 0 [(19,Xz [e1])] (Zw [] (XR 5 0 [e1]) (ZG 2 b3 (YY (Z2.mk 5 0 [e1])) (ie (ZM ⟨(Z2.mk 5 0 [e1]),(GE.one om om Xh om),rfl,rfl⟩ (wk [2,0,1,3] fl)))))))
  exact ak (ZM ⟨e1,(GE.le Xh om),rfl,rfl⟩ (wk [0,0,0,2] fl))
 rintro F h ⟨eQ,Av,rfl,rfl⟩
 refine aD 7 (ZV 4 7 [0,1,3] [1] (Z8 2 (dc 2 [0] [0] [b3] (Z9e rd bs (p21+1) z1 (Yd:=ob)) ?_)))
 rintro _ _ ⟨e2,p22,rfl,rfl,YQ⟩
 have hli:=YQ.1
 exact Z8 4 (WB 4 [] [] [Yb e2,Yb eQ] (Yv [e2,eQ]) (XO [e2,eQ]).symm 2 3 fun v4=>Yy 2 2 [] [(25,Xz [e2,eQ])] (Z8 5 (YD 5 [] [] [] (XR 13 0 [e2,eQ]) (Z8 6 (X5 6 4 [] [] b2 (YY (Z2.mk 13 0 [e2,eQ])) (de (Yc (r3 [2,3] [Yb (Z2.mk 13 0 [e2,eQ])] [0] [(b2,b2)] ⟨(Z2.mk 13 0 [e2,eQ]),p22,rfl,rfl,⟨GE.letS ((hli g).ge (X2 _)) Av om,by omega⟩⟩ (lr _)))))))))
theorem Z9p (rd:Nat) (bs:LI) (p:Nat) (g:W5) (gb:Nat) (rs:List Func) (f:Func) (i:Int) (w:Int) (Yd:∀z∈bs,0<=z/\z<=255) (hp:p+1000<=1000000000:=by exact ob) (hg:GP g:=by exact ob) (Wf:g.funcs <+: rs:=by exact ob) (hi:0<=i:=by exact ob) (hf:g.funcs[i.toNat]? = some f:=by exact ob) (hw:0<=w/\w<f.params.length:=by exact ob):Zm 307 [.p rd 0,.agg (Wp g gb),.i i,.i w] [YU rd bs p,XP gb rs] (fun r h=>∃(e:Z2) (p2:Nat),r=Yb e/\h=[YU rd bs p2,XP gb rs]/\GE g f.params.length 200 e/\p<=p2/\p2<=p+1000):=by
 obtain ⟨hil,_⟩:=Xu.1 hf
 have hgl:=hg.len
 have hso:=(hg.sigs f (Y4 hf)).bd
 have hbv:=Ew
 refine ZD 136 Tryz.func307 (ar (iA (Wp g gb) fun b1=>iA [.i 0,.i 0,nl] fun b2=>ie (Zq 3 [1] (Zp (Vk gb g.funcs.length 4 i.toNat 5 i) (Z0 1 (Ut (Ul 3 gb 4 4 5 (i.toNat * 5+0) (Zu (Xt rs)) [Z4 f.params] 23 (Z4 f.params) (UC Wf hf 0 rfl (Vd rfl))) (Z1 (ZX 1 (iw (Y9 f.params) (Z1 (ZX 1 (iL (Z6 [0,1]) 2 1 fun v1=>Y0 0 [(26,Z4 [0,1])] (ic [] (TA f.params [0,1]) ?_)))))))))))))
 rintro _ _ ⟨v2,rfl,rfl⟩
 refine Z1 (ar (iL (Yv []) 0 3 fun v3=>?_))
 refine Z1 (Y5 (ab 0 (Y1 (fun fz gz m F h=>∃(k:Nat) (ys:List Z2) (u:Value) (pq:Nat),(k<=f.params.length)/\(ys.length=k)/\(∀e∈ys,GE g (f.params.length+2) 3 e)/\(p<=pq/\pq<=p+k)/\F=sF [0,2,3,5,8,9,10] fz [(11,Z4 (f.params++[0,1])),(12,QJ ys u),(13,.i k)]/\h=[Zi gz 3,Zi gz 4,YU rd bs pq,Zi gz 6,.tail u 3]/\m=f.params.length-k) _ _ _ ⟨0,[],v3,p,ob,ob,(fun e he=>by cases he),ob,rfl,rfl,rfl⟩ (wk [3,3,3,3,0] (fc (x:=Y6 (f.params++[0,1]) v2) (Zl.forget _ _) (fr (Ya fl)))) ?_)))
 rintro m F h ⟨k,ys,u,pq,Yi,Zd,Zz,YA,rfl,rfl,rfl⟩
 refine X6 (Y3 ((k:Int)<(f.params.length:Int)) (fun Z9=>?_) (fun Z9=>?_))
 ·refine ak (aq (ab 1 (ar (YS ((k:Int)==w) Zg (fun Zh=>?_) (fun Zh=>?_)))))
  ·exact az (Z0 2 (ia (((f.params.length+1:Nat):Int)) (((f.params.length:Int))+(1)) (Zw [] (Qn ((f.params.length+1:Nat):Int)) (UG [Yb (Z2.mk 12 ((f.params.length+1:Nat):Int) [])] (Yv [(Z2.mk 12 ((f.params.length+1:Nat):Int) [])]) (XO [(Z2.mk 12 ((f.params.length+1:Nat):Int) [])]).symm 1 3 fun v4=>Y0 0 [(41,Xz [(Z2.mk 12 ((f.params.length+1:Nat):Int) [])])] (ip 5 (Yv (ys++[(Z2.mk 12 ((f.params.length+1:Nat):Int) [])])) (Yv ys) (Yv [(Z2.mk 12 ((f.params.length+1:Nat):Int) [])]) u none 3 (T7 _) (T7 _) (An _) (by simp<;>omega) (by simp [Am,Yv]) fun v5=>Z1 (az (Z0 1 (ZC k (Z1 (ZE ⟨k+1,(ys++[(Z2.mk 12 ((f.params.length+1:Nat):Int) [])]),v5,pq,ob,ob,(XC Zz (GE.var om om om)),ob,rfl,rfl,rfl⟩ (wk [2,2,2,2,0] (fw (ZI k fl)))))))))))))
  refine aq (Xw (fun fz gz F h=>∃(wb:Bool) (p5:Nat),(pq<=p5/\p5<=pq+1)/\F=sF [0,2,3,5,8,9,10,11,12,13] fz [(52,.b wb)]/\h=[Zi gz 0,Zi gz 1,YU rd bs p5,Zi gz 3,Zi gz 4]) ?_ ?_)
  ·refine az (Z0 2 ?_)
   obtain ⟨x1,Z3⟩:=Zt f.params k om
   refine Zp (Ze none (k:Int) 1 (Y7 Z3)) (Z0 3 (ib (b:=(x1==0)) 48 (fun Zb=>?_) (fun Zb=>?_)))
   ·refine Z0 1 (ic [2] (V3 rd bs pq 2 (Yd:=ob)) ?_)
    rintro _ _ ⟨k1,rfl,rfl,Yg⟩
    have qhp2:=Yg.lt om
    exact Z1 (ZM ⟨(k1==0),pq+1,om,rfl,rfl⟩ (wk [1,1,0,0,0] fl))
   exact Z1 (ZM ⟨false,pq,ob,rfl,rfl⟩ (Zs 5 fl))
  rintro F h ⟨wb,p5,kR10_0,rfl,rfl⟩
  refine ac wb Iff.rfl (fun ZA=>?_) (fun ZA=>?_)
  ·exact az (Z0 2 (Zw [] (Qn (k:Int)) (Z0 1 (Zw [] (Qn (f.params.length:Int)) (UG [Yb (Z2.mk 12 (k:Int) []),Yb (Z2.mk 12 (f.params.length:Int) [])] (Yv [(Z2.mk 12 (k:Int) []),(Z2.mk 12 (f.params.length:Int) [])]) (XO [(Z2.mk 12 (k:Int) []),(Z2.mk 12 (f.params.length:Int) [])]).symm 2 3 fun v6=>Y0 0 [(58,Xz [(Z2.mk 12 (k:Int) []),(Z2.mk 12 (f.params.length:Int) [])])] (Zw [] (XR 1 0 [(Z2.mk 12 (k:Int) []),(Z2.mk 12 (f.params.length:Int) [])]) (UG [Yb (Z2.mk 1 0 [(Z2.mk 12 (k:Int) []),(Z2.mk 12 (f.params.length:Int) [])])] (Yv [(Z2.mk 1 0 [(Z2.mk 12 (k:Int) []),(Z2.mk 12 (f.params.length:Int) [])])]) (XO [(Z2.mk 1 0 [(Z2.mk 12 (k:Int) []),(Z2.mk 12 (f.params.length:Int) [])])]).symm 1 3 fun v7=>Y0 0 [(60,Xz [(Z2.mk 1 0 [(Z2.mk 12 (k:Int) []),(Z2.mk 12 (f.params.length:Int) [])])])] (ip 6 (Yv (ys++[(Z2.mk 1 0 [(Z2.mk 12 (k:Int) []),(Z2.mk 12 (f.params.length:Int) [])])])) (Yv ys) (Yv [(Z2.mk 1 0 [(Z2.mk 12 (k:Int) []),(Z2.mk 12 (f.params.length:Int) [])])]) u none 3 (T7 _) (T7 _) (An _) (by simp<;>omega) (by simp [Am,Yv]) fun v8=>Z1 (az (Z0 1 (ZC k (Z1 (ZE ⟨k+1,(ys++[(Z2.mk 1 0 [(Z2.mk 12 (k:Int) []),(Z2.mk 12 (f.params.length:Int) [])])]),v8,p5,ob,ob,(XC Zz (GE.two (s1:=1) (s2:=1) om om (GE.var om om om) (GE.var om om om) om)),ob,rfl,rfl,rfl⟩ (wk [3,3,3,3,0] (fw (ZI k fl))))))))))))))))
  exact az (Z0 2 (Zw [] (Qn (k:Int)) (UG [Yb (Z2.mk 12 (k:Int) [])] (Yv [(Z2.mk 12 (k:Int) [])]) (XO [(Z2.mk 12 (k:Int) [])]).symm 1 3 fun v9=>Y0 0 [(65,Xz [(Z2.mk 12 (k:Int) [])])] (ip 5 (Yv (ys++[(Z2.mk 12 (k:Int) [])])) (Yv ys) (Yv [(Z2.mk 12 (k:Int) [])]) u none 3 (T7 _) (T7 _) (An _) (by simp<;>omega) (by simp [Am,Yv]) fun v10=>Z1 (az (Z0 1 (ZC k (Z1 (ZE ⟨k+1,(ys++[(Z2.mk 12 (k:Int) [])]),v10,p5,ob,ob,(XC Zz (GE.var om om om)),ob,rfl,rfl,rfl⟩ (wk [2,2,2,2,0] (fw (ZI k fl))))))))))))
 refine ax 0 (ar (Y0 2 [(68,Xz ys)] (Zw [] (XR 9 i ys) (iA [.i 0,.i 0,nl] fun b3=>ZG 0 b3 (YY (Z2.mk 9 i ys)) (ie (Zq 1 [0] (iA [.i 0,.i 0,nl] fun b4=>?_)))))))
 refine ZG 0 b4 (YY (Z2.mk 9 i ys)) (ie (aq (aq (Xw (fun fz gz F h=>∃(wb:Bool) (p5:Nat),(pq<=p5/\p5<=pq+1)/\F=sF [0,2,3,5,8,9,10,11,14,15] fz [(82,.b wb)]/\h=[Zi gz 0,Zi gz 1,Zi gz 2,Zi gz 3,YU rd bs p5,Zi gz 5]) ?_ ?_))))
 ·refine az (ZB 3 [3] (Zp (Vk gb g.funcs.length 4 i.toNat 5 i) (Z0 1 (Ut (Ul 5 gb 4 4 5 (i.toNat * 5+1) (Zu (Xt rs)) [.i f.result] 3 (.i f.result) (UC Wf hf 1 rfl (Vd rfl))) (Z0 2 (ib (b:=(f.result==1)) 78 (fun Zy=>?_) (fun Zy=>?_)))))))
  ·refine Z0 1 (ic [4] (V3 rd bs pq 5 (Yd:=ob)) ?_)
   rintro _ _ ⟨k2,rfl,rfl,X4⟩
   have qhp5:=X4.lt om
   exact Z1 (ZM ⟨(decide (k2>0)),pq+1,ob,rfl,rfl⟩ (wk [1,1,1,1,0,0] fl))
  exact Z1 (ZM ⟨false,pq,ob,rfl,rfl⟩ (Zs 6 fl))
 rintro F h ⟨wb,p5,kR15_0,rfl,rfl⟩
 refine Xw (fun fz gz F h=>∃(eQ:Z2) (p6:Nat),(GE g (f.params.length+2) 41 eQ)/\(p5<=p6/\p6<=p5+302)/\F=sF [0,2,3,5,8,9,15] fz []/\h=[.obj b4 (YY eQ),Zi gz 2,Zi gz 3,YU rd bs p6,Zi gz 5]) ?_ ?_
 ·refine ac wb Iff.rfl (fun Yk=>?_) (fun Yk=>?_)
  ·refine Zq 3 [3] (ic [4,4] (K5 rd bs p5 g gb rs (f.params++[0,1]) 0 4 (Yd:=ob) (hv:=(by first|omega|(simp only [ZH,Ys,YF];omega)))) ?_)
   rintro _ _ ⟨e1,p21,rfl,rfl,Wx⟩
   have Xh:=Wx.1
   have K6:=Wx.2
   try rw [ZH] at Xh
   rw [hbv.2.1] at Xh
   refine iA [.i 0,.i 0,nl] fun b5=>?_
   refine ZG 0 b5 (YY e1) (ie (aq (aq (Xw (fun fz gz F h=>∃(wc:Bool),(True)/\F=sF [0,2,3,5,8,9,10,14,15,16] fz [(94,.b wc)]/\h=gz) ?_ ?_))))
   ·refine az (Z0 3 (ib (b:=(decide ((f.params.length:Int)>1))) 89 (fun Yf=>?_) (fun Yf=>?_)))
    ·refine Z0 1 ?_
     obtain ⟨x2,Zv⟩:=Zt f.params 0 om
     exact Zp (Ze none 0 1 (Y7 Zv)) (Z1 (ZM ⟨(x2==2),ob,rfl,rfl⟩ (Zs 7 fl)))
    exact Z1 (ZM ⟨false,ob,rfl,rfl⟩ (Zs 7 fl))
   rintro F h ⟨wc,kR17_0,rfl,rfl⟩
   refine Xw (fun fz gz F h=>∃(eA:Z2),(GE g (f.params.length+2) 30 eA)/\F=sF [0,2,3,5,8,9,14,15,16] fz []/\h=[.obj b5 (YY eA),Zi gz 1,Zi gz 2,Zi gz 3,Zi gz 4,Zi gz 5,Zi gz 6]) ?_ ?_
   ·refine ac wc Iff.rfl (fun YI=>?_) (fun YI=>?_)
    ·exact az (Zw [] (Qn 0) (Z0 1 (Zw [] (Qn (f.params.length:Int)) (UG [Yb (Z2.mk 12 0 []),Yb (Z2.mk 12 (f.params.length:Int) [])] (Yv [Z2.mk 12 0 [],(Z2.mk 12 (f.params.length:Int) [])]) (XO [Z2.mk 12 0 [],(Z2.mk 12 (f.params.length:Int) [])]).symm 2 3 fun v11=>Y0 0 [(98,Xz [Z2.mk 12 0 [],(Z2.mk 12 (f.params.length:Int) [])])] (Zw [] (XR 11 0 [Z2.mk 12 0 [],(Z2.mk 12 (f.params.length:Int) [])]) (ZG 1 b5 (YY (Z2.mk 11 0 [Z2.mk 12 0 [],(Z2.mk 12 (f.params.length:Int) [])])) (ie (ZM ⟨(Z2.mk 11 0 [Z2.mk 12 0 [],(Z2.mk 12 (f.params.length:Int) [])]),(GE.two (s1:=1) (s2:=1) om om (GE.var om om om) (GE.var om om om) om),rfl,rfl⟩ (wk [0,1,1,1,1,1,1] fl)))))))))
    exact ak (ZM ⟨e1,Xh,rfl,rfl⟩ (Zs 7 fl))
   rintro F h ⟨eA,Zbg,rfl,rfl⟩
   exact az (ZB 2 [0,4] (UG [Yb eA,Yb (Z2.mk 9 i ys)] (Yv [eA,Z2.mk 9 i ys]) (XO [eA,Z2.mk 9 i ys]).symm 2 3 fun v12=>Y0 0 [(102,Xz [eA,Z2.mk 9 i ys])] (Zw [] (XR 6 1 [eA,Z2.mk 9 i ys]) (ZG 4 b4 (YY (Z2.mk 6 1 [eA,Z2.mk 9 i ys])) (ie (ZM ⟨(Z2.mk 6 1 [eA,Z2.mk 9 i ys]),p21,(GE.two (s1:=30) (s2:=10) om om Zbg (GE.node (L:=f.params.length) (s:=3) (q:=10) om (fun _=>by omega) om Zz om om om) om),ob,rfl,rfl⟩ (wk [0,5,5,2,2] fl)))))))
  refine Zq 3 [3] (Zp (Vk gb g.funcs.length 4 i.toNat 5 i) (Z0 1 (Ut (Ul 5 gb 4 4 5 (i.toNat * 5+1) (Zu (Xt rs)) [.i f.result] 3 (.i f.result) (UC Wf hf 1 rfl (Vd rfl))) (YS (f.result==0) Zg (fun X9=>?_) (fun X9=>?_)))))
  ·refine aE 11 (ZV 6 11 [0,3,4,5,7] [3,1] (Z8 1 (dL 1 [1,3] [b3,b1] (Z6 [1,2]) 2 1 fun v13=>Yy 5 5 [] [(112,Z4 [1,2])] (Z8 2 (dc 2 [5] [1,3] [b3,b1] (JA rd bs p5 [1,2] (Yd:=ob)) ?_)))))
   rintro _ _ ⟨z1,rfl,rfl,Ua⟩
   have hz:=C8 (a:=1) (b:=2) Ua (by decide)
   refine Z8 6 (dc 6 [0,5] [1] [b3] (K5 rd bs (p5+1) g gb rs (f.params++[0,1]) 0 4 (Yd:=ob) (hv:=(by first|omega|(simp only [ZH,Ys,YF];omega)))) ?_)
   rintro _ _ ⟨e2,p22,rfl,rfl,UF⟩
   have Xh:=UF.1
   have K6:=UF.2
   try rw [ZH] at Xh
   rw [hbv.2.1] at Xh
   exact Z8 8 (WB 8 [] [] [Yb e2,Yb (Z2.mk 9 i ys)] (Yv [e2,Z2.mk 9 i ys]) (XO [e2,Z2.mk 9 i ys]).symm 2 3 fun v14=>Yy 2 2 [] [(119,Xz [e2,Z2.mk 9 i ys])] (Z8 9 (YD 9 [] [] [] (XR z1 0 [e2,Z2.mk 9 i ys]) (Z8 10 (X5 10 4 [] [] b4 (YY (Z2.mk z1 0 [e2,Z2.mk 9 i ys])) (de (ZM ⟨(Z2.mk z1 0 [e2,Z2.mk 9 i ys]),p22,(GE.two (s1:=30) (s2:=10) om om Xh (GE.node (L:=f.params.length) (s:=3) (q:=10) om (fun _=>by omega) om Zz om om om) om),ob,rfl,rfl⟩ (wk [0,5,5,1,1] fl))))))))
  exact ak (ZM ⟨(Z2.mk 9 i ys),p5,(GE.le (GE.node (L:=f.params.length) (s:=3) (q:=10) om (fun _=>by omega) om Zz om om om) om),ob,rfl,rfl⟩ (wk [0,1,1,1,1] fl))
 rintro F h ⟨eQ,p6,J7,F4,rfl,rfl⟩
 refine aD 16 (ZV 9 16 [0,2,3,4,5,6,7] [2,2] (dx 8 (Vk gb g.funcs.length 4 i.toNat 5 i) (Zo 7 8 [9] (TU 10 (Ul 4 gb 4 4 5 (i.toNat * 5+1) (Zu (Xt rs)) [.i f.result] 3 (.i f.result) (UC Wf hf 1 rfl (Vd rfl))) (ZV 5 6 [12] [0] (Z8 1 (YD 1 [] [0,4,2,2] [b4,gb,b1,b1] (Qn w) (Z8 11 (dc 11 [3,3] [0] [b4] (K5 rd bs p6 g gb rs f.params f.result 4 (Yd:=ob) (hv:=(by first|omega|(simp only [ZH,Ys,YF];omega)))) ?_)))))))))
 rintro _ _ ⟨e3,p23,rfl,rfl,Ur⟩
 have Xh:=Ur.1
 have K6:=Ur.2
 try rw [ZH] at Xh
 rw [hbv.2.1] at Xh
 exact Z8 13 (WB 13 [] [] [Yb (Z2.mk 12 w []),Yb e3,Yb eQ] (Yv [Z2.mk 12 w [],e3,eQ]) (XO [Z2.mk 12 w [],e3,eQ]).symm 3 3 fun v15=>Yy 2 2 [] [(134,Xz [Z2.mk 12 w [],e3,eQ])] (Z8 14 (YD 14 [] [] [] (XR 8 1 [Z2.mk 12 w [],e3,eQ]) (Z8 15 (X5 15 4 [] [] b2 (YY (Z2.mk 8 1 [Z2.mk 12 w [],e3,eQ])) (de (Yc (r3 [2,2] [Yb (Z2.mk 8 1 [Z2.mk 12 w [],e3,eQ])] [0] [(b2,b2)] ⟨(Z2.mk 8 1 [Z2.mk 12 w [],e3,eQ]),p23,rfl,rfl,⟨GE.matchL hg (s1:=1) (s2:=30) (s3:=41) (GE.var om om om) Xh J7 om,by omega⟩⟩ (lr _)))))))))
theorem Z9q (rd:Nat) (bs:LI) (p:Nat) (g:W5) (gb:Nat) (rs:List Func) (f:Func) (i:Int) (Yd:∀z∈bs,0<=z/\z<=255) (hp:p+1000<=1000000000:=by exact ob) (hg:GP g:=by exact ob) (Wf:g.funcs <+: rs:=by exact ob) (hi:0<=i:=by exact ob) (hf:g.funcs[i.toNat]? = some f:=by exact ob) (h0:0<f.params.length:=by exact ob):Zm 308 [.p rd 0,.agg (Wp g gb),.i i] [YU rd bs p,XP gb rs] (fun r h=>∃(e:Z2) (p2:Nat),r=Yb e/\h=[YU rd bs p2,XP gb rs]/\GE g f.params.length 200 e/\p<=p2/\p2<=p+1000):=by
 obtain ⟨hil,_⟩:=Xu.1 hf
 have hgl:=hg.len
 have hso:=(hg.sigs f (Y4 hf)).bd
 have hbv:=Ew
 refine ZD 96 Tryz.func308 (ar (iA (Wp g gb) fun b1=>iA [.i 0,.i 0,nl] fun b2=>ie (Zq 3 [1] (Zp (Vk gb g.funcs.length 4 i.toNat 5 i) (Z0 1 (Ut (Ul 3 gb 4 4 5 (i.toNat * 5+0) (Zu (Xt rs)) [Z4 f.params] 23 (Z4 f.params) (UC Wf hf 0 rfl (Vd rfl))) (Z1 (ZX 1 (iw (Y9 f.params) (Z1 (ZX 1 (Zw [] (Qn (f.params.length:Int)) (UG [Yb (Z2.mk 12 (f.params.length:Int) [])] (Yv [(Z2.mk 12 (f.params.length:Int) [])]) (XO [(Z2.mk 12 (f.params.length:Int) [])]).symm 1 3 fun v1=>Z1 (ZX 1 (ia (((f.params.length+2:Nat):Int)) (((f.params.length:Int))+(2)) (Zw [] (Qn ((f.params.length+2:Nat):Int)) (UG [Yb (Z2.mk 12 ((f.params.length+2:Nat):Int) [])] (Yv [(Z2.mk 12 ((f.params.length+2:Nat):Int) [])]) (XO [(Z2.mk 12 ((f.params.length+2:Nat):Int) [])]).symm 1 3 fun v2=>?_)))))))))))))))))
 refine Z1 (Y5 (ab 0 (Y1 (fun fz gz m F h=>∃(k:Nat) (ys:List Z2) (u:Value) (zs:List Z2) (w:Value),(1<=k/\k<=f.params.length)/\(ys.length=k)/\(zs.length=k)/\(∀e∈ys,GE g (f.params.length+3) 1 e)/\(∀e∈zs,GE g (f.params.length+3) 1 e)/\F=sF [0,2,4,6,7,8] fz [(9,QJ ys u),(10,QJ zs w),(11,.i k)]/\h=[Zi gz 2,Zi gz 3,Zi gz 4,Zi gz 5,.tail u 3,.tail w 3]/\m=f.params.length-k) _ _ _ ⟨1,[(Z2.mk 12 (f.params.length:Int) [])],v1,[(Z2.mk 12 ((f.params.length+2:Nat):Int) [])],v2,ob,ob,ob,(Iz (GE.var om om om)),(Iz (GE.var om om om)),rfl,rfl,rfl⟩ (wk [2,2,2,2,1,0] (fw (fc (x:=.i 1) li fl))) ?_)))
 rintro m F h ⟨k,ys,u,zs,w,Yi,Zd,Zz,YA,Wb,rfl,rfl,rfl⟩
 refine X6 (Y3 ((k:Int)<(f.params.length:Int)) (fun Z9=>?_) (fun Z9=>?_))
 ·exact ak (aq (ab 1 (ZX 2 (Zw [] (Qn (k:Int)) (UG [Yb (Z2.mk 12 (k:Int) [])] (Yv [(Z2.mk 12 (k:Int) [])]) (XO [(Z2.mk 12 (k:Int) [])]).symm 1 3 fun v3=>Y0 0 [(38,Xz [(Z2.mk 12 (k:Int) [])])] (ip 5 (Yv (ys++[(Z2.mk 12 (k:Int) [])])) (Yv ys) (Yv [(Z2.mk 12 (k:Int) [])]) u none 3 (T7 _) (T7 _) (An _) (by simp<;>omega) (by simp [Am,Yv]) fun v4=>Z1 (az (Z0 2 (Zw [] (Qn (k:Int)) (UG [Yb (Z2.mk 12 (k:Int) [])] (Yv [(Z2.mk 12 (k:Int) [])]) (XO [(Z2.mk 12 (k:Int) [])]).symm 1 3 fun v5=>Y0 0 [(43,Xz [(Z2.mk 12 (k:Int) [])])] (ip 7 (Yv (zs++[(Z2.mk 12 (k:Int) [])])) (Yv zs) (Yv [(Z2.mk 12 (k:Int) [])]) w none 3 (T7 _) (T7 _) (An _) (by simp<;>omega) (by simp [Am,Yv]) fun v6=>Z1 (az (Z0 1 (ZC k (Z1 (ZE ⟨k+1,(ys++[(Z2.mk 12 (k:Int) [])]),v4,(zs++[(Z2.mk 12 (k:Int) [])]),v6,ob,ob,ob,(XC YA (GE.var om om om)),(XC Wb (GE.var om om om)),rfl,rfl,rfl⟩ (wk [4,4,4,4,2,0] (fw (ZI k fl)))))))))))))))))))
 refine ax 0 (ar (Y0 2 [(46,Xz ys)] (Zw [] (XR 9 i ys) (iA [.i 0,.i 0,nl] fun b3=>ZG 0 b3 (YY (Z2.mk 9 i ys)) (ie (ar (Y0 2 [(49,Xz zs)] (Zw [] (XR 9 i zs) (iA [.i 0,.i 0,nl] fun b4=>?_)))))))))
 refine ZG 0 b4 (YY (Z2.mk 9 i zs)) (ie (aD 14 (ZV 9 14 [0,1,2,3,7] [1,3,0] (BM (fun fz gz F h=>∃(e1:Z2) (p21:Nat) (b5:Nat),(GE g (f.params++[3,0,3]).length (bS 4) e1/\p<=p21/\p21<=p+bC 4)/\F=sF [0,2,4,6,7,8,12] fz [(14,.p b5 0)]/\h=[.obj b5 (YY (Z2.mk 1 0 [Z2.mk 9 i ys,Z2.mk 1 0 [e1,Z2.mk 9 i zs]])),YU rd bs p21,Zi gz 5,Zi gz 0,Zi gz 1,Zi gz 2,Zi gz 3,Zi gz 6,Zi gz 7]) ?_ ?_))))
 ·refine Uj 4 12 ?_ ?_
  ·refine dL 4 [0,3,1] [b4,b1,b3] (Z6 [3,0,3]) 3 1 fun v7=>Yy 8 8 [] [(55,Z4 [3,0,3])] (Uj 5 12 ?_ ?_)
   ·refine dc 5 [] [0,3,1] [b4,b1,b3] (TA f.params [3,0,3]) ?_
    rintro _ _ ⟨v8,rfl,rfl⟩
    refine Yy 7 7 [] [(56,Z4 (f.params++[3,0,3]))] (Uj 6 12 ?_ ?_)
    ·refine dc 6 [6,6] [0,1] [b4,b3] (K5 rd bs p g gb rs (f.params++[3,0,3]) 0 4 (Yd:=ob) (hv:=(by first|omega|(simp only [ZH,Ys,YF];omega)))) ?_
     rintro _ _ ⟨e1,p21,rfl,rfl,ZT⟩
     have Xh:=ZT.1
     have K6:=ZT.2
     try rw [ZH] at Xh
     rw [hbv.2.1] at Xh
     refine Uj 8 12 ?_ ?_
     ·refine WB 8 [3] [b3] [Yb e1,Yb (Z2.mk 9 i zs)] (Yv [e1,Z2.mk 9 i zs]) (XO [e1,Z2.mk 9 i zs]).symm 2 3 fun v9=>Yy 5 5 [] [(59,Xz [e1,Z2.mk 9 i zs])] (Uj 9 12 ?_ ?_)
      ·refine YD 9 [] [3] [b3] (XR 1 0 [e1,Z2.mk 9 i zs]) (Uj 10 12 ?_ ?_)
       ·refine WB 10 [] [] [Yb (Z2.mk 9 i ys),Yb (Z2.mk 1 0 [e1,Z2.mk 9 i zs])] (Yv [Z2.mk 9 i ys,Z2.mk 1 0 [e1,Z2.mk 9 i zs]]) (XO [Z2.mk 9 i ys,Z2.mk 1 0 [e1,Z2.mk 9 i zs]]).symm 2 3 fun v10=>Yy 3 3 [] [(61,Xz [Z2.mk 9 i ys,Z2.mk 1 0 [e1,Z2.mk 9 i zs]])] (Uj 11 12 ?_ ?_)
        ·exact YD 11 [] [] [] (XR 1 0 [Z2.mk 9 i ys,Z2.mk 1 0 [e1,Z2.mk 9 i zs]]) (Z8 12 (dA 12 [] [] [.i 0,.i 0,nl] fun b5=>Z8 13 (X5 13 0 [] [] b5 (YY (Z2.mk 1 0 [Z2.mk 9 i ys,Z2.mk 1 0 [e1,Z2.mk 9 i zs]])) (de (ZM ⟨e1,p21,b5,(by assumption),rfl,rfl⟩ (wk [0,2,2,4,4,4,4,4,4] fl))))))
        exact dA 12 [] [] [.i 0,.i 0,nl] fun b6=>Z8 11 (YD 11 [] [] [] (XR 1 0 [Z2.mk 9 i ys,Z2.mk 1 0 [e1,Z2.mk 9 i zs]]) (Z8 13 (X5 13 0 [] [] b6 (YY (Z2.mk 1 0 [Z2.mk 9 i ys,Z2.mk 1 0 [e1,Z2.mk 9 i zs]])) (de (ZM ⟨e1,p21,b6,(by assumption),rfl,rfl⟩ (wk [0,2,2,4,4,4,4,4,4] fl))))))
       exact dA 12 [3] [b3] [.i 0,.i 0,nl] fun b7=>Z8 10 (WB 10 [] [] [Yb (Z2.mk 9 i ys),Yb (Z2.mk 1 0 [e1,Z2.mk 9 i zs])] (Yv [Z2.mk 9 i ys,Z2.mk 1 0 [e1,Z2.mk 9 i zs]]) (XO [Z2.mk 9 i ys,Z2.mk 1 0 [e1,Z2.mk 9 i zs]]).symm 2 3 fun v11=>Yy 2 2 [] [(61,Xz [Z2.mk 9 i ys,Z2.mk 1 0 [e1,Z2.mk 9 i zs]])] (Z8 11 (YD 11 [] [] [] (XR 1 0 [Z2.mk 9 i ys,Z2.mk 1 0 [e1,Z2.mk 9 i zs]]) (Z8 13 (X5 13 1 [] [] b7 (YY (Z2.mk 1 0 [Z2.mk 9 i ys,Z2.mk 1 0 [e1,Z2.mk 9 i zs]])) (de (ZM ⟨e1,p21,b7,(by assumption),rfl,rfl⟩ (wk [0,2,2,4,4,4,4,4,4] fl))))))))
      exact dA 12 [3] [b3] [.i 0,.i 0,nl] fun b8=>Z8 9 (YD 9 [] [4] [b3] (XR 1 0 [e1,Z2.mk 9 i zs]) (Z8 10 (WB 10 [] [] [Yb (Z2.mk 9 i ys),Yb (Z2.mk 1 0 [e1,Z2.mk 9 i zs])] (Yv [Z2.mk 9 i ys,Z2.mk 1 0 [e1,Z2.mk 9 i zs]]) (XO [Z2.mk 9 i ys,Z2.mk 1 0 [e1,Z2.mk 9 i zs]]).symm 2 3 fun v12=>Yy 2 2 [] [(61,Xz [Z2.mk 9 i ys,Z2.mk 1 0 [e1,Z2.mk 9 i zs]])] (Z8 11 (YD 11 [] [] [] (XR 1 0 [Z2.mk 9 i ys,Z2.mk 1 0 [e1,Z2.mk 9 i zs]]) (Z8 13 (X5 13 1 [] [] b8 (YY (Z2.mk 1 0 [Z2.mk 9 i ys,Z2.mk 1 0 [e1,Z2.mk 9 i zs]])) (de (ZM ⟨e1,p21,b8,(by assumption),rfl,rfl⟩ (wk [0,2,2,4,4,4,4,4,4] fl))))))))))
     exact dA 12 [2,3] [b4,b3] [.i 0,.i 0,nl] fun b9=>Z8 8 (WB 8 [4] [b3] [Yb e1,Yb (Z2.mk 9 i zs)] (Yv [e1,Z2.mk 9 i zs]) (XO [e1,Z2.mk 9 i zs]).symm 2 3 fun v13=>Yy 4 4 [] [(59,Xz [e1,Z2.mk 9 i zs])] (Z8 9 (YD 9 [] [4] [b3] (XR 1 0 [e1,Z2.mk 9 i zs]) (Z8 10 (WB 10 [] [] [Yb (Z2.mk 9 i ys),Yb (Z2.mk 1 0 [e1,Z2.mk 9 i zs])] (Yv [Z2.mk 9 i ys,Z2.mk 1 0 [e1,Z2.mk 9 i zs]]) (XO [Z2.mk 9 i ys,Z2.mk 1 0 [e1,Z2.mk 9 i zs]]).symm 2 3 fun v14=>Yy 2 2 [] [(61,Xz [Z2.mk 9 i ys,Z2.mk 1 0 [e1,Z2.mk 9 i zs]])] (Z8 11 (YD 11 [] [] [] (XR 1 0 [Z2.mk 9 i ys,Z2.mk 1 0 [e1,Z2.mk 9 i zs]]) (Z8 13 (X5 13 2 [] [] b9 (YY (Z2.mk 1 0 [Z2.mk 9 i ys,Z2.mk 1 0 [e1,Z2.mk 9 i zs]])) (de (ZM ⟨e1,p21,b9,(by assumption),rfl,rfl⟩ (wk [0,2,2,4,4,4,4,4,4] fl))))))))))))
    refine dA 12 [0,3,1] [b4,b1,b3] [.i 0,.i 0,nl] fun b10=>Z8 6 (dc 6 [7,7] [1,2] [b4,b3] (K5 rd bs p g gb rs (f.params++[3,0,3]) 0 4 (Yd:=ob) (hv:=(by first|omega|(simp only [ZH,Ys,YF];omega)))) ?_)
    rintro _ _ ⟨e2,p22,rfl,rfl,Yg⟩
    have Xh:=Yg.1
    have K6:=Yg.2
    try rw [ZH] at Xh
    rw [hbv.2.1] at Xh
    exact Z8 8 (WB 8 [4] [b3] [Yb e2,Yb (Z2.mk 9 i zs)] (Yv [e2,Z2.mk 9 i zs]) (XO [e2,Z2.mk 9 i zs]).symm 2 3 fun v15=>Yy 4 4 [] [(59,Xz [e2,Z2.mk 9 i zs])] (Z8 9 (YD 9 [] [4] [b3] (XR 1 0 [e2,Z2.mk 9 i zs]) (Z8 10 (WB 10 [] [] [Yb (Z2.mk 9 i ys),Yb (Z2.mk 1 0 [e2,Z2.mk 9 i zs])] (Yv [Z2.mk 9 i ys,Z2.mk 1 0 [e2,Z2.mk 9 i zs]]) (XO [Z2.mk 9 i ys,Z2.mk 1 0 [e2,Z2.mk 9 i zs]]).symm 2 3 fun v16=>Yy 2 2 [] [(61,Xz [Z2.mk 9 i ys,Z2.mk 1 0 [e2,Z2.mk 9 i zs]])] (Z8 11 (YD 11 [] [] [] (XR 1 0 [Z2.mk 9 i ys,Z2.mk 1 0 [e2,Z2.mk 9 i zs]]) (Z8 13 (X5 13 4 [] [] b10 (YY (Z2.mk 1 0 [Z2.mk 9 i ys,Z2.mk 1 0 [e2,Z2.mk 9 i zs]])) (de (ZM ⟨e2,p22,b10,(by assumption),rfl,rfl⟩ (wk [0,2,2,4,4,4,4,4,4] fl))))))))))))
   refine dA 12 [0,3,1] [b4,b1,b3] [.i 0,.i 0,nl] fun b11=>Z8 5 (dc 5 [] [1,4,2] [b4,b1,b3] (TA f.params [3,0,3]) ?_)
   rintro _ _ ⟨v17,rfl,rfl⟩
   refine Yy 6 6 [] [(56,Z4 (f.params++[3,0,3]))] (Z8 6 (dc 6 [7,7] [1,2] [b4,b3] (K5 rd bs p g gb rs (f.params++[3,0,3]) 0 4 (Yd:=ob) (hv:=(by first|omega|(simp only [ZH,Ys,YF];omega)))) ?_))
   rintro _ _ ⟨e3,p23,rfl,rfl,YJ⟩
   have Xh:=YJ.1
   have K6:=YJ.2
   try rw [ZH] at Xh
   rw [hbv.2.1] at Xh
   exact Z8 8 (WB 8 [4] [b3] [Yb e3,Yb (Z2.mk 9 i zs)] (Yv [e3,Z2.mk 9 i zs]) (XO [e3,Z2.mk 9 i zs]).symm 2 3 fun v18=>Yy 4 4 [] [(59,Xz [e3,Z2.mk 9 i zs])] (Z8 9 (YD 9 [] [4] [b3] (XR 1 0 [e3,Z2.mk 9 i zs]) (Z8 10 (WB 10 [] [] [Yb (Z2.mk 9 i ys),Yb (Z2.mk 1 0 [e3,Z2.mk 9 i zs])] (Yv [Z2.mk 9 i ys,Z2.mk 1 0 [e3,Z2.mk 9 i zs]]) (XO [Z2.mk 9 i ys,Z2.mk 1 0 [e3,Z2.mk 9 i zs]]).symm 2 3 fun v19=>Yy 2 2 [] [(61,Xz [Z2.mk 9 i ys,Z2.mk 1 0 [e3,Z2.mk 9 i zs]])] (Z8 11 (YD 11 [] [] [] (XR 1 0 [Z2.mk 9 i ys,Z2.mk 1 0 [e3,Z2.mk 9 i zs]]) (Z8 13 (X5 13 5 [] [] b11 (YY (Z2.mk 1 0 [Z2.mk 9 i ys,Z2.mk 1 0 [e3,Z2.mk 9 i zs]])) (de (ZM ⟨e3,p23,b11,(by assumption),rfl,rfl⟩ (wk [0,2,2,4,4,4,4,4,4] fl))))))))))))
  refine dA 12 [0,3,1] [b4,b1,b3] [.i 0,.i 0,nl] fun b12=>Z8 4 (dL 4 [1,4,2] [b4,b1,b3] (Z6 [3,0,3]) 3 1 fun v20=>Yy 7 7 [] [(55,Z4 [3,0,3])] (Z8 5 (dc 5 [] [1,4,2] [b4,b1,b3] (TA f.params [3,0,3]) ?_)))
  rintro _ _ ⟨v21,rfl,rfl⟩
  refine Yy 6 6 [] [(56,Z4 (f.params++[3,0,3]))] (Z8 6 (dc 6 [7,7] [1,2] [b4,b3] (K5 rd bs p g gb rs (f.params++[3,0,3]) 0 4 (Yd:=ob) (hv:=(by first|omega|(simp only [ZH,Ys,YF];omega)))) ?_))
  rintro _ _ ⟨e4,p24,rfl,rfl,YQ⟩
  have Xh:=YQ.1
  have K6:=YQ.2
  try rw [ZH] at Xh
  rw [hbv.2.1] at Xh
  exact Z8 8 (WB 8 [4] [b3] [Yb e4,Yb (Z2.mk 9 i zs)] (Yv [e4,Z2.mk 9 i zs]) (XO [e4,Z2.mk 9 i zs]).symm 2 3 fun v22=>Yy 4 4 [] [(59,Xz [e4,Z2.mk 9 i zs])] (Z8 9 (YD 9 [] [4] [b3] (XR 1 0 [e4,Z2.mk 9 i zs]) (Z8 10 (WB 10 [] [] [Yb (Z2.mk 9 i ys),Yb (Z2.mk 1 0 [e4,Z2.mk 9 i zs])] (Yv [Z2.mk 9 i ys,Z2.mk 1 0 [e4,Z2.mk 9 i zs]]) (XO [Z2.mk 9 i ys,Z2.mk 1 0 [e4,Z2.mk 9 i zs]]).symm 2 3 fun v23=>Yy 2 2 [] [(61,Xz [Z2.mk 9 i ys,Z2.mk 1 0 [e4,Z2.mk 9 i zs]])] (Z8 11 (YD 11 [] [] [] (XR 1 0 [Z2.mk 9 i ys,Z2.mk 1 0 [e4,Z2.mk 9 i zs]]) (Z8 13 (X5 13 6 [] [] b12 (YY (Z2.mk 1 0 [Z2.mk 9 i ys,Z2.mk 1 0 [e4,Z2.mk 9 i zs]])) (de (ZM ⟨e4,p24,b12,(by assumption),rfl,rfl⟩ (wk [0,2,2,4,4,4,4,4,4] fl))))))))))))
 rintro F h ⟨e1,p21,b5,ZT,rfl,rfl⟩
 have Xh:=ZT.1
 have K6:=ZT.2
 try rw [ZH] at Xh
 rw [hbv.2.1] at Xh
 refine Yq 3 [6] (Zp (Vk gb g.funcs.length 4 i.toNat 5 i) (Z0 1 (Ut (Ul 2 gb 4 4 5 (i.toNat * 5+1) (Zu (Xt rs)) [.i f.result] 3 (.i f.result) (UC Wf hf 1 rfl (Vd rfl))) (Z1 (Xw (fun fz gz F h=>∃(eQ:Z2) (p6:Nat),(GE g (f.params.length+3) 52 eQ)/\(p<=p6/\p6<=p+650)/\F=sF [0,2,4,6,7,14] fz []/\h=[.obj b5 (YY eQ),YU rd bs p6,Zi gz 2,Zi gz 5,Zi gz 6]) ?_ ?_)))))
 ·refine ac (f.result==3) Zg (fun Zh=>?_) (fun Zh=>?_)
  ·refine aE 13 (ZV 8 13 [0,1,2,3,7] [4,6] (da 8 (((f.params.length+2:Nat):Int)) (((f.params.length:Int))+(2)) (Z8 4 (dL 4 [6,4] [b1,b3] (Z6 [3,0,3]) 3 1 fun v24=>Yy 6 6 [] [(74,Z4 [3,0,3])] (Z8 5 (dc 5 [] [6,4] [b1,b3] (TA f.params [3,0,3]) ?_))))))
   rintro _ _ ⟨v25,rfl,rfl⟩
   refine Yy 5 5 [] [(75,Z4 (f.params++[3,0,3]))] (Z8 6 (dc 6 [3,3] [2] [b3] (K5 rd bs p21 g gb rs (f.params++[3,0,3]) 0 4 (Yd:=ob) (hv:=(by first|omega|(simp only [ZH,Ys,YF];omega)))) ?_))
   rintro _ _ ⟨e5,p25,rfl,rfl,X4⟩
   have Xh:=X4.1
   have K6:=X4.2
   try rw [ZH] at Xh
   rw [hbv.2.1] at Xh
   exact Z8 9 (YD 9 [] [4] [b3] (Qn ((f.params.length+2:Nat):Int)) (Z8 10 (WB 10 [] [] [Yb (Z2.mk 9 i ys),Yb e5,Yb (Z2.mk 12 ((f.params.length+2:Nat):Int) [])] (Yv [Z2.mk 9 i ys,e5,(Z2.mk 12 ((f.params.length+2:Nat):Int) [])]) (XO [Z2.mk 9 i ys,e5,(Z2.mk 12 ((f.params.length+2:Nat):Int) [])]).symm 3 3 fun v26=>Yy 2 2 [] [(80,Xz [Z2.mk 9 i ys,e5,(Z2.mk 12 ((f.params.length+2:Nat):Int) [])])] (Z8 11 (YD 11 [] [] [] (XR 6 3 [Z2.mk 9 i ys,e5,(Z2.mk 12 ((f.params.length+2:Nat):Int) [])]) (Z8 12 (X5 12 5 [] [] b5 (YY (Z2.mk 6 3 [Z2.mk 9 i ys,e5,(Z2.mk 12 ((f.params.length+2:Nat):Int) [])])) (de (ZM ⟨(Z2.mk 6 3 [Z2.mk 9 i ys,e5,(Z2.mk 12 ((f.params.length+2:Nat):Int) [])]),p25,(GE.three (s1:=10) (s2:=30) (s3:=1) om om (GE.node (L:=f.params.length) (s:=1) (q:=10) om (fun _=>by omega) om YA om om om) Xh (GE.var om om om) om),ob,rfl,rfl⟩ (wk [0,1,1,5,5] fl))))))))))
  exact ak (ZM ⟨(Z2.mk 1 0 [Z2.mk 9 i ys,Z2.mk 1 0 [e1,Z2.mk 9 i zs]]),p21,(GE.two (s1:=10) (s2:=41) om om (GE.node (L:=f.params.length) (s:=1) (q:=10) om (fun _=>by omega) om YA om om om) (GE.two (s1:=30) (s2:=10) om om Xh (GE.node (L:=f.params.length) (s:=1) (q:=10) om (fun _=>by omega) om Wb om om om) om) om),ob,rfl,rfl⟩ (wk [0,0,0,2,2] fl))
 rintro F h ⟨eQ,p6,VE,Bj,rfl,rfl⟩
 refine aD 15 (ZV 9 15 [1,2,3,4,5,6] [4,4] (dx 7 (Vk gb g.funcs.length 4 i.toNat 5 i) (Zo 7 8 [8] (TU 9 (Ul 2 gb 4 4 5 (i.toNat * 5+1) (Zu (Xt rs)) [.i f.result] 3 (.i f.result) (UC Wf hf 1 rfl (Vd rfl))) (ZV 5 6 [11] [0] (Z8 0 (YD 0 [] [0,2,4,4] [b5,gb,b1,b1] (Qn 0) (Z8 10 (dc 10 [1,1] [0] [b5] (K5 rd bs p6 g gb rs f.params f.result 4 (Yd:=ob) (hv:=(by first|omega|(simp only [ZH,Ys,YF];omega)))) ?_)))))))))
 rintro _ _ ⟨e6,p26,rfl,rfl,Xy⟩
 have Xh:=Xy.1
 have K6:=Xy.2
 try rw [ZH] at Xh
 rw [hbv.2.1] at Xh
 exact Z8 12 (WB 12 [] [] [Yb (Z2.mk 12 0 []),Yb e6,Yb eQ] (Yv [Z2.mk 12 0 [],e6,eQ]) (XO [Z2.mk 12 0 [],e6,eQ]).symm 3 3 fun v27=>Yy 2 2 [] [(94,Xz [Z2.mk 12 0 [],e6,eQ])] (Z8 13 (YD 13 [] [] [] (XR 8 3 [Z2.mk 12 0 [],e6,eQ]) (Z8 14 (X5 14 4 [] [] b2 (YY (Z2.mk 8 3 [Z2.mk 12 0 [],e6,eQ])) (de (Yc (r3 [2,2] [Yb (Z2.mk 8 3 [Z2.mk 12 0 [],e6,eQ])] [0] [(b2,b2)] ⟨(Z2.mk 8 3 [Z2.mk 12 0 [],e6,eQ]),p26,rfl,rfl,⟨GE.matchT hg (s1:=1) (s2:=30) (s3:=52) (GE.var om om om) Xh VE om,by omega⟩⟩ (lr _)))))))))
theorem Z8u (rd:Nat) (bs:LI) (p:Nat) (g:W5) (gb:Nat) (rs:List Func) (f:Func) (i:Int) (Yd:∀z∈bs,0<=z/\z<=255) (hp:p+1000<=1000000000:=by exact ob) (hg:GP g:=by exact ob) (Wf:g.funcs <+: rs:=by exact ob) (hi:0<=i:=by exact ob) (hf:g.funcs[i.toNat]? = some f:=by exact ob) (h0:0<f.params.length:=by exact ob):Zm 309 [.p rd 0,.agg (Wp g gb),.i i] [YU rd bs p,XP gb rs] (fun r h=>∃(e:Z2) (p2:Nat),r=Yb e/\h=[YU rd bs p2,XP gb rs]/\GE g f.params.length 200 e/\p<=p2/\p2<=p+1000):=by
 obtain ⟨hil,_⟩:=Xu.1 hf
 have hgl:=hg.len
 have hso:=(hg.sigs f (Y4 hf)).bd
 have hbv:=Ew
 refine ZD 75 Tryz.func309 (ar (iA (Wp g gb) fun b1=>iA [.i 0,.i 0,nl] fun b2=>ie (Zq 3 [1] (Zp (Vk gb g.funcs.length 4 i.toNat 5 i) (Z0 1 (Ut (Ul 3 gb 4 4 5 (i.toNat * 5+0) (Zu (Xt rs)) [Z4 f.params] 23 (Z4 f.params) (UC Wf hf 0 rfl (Vd rfl))) (Z1 (ar (Zw [] (Qn 0) (Zw [] (Be 1) (UG [Yb (Z2.mk 12 0 []),Yb (Z2.mk 0 1 [])] (Yv [Z2.mk 12 0 [],Z2.mk 0 1 []]) (XO [Z2.mk 12 0 [],Z2.mk 0 1 []]).symm 2 3 fun v1=>Y0 0 [(20,Xz [Z2.mk 12 0 [],Z2.mk 0 1 []])] (Zw [] (XR 2 0 [Z2.mk 12 0 [],Z2.mk 0 1 []]) (UG [Yb (Z2.mk 2 0 [Z2.mk 12 0 [],Z2.mk 0 1 []])] (Yv [Z2.mk 2 0 [Z2.mk 12 0 [],Z2.mk 0 1 []]]) (XO [Z2.mk 2 0 [Z2.mk 12 0 [],Z2.mk 0 1 []]]).symm 1 3 fun v2=>?_)))))))))))))
 refine Z1 (Y5 (ab 0 (Y1 (fun fz gz m F h=>∃(k:Nat) (ys:List Z2) (u:Value) (pq:Nat),(1<=k/\k<=f.params.length)/\(ys.length=k)/\(∀e∈ys,GE g f.params.length 4 e)/\(p<=pq/\pq<=p+30*k)/\F=sF [0,2,4,6,7] fz [(8,QJ ys u),(9,.i k)]/\h=[Zi gz 2,Zi gz 3,YU rd bs pq,Zi gz 5,.tail u 3]/\m=f.params.length-k) _ _ _ ⟨1,[Z2.mk 2 0 [Z2.mk 12 0 [],Z2.mk 0 1 []]],v2,p,ob,ob,(Iz (GE.two (s1:=1) (s2:=1) om om (GE.var om om om) (GE.int om om) om)),ob,rfl,rfl,rfl⟩ (wk [2,2,2,2,0] (fr (fc (x:=.i 1) li fl))) ?_)))
 rintro m F h ⟨k,ys,u,pq,Yi,Zd,Zz,YA,rfl,rfl,rfl⟩
 refine YR 2 (iw (Y9 f.params) (Y3 ((k:Int)<(f.params.length:Int)) (fun Z9=>?_) (fun Z9=>?_)))
 ·refine ak (aq (ab 1 (aE 12 (ZV 6 12 [0,1,2,3,4,5] [1] ?_))))
  obtain ⟨x1,Z3⟩:=Zt f.params k om
  refine dx 6 (Ze none (k:Int) 1 (Y7 Z3)) (Zo 4 5 [7] (Z8 8 (dc 8 [2,2] [] [] (DN rd bs pq g gb rs f.params x1 (Yd:=ob)) ?_)))
  rintro _ _ ⟨e1,p21,rfl,rfl,ZT⟩
  have hle:=ZT.1
  exact Z8 9 (WB 9 [] [] [Yb e1] (Yv [e1]) (XO [e1]).symm 1 3 fun v3=>Yy 2 2 [] [(38,Xz [e1])] (Z8 10 (dp 10 5 [] [] (Yv (ys++[e1])) (Yv ys) (Yv [e1]) u none 3 (T7 _) (T7 _) (An _) (by simp<;>omega) (by simp [Am,Yv]) fun v4=>Zo 0 1 [11] (de (az (Z0 1 (ZC k (Z1 (ZE ⟨k+1,(ys++[e1]),v4,p21,ob,ob,(XC Zz hle),ob,rfl,rfl,rfl⟩ (wk [4,4,2,2,0] (fr (ZI k fl))))))))))))
 refine ax 0 (ar (Y0 2 [(41,Xz ys)] (Zw [] (XR 9 i ys) (iA [.i 0,.i 0,nl] fun b3=>?_))))
 refine ZG 0 b3 (YY (Z2.mk 9 i ys)) (ie (Yq 3 [2] (Zp (Vk gb g.funcs.length 4 i.toNat 5 i) (Z0 1 (Ut (Ul 4 gb 4 4 5 (i.toNat * 5+1) (Zu (Xt rs)) [.i f.result] 3 (.i f.result) (UC Wf hf 1 rfl (Vd rfl))) (Z1 (Xw (fun fz gz F h=>∃(eQ:Z2) (p6:Nat),(GE g f.params.length 34 eQ)/\(p<=p6/\p6<=p+350)/\F=sF [0,2,4,6,7,10] fz []/\h=[.obj b3 (YY eQ),Zi gz 1,Zi gz 2,YU rd bs p6,Zi gz 4]) ?_ ?_)))))))
 ·refine ac (f.result==1) Zg (fun Zh=>?_) (fun Zh=>?_)
  ·refine aE 8 (ZV 4 8 [0,1,2,4] [2,0] (Z8 3 (dc 3 [3,3] [0] [b3] (K5 rd bs pq g gb rs f.params 0 3 (Yd:=ob)) ?_)))
   rintro _ _ ⟨e2,p22,rfl,rfl,Yg⟩
   have Xh:=Yg.1
   have K6:=Yg.2
   try rw [ZH] at Xh
   first|rw [hbv.2.1] at Xh|rw [hbv.1] at Xh
   exact Z8 5 (WB 5 [] [] [Yb e2,Yb (Z2.mk 9 i ys)] (Yv [e2,Z2.mk 9 i ys]) (XO [e2,Z2.mk 9 i ys]).symm 2 3 fun v5=>Yy 2 2 [] [(55,Xz [e2,Z2.mk 9 i ys])] (Z8 6 (YD 6 [] [] [] (XR 6 1 [e2,Z2.mk 9 i ys]) (Z8 7 (X5 7 3 [] [] b3 (YY (Z2.mk 6 1 [e2,Z2.mk 9 i ys])) (de (ZM ⟨(Z2.mk 6 1 [e2,Z2.mk 9 i ys]),p22,(GE.two (s1:=20) (s2:=13) om om Xh (GE.node (L:=f.params.length) (s:=4) (q:=13) om (fun _=>by omega) om Zz om om om) om),ob,rfl,rfl⟩ (wk [0,3,3,1,1] fl))))))))
  exact ak (ZM ⟨(Z2.mk 9 i ys),pq,(GE.le (GE.node (L:=f.params.length) (s:=4) (q:=13) om (fun _=>by omega) om Zz om om om) om),ob,rfl,rfl⟩ (Zs 5 fl))
 rintro F h ⟨eQ,p6,VE,Bj,rfl,rfl⟩
 refine ar (Zw [] (Be 0) (Zw [] (Qn 0) (UG [Yb (Z2.mk 0 0 []),Yb (Z2.mk 12 0 [])] (Yv [Z2.mk 0 0 [],Z2.mk 12 0 []]) (XO [Z2.mk 0 0 [],Z2.mk 12 0 []]).symm 2 3 fun v6=>Y0 0 [(59,Xz [Z2.mk 0 0 [],Z2.mk 12 0 []])] (Zw [] (XR 4 0 [Z2.mk 0 0 [],Z2.mk 12 0 []]) (iA [.i 0,.i 0,nl] fun b4=>ZG 0 b4 (YY (Z2.mk 4 0 [Z2.mk 0 0 [],Z2.mk 12 0 []])) (ie (aD 15 (ZV 7 15 [0,1,2,3,4,5,6,7] [0,2,4,4] (dx 8 (Vk gb g.funcs.length 4 i.toNat 5 i) (Zo 5 6 [9] (TU 10 (Ul 6 gb 4 4 5 (i.toNat * 5+1) (Zu (Xt rs)) [.i f.result] 3 (.i f.result) (UC Wf hf 1 rfl (Vd rfl))) (Z8 11 (dc 11 [5,5] [1,0] [b3,b4] (K5 rd bs p6 g gb rs f.params f.result 4 (Yd:=ob)) ?_)))))))))))))
 rintro _ _ ⟨e3,p23,rfl,rfl,YJ⟩
 have Xh:=YJ.1
 have K6:=YJ.2
 try rw [ZH] at Xh
 first|rw [hbv.2.1] at Xh|rw [hbv.1] at Xh
 exact Z8 12 (WB 12 [] [] [Yb (Z2.mk 4 0 [Z2.mk 0 0 [],Z2.mk 12 0 []]),Yb eQ,Yb e3] (Yv [Z2.mk 4 0 [Z2.mk 0 0 [],Z2.mk 12 0 []],eQ,e3]) (XO [Z2.mk 4 0 [Z2.mk 0 0 [],Z2.mk 12 0 []],eQ,e3]).symm 3 3 fun v7=>Yy 2 2 [] [(73,Xz [Z2.mk 4 0 [Z2.mk 0 0 [],Z2.mk 12 0 []],eQ,e3])] (Z8 13 (YD 13 [] [] [] (XR 7 0 [Z2.mk 4 0 [Z2.mk 0 0 [],Z2.mk 12 0 []],eQ,e3]) (Z8 14 (X5 14 6 [] [] b2 (YY (Z2.mk 7 0 [Z2.mk 4 0 [Z2.mk 0 0 [],Z2.mk 12 0 []],eQ,e3])) (de (Yc (r3 [2,2] [Yb (Z2.mk 7 0 [Z2.mk 4 0 [Z2.mk 0 0 [],Z2.mk 12 0 []],eQ,e3])] [0] [(b2,b2)] ⟨(Z2.mk 7 0 [Z2.mk 4 0 [Z2.mk 0 0 [],Z2.mk 12 0 []],eQ,e3]),p23,rfl,rfl,⟨GE.three (s1:=3) (s2:=34) (s3:=30) om om (GE.two (s1:=1) (s2:=1) om om (GE.int om om) (GE.var om om om) om) VE Xh om,by omega⟩⟩ (lr _)))))))))
theorem Z9s (xs:LI) (t:Int) (hl:xs.length<=1000:=by exact ob):Zm 304 [Z4 xs,.i t] [] (fun r h=>∃(w:Int),r=.i w/\h=[]/\-1<=w/\w<xs.length):=by
 refine ZD 19 Tryz.func304 (ZY (Y5 (ab 0 (Y1 (fun fz gz m F h=>∃(k:Nat),(k<=xs.length)/\F=sF [0,1] fz [(5,.i k)]/\h=gz/\m=xs.length-k) _ _ _ ⟨0,ob,rfl,rfl,rfl⟩ (wk [] (Ya fl)) ?_))))
 rintro m F h ⟨k,Yi,rfl,rfl,rfl⟩
 refine YR 2 (iw (Y9 xs) (Y3 ((k:Int)<(xs.length:Int)) (fun Z9=>?_) (fun Z9=>?_)))
 ·refine ak (aq (ab 1 (ZX 2 ?_)))
  obtain ⟨x1,Z3⟩:=Zt xs k om
  refine Zp (Ze none (k:Int) 1 (Y7 Z3)) (YS (x1==t) Zg (fun Zh=>?_) (fun Zh=>?_))
  ·exact ar (Zk (r1 [] ⟨(k:Int),rfl,rfl,ob⟩))
  exact ak (az (Z0 1 (ZC k (Z1 (ZE ⟨k+1,ob,rfl,rfl,rfl⟩ (wk [] (ZI k fl)))))))
 exact ax 0 (ar (Zk (r1 [] ⟨(-1),rfl,rfl,ob⟩)))
theorem Z8c (rd:Nat) (bs:LI) (p:Nat) (g:W5) (gb:Nat) (rs:List Func) (f:Func) (i:Int) (Yd:∀z∈bs,0<=z/\z<=255) (hp:p+90000<=1000000000) (hg:GP g) (Wf:g.funcs <+: rs) (hi:0<=i) (hf:g.funcs[i.toNat]? = some f) (h0:i=0->f.params.length=0):Zm 266 [.p rd 0,.agg (Wp g gb),.i i] [YU rd bs p,XP gb rs] (fun r h=>∃(e:Z2) (p2:Nat),r=Yb e/\h=[YU rd bs p2,XP gb rs]/\GE g f.params.length 30 e/\p<=p2/\p2<=p+90000):=by
 obtain ⟨hil,_⟩:=Xu.1 hf
 have hgl:=hg.len
 have hso:=(hg.sigs f (Y4 hf)).bd
 have hbv:=Ew
 refine ZD 121 Tryz.func266 (ar (iA (Wp g gb) fun b1=>iA [.i 0,.i 0,nl] fun b2=>ie (Zq 3 [1] (Zp (Vk gb g.funcs.length 4 i.toNat 5 i) (Z0 1 (Ut (Ul 3 gb 4 4 5 (i.toNat * 5+0) (Zu (Xt rs)) [Z4 f.params] 23 (Z4 f.params) (UC Wf hf 0 rfl (Vd rfl))) (Z1 (Zq 3 [1] (Zp (Vk gb g.funcs.length 4 i.toNat 5 i) (Z0 1 (Ut (Ul 3 gb 4 4 5 (i.toNat * 5+1) (Zu (Xt rs)) [.i f.result] 3 (.i f.result) (UC Wf hf 1 rfl (Vd rfl))) (Z1 (ZX 1 (ic [] (Z9s f.params 1) ?_))))))))))))))
 rintro _ _ ⟨w1,rfl,rfl,ZT⟩
 have hpl:=ZT
 refine Z1 (ar (Zw [] (Be 0) (iA [.i 0,.i 0,nl] fun b3=>ZG 0 b3 (YY (Z2.mk 0 0 [])) (ie (ZX 1 (ic [3] (V3 rd bs p 4 (Yd:=ob)) ?_))))))
 rintro _ _ ⟨k1,rfl,rfl,Yg⟩
 have qhp2:=Yg.lt om
 refine Z1 (aq (aq (Xw (fun fz gz F h=>∃(wb:Bool),(wb=true->i=0)/\F=sF [0,2,4,6,7,8,9,10,11] fz [(34,.b wb)]/\h=gz) ?_ ?_)))
 ·refine az (Z0 3 (ib (b:=(decide (k1<3))) 31 (fun Zb=>?_) (fun Zb=>?_)))
  ·have YJ:k1<3:=(dq).1 Zb
   exact Z1 (ZM ⟨(i==0),(by first|exact (fun h=>Bool.noConfusion h)|(intro h;omega)|(intro h;simp at h;omega)),rfl,rfl⟩ (Zs 5 fl))
  have YQ:¬(k1<3):=Y2 dq Zb
  exact Z1 (ZM ⟨false,(by first|exact (fun h=>Bool.noConfusion h)|(intro h;omega)|(intro h;simp at h;omega)),rfl,rfl⟩ (Zs 5 fl))
 rintro F h ⟨wb,kR6_0,rfl,rfl⟩
 refine Xw (fun fz gz F h=>∃(eQ:Z2) (p6:Nat),(GE g f.params.length 200 eQ)/\(p<=p6/\p6<=p+42000)/\F=sF [0,4,6,7,8,10] fz []/\h=[YU rd bs p6,.obj b3 (YY eQ),Zi gz 2,Zi gz 3,Zi gz 4]) ?_ ?_
 ·refine ac wb Iff.rfl (fun Z9=>?_) (fun Z9=>?_)
  ·refine az (ZB 2 [3] (ic [0,3] (Z9h rd bs (p+1) g gb rs (Yd:=ob)) ?_))
   rintro _ _ ⟨e1,p21,rfl,rfl,X4⟩
   have hbd:=X4.1
   have hbp:=X4.2
   exact ZG 2 b3 (YY e1) (ie (ZM ⟨e1,p21,(by rw [h0 (kR6_0 (by assumption))];exact hbd),ob,rfl,rfl⟩ (wk [1,0,1,1,0] fl)))
  refine aq (Xw (fun fz gz F h=>∃(wb:Bool),(wb=true->0<=w1)/\F=sF [0,2,4,6,7,8,9,10,11] fz [(51,.b wb)]/\h=gz) ?_ ?_)
  ·refine az (Z0 3 (ib (b:=(decide (k1<3))) 40 (fun Zy=>?_) (fun Zy=>?_)))
   ·have Xy:k1<3:=(dq).1 Zy
    refine Z0 4 (ib (b:=(decide (w1>=0))) 44 (fun Yf=>?_) (fun Yf=>?_))
    ·have Wx:w1>=0:=(dq).1 Yf
     refine Z0 3 (ib (b:=(f.result==0)) 47 (fun YP=>?_) (fun YP=>?_))
     ·have WZ:f.result=0:=(Zg).1 YP
      exact Z1 (ZM ⟨true,(by first|exact (fun h=>Bool.noConfusion h)|(intro h;omega)|(intro h;simp at h;omega)),rfl,rfl⟩ (Zs 5 fl))
     have Vw:¬(f.result=0):=Y2 Zg YP
     exact Z1 (ZM ⟨(f.result==1),(by first|exact (fun h=>Bool.noConfusion h)|(intro h;omega)|(intro h;simp at h;omega)),rfl,rfl⟩ (Zs 5 fl))
    have Ua:¬(w1>=0):=Y2 dq Yf
    exact Z1 (ZM ⟨false,(by first|exact (fun h=>Bool.noConfusion h)|(intro h;omega)|(intro h;simp at h;omega)),rfl,rfl⟩ (Zs 5 fl))
   have UF:¬(k1<3):=Y2 dq Zy
   exact Z1 (ZM ⟨false,(by first|exact (fun h=>Bool.noConfusion h)|(intro h;omega)|(intro h;simp at h;omega)),rfl,rfl⟩ (Zs 5 fl))
  rintro F h ⟨wb,kR8_0,rfl,rfl⟩
  refine ac wb Iff.rfl (fun Zh=>?_) (fun Zh=>?_)
  ·refine az (ZB 4 [3] (ic [0,3] (Z9p rd bs (p+1) g gb rs _ i w1 (Yd:=ob) (hw:=(by have:=kR8_0 (by assumption);omega))) ?_))
   rintro _ _ ⟨e2,p22,rfl,rfl,Ur⟩
   have hbd:=Ur.1
   have hbp:=Ur.2
   exact ZG 2 b3 (YY e2) (ie (ZM ⟨e2,p22,(GE.le hbd om),ob,rfl,rfl⟩ (wk [1,0,1,1,0] fl)))
  refine aq (Xw (fun fz gz F h=>∃(wb:Bool),(wb=true->0<f.params.length)/\F=sF [0,2,4,6,7,8,10,11] fz [(77,.b wb)]/\h=gz) ?_ ?_)
  ·refine az (Z0 3 (ib (b:=(decide (k1<3))) 59 (fun XE=>?_) (fun XE=>?_)))
   ·have Q2:k1<3:=(dq).1 XE
    refine Z0 1 (iw (Y9 f.params) (Z0 3 (ib (b:=(decide ((f.params.length:Int)>0))) 64 (fun Wq=>?_) (fun Wq=>?_))))
    ·have Tw:(f.params.length:Int)>0:=(dq).1 Wq
     refine Z0 1 ?_
     obtain ⟨x1,Z3⟩:=Zt f.params 0 om
     refine Zp (Ze none 0 1 (Y7 Z3)) (Z0 4 (ib (b:=(x1==3)) 70 (fun WG=>?_) (fun WG=>?_)))
     ·have K7:x1=3:=(Zg).1 WG
      refine Z0 3 (ib (b:=(f.result==0)) 73 (fun Vi=>?_) (fun Vi=>?_))
      ·have K8:f.result=0:=(Zg).1 Vi
       exact Z1 (ZM ⟨true,(by first|exact (fun h=>Bool.noConfusion h)|(intro h;omega)|(intro h;simp at h;omega)),rfl,rfl⟩ (Zs 5 fl))
      have Au:¬(f.result=0):=Y2 Zg Vi
      exact Z1 (ZM ⟨(f.result==3),(by first|exact (fun h=>Bool.noConfusion h)|(intro h;omega)|(intro h;simp at h;omega)),rfl,rfl⟩ (Zs 5 fl))
     have Bh:¬(x1=3):=Y2 Zg WG
     exact Z1 (ZM ⟨false,(by first|exact (fun h=>Bool.noConfusion h)|(intro h;omega)|(intro h;simp at h;omega)),rfl,rfl⟩ (Zs 5 fl))
    have LO:¬((f.params.length:Int)>0):=Y2 dq Wq
    exact Z1 (ZM ⟨false,(by first|exact (fun h=>Bool.noConfusion h)|(intro h;omega)|(intro h;simp at h;omega)),rfl,rfl⟩ (Zs 5 fl))
   have LP:¬(k1<3):=Y2 dq XE
   exact Z1 (ZM ⟨false,(by first|exact (fun h=>Bool.noConfusion h)|(intro h;omega)|(intro h;simp at h;omega)),rfl,rfl⟩ (Zs 5 fl))
  rintro F h ⟨wb,kR10_0,rfl,rfl⟩
  refine ac wb Iff.rfl (fun ZA=>?_) (fun ZA=>?_)
  ·refine az (ZB 3 [3] (ic [0,3] (Z9q rd bs (p+1) g gb rs _ i (Yd:=ob) (h0:=(kR10_0 (by assumption)))) ?_))
   rintro _ _ ⟨e3,p23,rfl,rfl,H1⟩
   have hbd:=H1.1
   have hbp:=H1.2
   exact ZG 2 b3 (YY e3) (ie (ZM ⟨e3,p23,(GE.le hbd om),ob,rfl,rfl⟩ (wk [1,0,1,1,0] fl)))
  refine aq (Xw (fun fz gz F h=>∃(wb:Bool),(wb=true->0<f.params.length)/\F=sF [0,2,4,6,7,8,10] fz [(102,.b wb)]/\h=gz) ?_ ?_)
  ·refine az (Z0 3 (ib (b:=(decide (k1<3))) 84 (fun Va=>?_) (fun Va=>?_)))
   ·have PN:k1<3:=(dq).1 Va
    refine Z0 1 (iw (Y9 f.params) (Z0 3 (ib (b:=(decide ((f.params.length:Int)>0))) 89 (fun UD=>?_) (fun UD=>?_))))
    ·have PO:(f.params.length:Int)>0:=(dq).1 UD
     refine Z0 1 ?_
     obtain ⟨x2,Zv⟩:=Zt f.params 0 om
     refine Zp (Ze none 0 1 (Y7 Zv)) (Z0 4 (ib (b:=(x2==0)) 95 (fun QD=>?_) (fun QD=>?_)))
     ·have PP:x2=0:=(Zg).1 QD
      refine Z0 3 (ib (b:=(f.result==0)) 98 (fun QE=>?_) (fun QE=>?_))
      ·have PQ:f.result=0:=(Zg).1 QE
       exact Z1 (ZM ⟨true,(by first|exact (fun h=>Bool.noConfusion h)|(intro h;omega)|(intro h;simp at h;omega)),rfl,rfl⟩ (Zs 5 fl))
      have PR:¬(f.result=0):=Y2 Zg QE
      exact Z1 (ZM ⟨(f.result==1),(by first|exact (fun h=>Bool.noConfusion h)|(intro h;omega)|(intro h;simp at h;omega)),rfl,rfl⟩ (Zs 5 fl))
     have PS:¬(x2=0):=Y2 Zg QD
     exact Z1 (ZM ⟨false,(by first|exact (fun h=>Bool.noConfusion h)|(intro h;omega)|(intro h;simp at h;omega)),rfl,rfl⟩ (Zs 5 fl))
    have PT:¬((f.params.length:Int)>0):=Y2 dq UD
    exact Z1 (ZM ⟨false,(by first|exact (fun h=>Bool.noConfusion h)|(intro h;omega)|(intro h;simp at h;omega)),rfl,rfl⟩ (Zs 5 fl))
   have PU:¬(k1<3):=Y2 dq Va
   exact Z1 (ZM ⟨false,(by first|exact (fun h=>Bool.noConfusion h)|(intro h;omega)|(intro h;simp at h;omega)),rfl,rfl⟩ (Zs 5 fl))
  rintro F h ⟨wb,kR12_0,rfl,rfl⟩
  refine ac wb Iff.rfl (fun Yk=>?_) (fun Yk=>?_)
  ·refine az (ZB 3 [3] (ic [0,3] (Z8u rd bs (p+1) g gb rs _ i (Yd:=ob) (h0:=(kR12_0 (by assumption)))) ?_))
   rintro _ _ ⟨e4,p24,rfl,rfl,H2⟩
   have hbd:=H2.1
   have hbp:=H2.2
   exact ZG 2 b3 (YY e4) (ie (ZM ⟨e4,p24,(GE.le hbd om),ob,rfl,rfl⟩ (wk [1,0,1,1,0] fl)))
  refine az (ZB 4 [3] (ic [0,3] (Pw rd bs (p+1) g gb rs f.params f.result 18 (Yd:=ob)) ?_))
  rintro _ _ ⟨e5,p25,rfl,rfl,H3⟩
  have hbd:=H3.1
  have hbp:=H3.2
  exact ZG 2 b3 (YY e5) (ie (ZM ⟨e5,p25,(GE.le hbd om),ob,rfl,rfl⟩ (wk [1,0,1,1,0] fl)))
 rintro F h ⟨eQ,p6,Av,Zbf,rfl,rfl⟩
 refine Yq 1 [1] (ic [] (PD eQ (hz:=(by have:=Av.2;omega))) ?_)
 rintro _ _ ⟨w2,rfl,rfl,LQ⟩
 have LN:=LQ
 have Xo:=Av.2
 refine Y3 (w2<0) (fun YI=>?_) (fun YI=>?_)
 ·refine Zq 4 [3] (ic [0,3] (Pw rd bs p6 g gb rs f.params f.result 12 (Yd:=ob)) ?_)
  rintro _ _ ⟨e6,p26,rfl,rfl,LR⟩
  have hbd:=LR.1
  have hbp:=LR.2
  exact ZG 3 b2 (YY e6) (ie (Yc (r3 [1,1] [Yb e6] [0] [(b2,b2)] ⟨e6,p26,rfl,rfl,⟨hbd,by omega⟩⟩ (lr _))))
 exact ak (Zq 1 [1] (ZG 2 b2 (YY eQ) (ie (Yc (r3 [1,3] [Yb eQ] [0] [(b2,b2)] ⟨eQ,p6,rfl,rfl,⟨⟨Av.1,by omega⟩,by omega⟩⟩ (lr _))))))
theorem Q0 (ps:LI) (rt:Int) :Zm 265 [Z4 ps,.i rt] [] (Yt (Et (Func.mk ps rt (Z2.mk 0 0 [])))):=by
 exact ZD 8 Tryz.func265 (ar (iA [nl,.i 0,.i 0,.i 0,nl] fun b1=>ie (ZX 3 (ZG 0 b1 [Z4 ps,.i rt,.i 0,.i 0,nl] (ie (Yc (r3 [] [.agg [Z4 ps,.i rt,.i 0,.i 0,nl]] [0] [(b1,b1)] ⟨rfl,rfl⟩ (Zl.agg (.cons (Zl.sl _ (Yn Z6 ob)) (.cons li (.cons li (.cons li (.cons (Zl.sl _ rfl) .nil)))))))))))))
theorem Z9o (rd:Nat) (bs:LI) (p:Nat) (xs:LI) (Yd:∀z∈bs,0<=z/\z<=255) (hp:p+1<=1000000000:=by exact ob) (hx:0<xs.length/\xs.length<=1000000:=by exact ob) (hy:xs.all (fun x=>decide (0<=x))=true:=by exact ob):Zm 28 [.p rd 0,Z4 xs] [YU rd bs p] (fun r h=>∃(nn:Nat),r=.i nn/\h=[.obj rd [Uv bs,.i (p+1:Nat)]]/\(nn:Int)∈xs):=(JA rd bs p xs Yd hp hx).mono fun r h ⟨z,hr,hh,hz⟩=>by
  have h0:0<=z:=of_decide_eq_true (A0.1 hy z hz)
  exact ⟨z.toNat,by rw [hr,Int.toNat_of_nonneg h0],hh,by rw [Int.toNat_of_nonneg h0];exact hz⟩
theorem Z8d (rd:Nat) (bs:LI) (p:Nat) (g:W5) (gb:Nat) (rs:List Func) (f:Func) (i:Int) (nl:Nat) (Yd:∀z∈bs,0<=z/\z<=255) (hp:p+90000<=1000000000:=by exact ob) (hg:GP g:=by exact ob) (Wf:g.funcs <+: rs:=by exact ob) (hi:0<=i:=by exact ob) (hf:g.funcs[i.toNat]? = some f:=by exact ob) (h0:i=0->f.params.length=0:=by exact ob) (hn:g.funcs.length=nl:=by exact ob):Zm 266 [.p rd 0,.agg [Yu g.decls,.ms gb 0 nl 4],.i i] [YU rd bs p,XP gb rs] (fun r h=>∃(e:Z2) (p2:Nat),r=Yb e/\h=[YU rd bs p2,XP gb rs]/\GE g f.params.length 30 e/\p<=p2/\p2<=p+90000):=(by subst hn;exact Z8c rd bs p g gb rs f i Yd hp hg Wf hi hf h0)
theorem Z93 (rd:Nat) (bs:LI) (p:Nat) (Yd:∀z∈bs,0<=z/\z<=255) (hp:p+400000<=1000000000):Zm 222 [.p rd 0] [YU rd bs p] (fun r h=>∃(rs:List Func) (ds:List Zc) (m:Nat) (gb:Nat) (p2:Nat),r=.agg [Yu ds,.ms gb 0 m 4]/\h=[XP gb rs,YU rd bs p2]/\(GL ds m 0 rs/\GD ds/\1<=m/\m<=4)/\p<=p2/\p2<=p+400000):=by
 refine ZD 110 Tryz.func222 (ar (iA [nl,nl] fun b1=>ie (ZX 1 (ic [1] (Z8z rd bs p (Yd:=ob)) ?_))))
 rintro _ _ ⟨ds1,v1,rfl,rfl,ZT⟩
 have hgd:=ZT
 refine Z0 1 (iA [nl,nl] fun b2=>ZG 0 b2 [Q4 ds1 v1,nl] (ie (ar (iL (Z6 [1]) 1 1 fun v2=>Y0 0 [(13,Z4 [1])] (Zw [] (Q0 [1] 0) (iL (Z6 [1,1]) 2 1 fun v3=>Y0 0 [(15,Z4 [1,1])] (Zw [] (Q0 [1,1] 1) (iL (Z6 [1]) 1 1 fun v4=>Y0 0 [(17,Z4 [1])] (Zw [] (Q0 [1] 1) (iL (Z6 [1,0]) 2 1 fun v5=>Y0 0 [(19,Z4 [1,0])] (Zw [] (Q0 [1,0] 1) (iL (Z6 [2,1]) 2 1 fun v6=>Y0 0 [(21,Z4 [2,1])] (Zw [] (Q0 [2,1] 1) (iL (Z6 [1,1]) 2 1 fun v7=>Y0 0 [(23,Z4 [1,1])] (Zw [] (Q0 [1,1] 0) (iL (Xt [Func.mk [1] 0 (Z2.mk 0 0 []),Func.mk [1,1] 1 (Z2.mk 0 0 []),Func.mk [1] 1 (Z2.mk 0 0 []),Func.mk [1,0] 1 (Z2.mk 0 0 []),Func.mk [2,1] 1 (Z2.mk 0 0 []),Func.mk [1,1] 0 (Z2.mk 0 0 [])]) 6 5 fun v8=>Z1 (ar (iL (Z6 [3]) 1 1 fun v9=>Y0 0 [(26,Z4 [3])] (Zw [] (Q0 [3] 0) (iL (Z6 [0]) 1 1 fun v10=>Y0 0 [(28,Z4 [0])] (Zw [] (Q0 [0] 1) (iL (Z6 [0,1]) 2 1 fun v11=>Y0 0 [(30,Z4 [0,1])] (Zw [] (Q0 [0,1] 1) (iL (Z6 [3,0]) 2 1 fun v12=>Y0 0 [(32,Z4 [3,0])] (Zw [] (Q0 [3,0] 3) (iL (Z6 [3]) 1 1 fun v13=>Y0 0 [(34,Z4 [3])] (Zw [] (Q0 [3] 1) (iL (Z6 [1,3,0]) 3 1 fun v14=>Y0 0 [(36,Z4 [1,3,0])] (Zw [] (Q0 [1,3,0] 0) (iL (Xt [Func.mk [3] 0 (Z2.mk 0 0 []),Func.mk [0] 1 (Z2.mk 0 0 []),Func.mk [0,1] 1 (Z2.mk 0 0 []),Func.mk [3,0] 3 (Z2.mk 0 0 []),Func.mk [3] 1 (Z2.mk 0 0 []),Func.mk [1,3,0] 0 (Z2.mk 0 0 [])]) 6 5 fun v15=>Z1 (ar (iL (Z6 [0]) 1 1 fun v16=>Y0 0 [(39,Z4 [0])] (Zw [] (Q0 [0] 0) (iL (Z6 [0,0]) 2 1 fun v17=>Y0 0 [(41,Z4 [0,0])] (Zw [] (Q0 [0,0] 0) (iL (Z6 [1,0]) 2 1 fun v18=>Y0 0 [(43,Z4 [1,0])] (Zw [] (Q0 [1,0] 0) (iL (Z6 [0]) 1 1 fun v19=>Y0 0 [(45,Z4 [0])] (Zw [] (Q0 [0] 1) (iL (Xt [Func.mk [0] 0 (Z2.mk 0 0 []),Func.mk [0,0] 0 (Z2.mk 0 0 []),Func.mk [1,0] 0 (Z2.mk 0 0 []),Func.mk [0] 1 (Z2.mk 0 0 [])]) 4 5 fun v20=>Z1 (aD 26 (Zo 23 26 [2,3,4] (dn 5 (.i (([Func.mk [1] 0 (Z2.mk 0 0 []),Func.mk [1,1] 1 (Z2.mk 0 0 []),Func.mk [1] 1 (Z2.mk 0 0 []),Func.mk [1,0] 1 (Z2.mk 0 0 []),Func.mk [2,1] 1 (Z2.mk 0 0 []),Func.mk [1,1] 0 (Z2.mk 0 0 [])].length:Nat):Int)) (.i (((Xt [Func.mk [1] 0 (Z2.mk 0 0 []),Func.mk [1,1] 1 (Z2.mk 0 0 []),Func.mk [1] 1 (Z2.mk 0 0 []),Func.mk [1,0] 1 (Z2.mk 0 0 []),Func.mk [2,1] 1 (Z2.mk 0 0 []),Func.mk [1,1] 0 (Z2.mk 0 0 [])]).length:Nat):Int)) (li (by rw [DC])) (Zo 19 22 [9,10,11] (dn 12 (.i (([Func.mk [3] 0 (Z2.mk 0 0 []),Func.mk [0] 1 (Z2.mk 0 0 []),Func.mk [0,1] 1 (Z2.mk 0 0 []),Func.mk [3,0] 3 (Z2.mk 0 0 []),Func.mk [3] 1 (Z2.mk 0 0 []),Func.mk [1,3,0] 0 (Z2.mk 0 0 [])].length:Nat):Int)) (.i (((Xt [Func.mk [3] 0 (Z2.mk 0 0 []),Func.mk [0] 1 (Z2.mk 0 0 []),Func.mk [0,1] 1 (Z2.mk 0 0 []),Func.mk [3,0] 3 (Z2.mk 0 0 []),Func.mk [3] 1 (Z2.mk 0 0 []),Func.mk [1,3,0] 0 (Z2.mk 0 0 [])]).length:Nat):Int)) (li (by rw [DC])) (Zo 15 18 [16,17,18] (dn 19 (.i (([Func.mk [0] 0 (Z2.mk 0 0 []),Func.mk [0,0] 0 (Z2.mk 0 0 []),Func.mk [1,0] 0 (Z2.mk 0 0 []),Func.mk [0] 1 (Z2.mk 0 0 [])].length:Nat):Int)) (.i (((Xt [Func.mk [0] 0 (Z2.mk 0 0 []),Func.mk [0,0] 0 (Z2.mk 0 0 []),Func.mk [1,0] 0 (Z2.mk 0 0 []),Func.mk [0] 1 (Z2.mk 0 0 [])]).length:Nat):Int)) (li (by rw [DC])) (Z8 0 (dL 0 [] [] (Z6 []) 0 1 fun v21=>Yy 13 13 [] [(48,Z4 [])] (Z8 1 (YD 1 [] [] [] (Q0 [] 0) (Z8 6 (dc 6 [22] [] [] (V3 rd bs (p+1) (([Func.mk [1] 0 (Z2.mk 0 0 []),Func.mk [1,1] 1 (Z2.mk 0 0 []),Func.mk [1] 1 (Z2.mk 0 0 []),Func.mk [1,0] 1 (Z2.mk 0 0 []),Func.mk [2,1] 1 (Z2.mk 0 0 []),Func.mk [1,1] 0 (Z2.mk 0 0 [])].length:Nat):Int) (Yd:=ob)) ?_)))))))))))))))))))))))))))))))))))))))))))))))))))))
 rintro _ _ ⟨k1,rfl,rfl,Yg⟩
 have qhp2:=Yg.lt (by simp)
 simp only [Ys,YF] at qhp2
 obtain ⟨x1,Z3⟩:=Zt [Func.mk [1] 0 (Z2.mk 0 0 []),Func.mk [1,1] 1 (Z2.mk 0 0 []),Func.mk [1] 1 (Z2.mk 0 0 []),Func.mk [1,0] 1 (Z2.mk 0 0 []),Func.mk [2,1] 1 (Z2.mk 0 0 []),Func.mk [1,1] 0 (Z2.mk 0 0 [])] k1.toNat (by simp only [Ys,YF];omega)
 refine dx 7 (Ze (some v8) k1 5 (Gy Z3)) (Zo 9 10 [8] (Z8 13 (dc 13 [0] [] [] (V3 rd bs ((p+1)+1) (([Func.mk [3] 0 (Z2.mk 0 0 []),Func.mk [0] 1 (Z2.mk 0 0 []),Func.mk [0,1] 1 (Z2.mk 0 0 []),Func.mk [3,0] 3 (Z2.mk 0 0 []),Func.mk [3] 1 (Z2.mk 0 0 []),Func.mk [1,3,0] 0 (Z2.mk 0 0 [])].length:Nat):Int) (Yd:=ob)) ?_)))
 rintro _ _ ⟨k2,rfl,rfl,YJ⟩
 have qhp3:=YJ.lt (by simp)
 simp only [Ys,YF] at qhp3
 obtain ⟨x2,Zv⟩:=Zt [Func.mk [3] 0 (Z2.mk 0 0 []),Func.mk [0] 1 (Z2.mk 0 0 []),Func.mk [0,1] 1 (Z2.mk 0 0 []),Func.mk [3,0] 3 (Z2.mk 0 0 []),Func.mk [3] 1 (Z2.mk 0 0 []),Func.mk [1,3,0] 0 (Z2.mk 0 0 [])] k2.toNat (by simp only [Ys,YF];omega)
 refine dx 14 (Ze (some v15) k2 5 (Gy Zv)) (Zo 6 7 [15] (Z8 20 (dc 20 [0] [] [] (V3 rd bs (((p+1)+1)+1) (([Func.mk [0] 0 (Z2.mk 0 0 []),Func.mk [0,0] 0 (Z2.mk 0 0 []),Func.mk [1,0] 0 (Z2.mk 0 0 []),Func.mk [0] 1 (Z2.mk 0 0 [])].length:Nat):Int) (Yd:=ob)) ?_)))
 rintro _ _ ⟨k3,rfl,rfl,YQ⟩
 have qhp4:=YQ.lt (by simp)
 simp only [Ys,YF] at qhp4
 obtain ⟨x3,YN⟩:=Zt [Func.mk [0] 0 (Z2.mk 0 0 []),Func.mk [0,0] 0 (Z2.mk 0 0 []),Func.mk [1,0] 0 (Z2.mk 0 0 []),Func.mk [0] 1 (Z2.mk 0 0 [])] k3.toNat (by simp only [Ys,YF];omega)
 refine dx 21 (Ze (some v20) k3 5 (Gy YN)) (Zo 3 4 [22] (Z8 23 (dKN 23 [] [] (Zu (Xt [Func.mk [] 0 (Z2.mk 0 0 []),x1,x2,x3])) 4 5 fun g1=>Zo 1 2 [24] (Z8 25 (X5 25 22 [] [] b2 [Q4 ds1 v1,.ms g1 0 4 4] (de (ZX 1 (iL (Z6 [4,4,3,2,4]) 5 1 fun v22=>Y0 0 [(74,Z4 [4,4,3,2,4])] (ic [3] (Z9o rd bs ((((p+1)+1)+1)+1) [4,4,3,2,4] (Yd:=ob) (hy:=(by decide))) ?_)))))))))
 rintro _ _ ⟨nn1,rfl,rfl,X4⟩
 have hnn:=Zd4 (a:=2) (b:=4) X4 (by decide)
 refine Z1 (Zq 3 [2] (Zp (Zbl 3 g1 4 4 nn1 5 (Zu (Xt [Func.mk [] 0 (Z2.mk 0 0 []),x1,x2,x3]))) (Z0 1 (ZG 2 b2 [Q4 ds1 v1,.ms g1 0 nn1 4] (ie (YR 1 (ia (((nn1:Int)-1)) (((nn1:Int))-(1)) (Z1 (ab 0 (Y1 (fun fz gz m F h=>∃(j:Nat) (rq:List Func) (pq:Nat),(j<=nn1)/\(GL ds1 nn1 j rq)/\(p<=pq/\pq+90000*j<=p+10+90000*nn1)/\F=sF [0,2,3] fz [(8,.i ((j:Int)-1))]/\h=[Zi gz 0,YU rd bs pq,Zi gz 25,Zi gz 24,XP g1 rq]/\m=j+1) _ _ _ ⟨nn1,[Func.mk [] 0 (Z2.mk 0 0 []),x1,x2,x3],((((p+1)+1)+1)+1)+1,ob,(GL.start (MK Z3 (by decide)) (MK Zv (by decide)) (MK YN (by decide))),ob,rfl,rfl,rfl⟩ (wk [0,0,23,22,1] fl) ?_))))))))))
 rintro m F h ⟨j,rq,pq,Yi,Zd,Zz,rfl,rfl,rfl⟩
 refine X6 (Y3 (((j:Int)-1)>=0) (fun Z9=>?_) (fun Z9=>?_))
 ·obtain ⟨f1,hf1⟩:=Zt (rq.take nn1) (((j:Int)-1).toNat) (by rw [Zd.len_take om];omega)
  have hfq:rq[j-1]? = some f1:=by have h:=hf1;rw [show ((j:Int)-1).toNat=j-1 by omega,List.getElem?_take_of_lt om] at h;exact h
  refine ak (aq (ab 1 (ar (QM 3 [(88,.agg [Yu ds1,.ms g1 0 nn1 4])] [0] (ic [1,3] (Z8d rd bs pq (W5.mk ds1 (rq.take nn1)) g1 rq f1 ((j:Int)-1) nn1 (Yd:=ob) (hg:=(Zd.gp hgd om)) (Wf:=(List.take_prefix nn1 rq)) (hf:=hf1) (h0:=(fun h=>Zd.zero f1 (by rw [<-hfq,show j-1=0 by omega]))) (hn:=(Zd.len_take om))) ?_)))))
  rintro _ _ ⟨e1,p21,rfl,rfl,Xy⟩
  have hbw:eW ds1 nn1 f1.params.length e1/\(e1).sz<=30:=by have h:=Xy.1;unfold GE at h;rw [show (W5.mk ds1 (rq.take nn1)).funcs.length=nn1 from Zd.len_take om] at h;exact h
  exact iA [.i 0,.i 0,nl] fun b3=>ZG 0 b3 (YY e1) (ie (aE 19 (ZV 13 19 [0,1,2,3,4,5] [3,3] (dx 6 (Vk g1 nn1 4 (((j:Int)-1).toNat) 5 ((j:Int)-1)) (Zo 11 12 [7] (TU 8 (Ul 2 g1 4 4 5 ((((j:Int)-1).toNat)*5+0) (Zu (Xt rq)) [Z4 f1.params] 23 (Z4 f1.params) (UC (List.take_prefix nn1 rq) hf1 0 rfl (Vd rfl))) (ZV 7 10 [9,10,11] [3] (dx 12 (Vk g1 nn1 4 (((j:Int)-1).toNat) 5 ((j:Int)-1)) (Zo 5 6 [13] (TU 14 (Ul 2 g1 4 4 5 ((((j:Int)-1).toNat)*5+1) (Zu (Xt rq)) [.i f1.result] 3 (.i f1.result) (UC (List.take_prefix nn1 rq) hf1 1 rfl (Vd rfl))) (ZV 2 4 [15,16] [0] (dx 17 (Vk g1 nn1 4 (((j:Int)-1).toNat) 5 ((j:Int)-1)) (Z8 18 (EA 18 2 [] [] g1 4 4 5 ((((j:Int)-1).toNat)*5) [Z4 f1.params,.i f1.result,.i e1.op,.i e1.num,Xz e1.kids] (Zu (Xt rq)) (Zu (Xt (rq.set ((j:Int)-1).toNat ⟨f1.params,f1.result,e1⟩))) (by rw [Lw,Zd.len];simp only [Ys,YF];omega) (Z7z ⟨f1.params,f1.result,e1⟩ (by rw [Zd.len];omega)) (de (az (Z0 1 (ia ((((j:Int)-1)-1)) (((j:Int)-1)-(1)) (Z1 (ZE ⟨(j-1),(rq.set ((j:Int)-1).toNat ⟨f1.params,f1.result,e1⟩),p21,ob,(by rw [show ((j:Int)-1).toNat=j-1 by omega];exact Zd.set om hfq hbw),ob,rfl,rfl,rfl⟩ (wk [3,2,2,2,0] (fc (x:=.i (((j:Int)-1)-1)) li fl))))))))))))))))))))))
 exact ax 0 (Zq 1 [0] (ZG 2 b1 [Q4 ds1 v1,.ms g1 0 nn1 4] (ie (Yc (r3 [4,2] [.agg [Q4 ds1 v1,.ms g1 0 nn1 4]] [0] [(b1,b1)] ⟨rq,ds1,nn1,g1,pq,rfl,rfl,⟨⟨by rw [show j=0 by omega] at Zd;exact Zd,hgd,by omega,by omega⟩,by omega⟩⟩ (Zl.agg (.cons (Zl.forget _ _) (.cons (lr _) .nil))))))))
theorem Z92 (rd:Nat) (bs:LI) (p:Nat) (Yd:∀z∈bs,0<=z/\z<=255) (hp:p+400000<=1000000000:=by exact ob):Zm 222 [.p rd 0] [YU rd bs p] (fun r h=>∃(g:W5) (p2:Nat),r=AY g/\h=[YU rd bs p2]/\Il g/\p<=p2/\p2<=p+400000):=(V1.frzP (E:=List Func × List Zc × Nat × Nat) (ds:=fun e=>e.2.1) (rs:=fun e=>e.1) (m:=fun e=>e.2.2.1) (hs:=fun e=>[.obj rd [Uv bs,.i (e.2.2.2:Nat)]]) (Q:=fun e=>(GL e.2.1 e.2.2.1 0 e.1/\GD e.2.1/\1<=e.2.2.1/\e.2.2.1<=4)/\p<=e.2.2.2/\e.2.2.2<=p+400000)
  ((Z93 rd bs p Yd hp).mono fun r h ⟨rs,ds,m,gb,p2,hr,hh,hq⟩=>⟨(rs,ds,m,p2),gb,hr,hh,hq⟩) fun e hq=>⟨hq.1.2.2.2,hq.1.1.len⟩).mono
  fun r h ⟨e,hr,hh,hq⟩=>⟨⟨e.2.1,e.1.take e.2.2.1⟩,e.2.2.2,hr,hh,hq.1.1.done hq.1.2.1 hq.1.2.2,hq.2⟩
theorem LG (a:Nat) (n:Nat) (ha:a<=1000000:=by exact ob) (hn:n<=1000000:=by exact ob):Zm 112 [.i a,.i n] [] (fun r h=>∃(xs:LI),r=Z4 xs/\h=[]/\xs.length=n/\∀i∈xs,(a:Int)<=i/\i<(a:Int)+n):=by
 refine ZD 20 Tryz.func112 (ZY (ar (iL (Z6 []) 0 1 fun v1=>?_)))
 refine Z1 (Y5 (ab 0 (Y1 (fun fz gz m F h=>∃(k:Nat) (ys:LI) (u:Value),(k<=n)/\(ys.length=k)/\(∀i∈ys,(a:Int)<=i/\i<(a:Int)+n)/\F=sF [0,1] fz [(5,Y6 ys u),(6,.i k)]/\h=[.tail u 1]/\m=n-k) _ _ _ ⟨0,[],v1,ob,ob,(fun i hi=>by cases hi),rfl,rfl,rfl⟩ (wk [0] (fr (Ya fl))) ?_)))
 rintro m F h ⟨k,ys,u,Yi,Zd,Zz,rfl,rfl,rfl⟩
 refine X6 (Y3 ((k:Int)<(n:Int)) (fun Z9=>?_) (fun Z9=>?_))
 ·exact ak (aq (ab 1 (az (Z0 3 (ia (((a+k:Nat):Int)) (((a:Int))+((k:Int))) (iL (Z6 [((a+k:Nat):Int)]) 1 1 fun v2=>Y0 0 [(17,Z4 [((a+k:Nat):Int)])] (ip 1 (Z6 (ys++[((a+k:Nat):Int)])) (Z6 ys) (Z6 [((a+k:Nat):Int)]) u none 1 (YG _) (YG _) (XT _) (by simp<;>omega) (by simp [XX,Z6]) fun v3=>Z1 (az (Z0 1 (ZC k (Z1 (ZE ⟨k+1,(ys++[((a+k:Nat):Int)]),v3,ob,ob,(XC Zz om),rfl,rfl,rfl⟩ (wk [0] (fr (ZI k fl)))))))))))))))
 exact ax 0 (ar (Zk (r2 [] [Y6 ys u] ⟨ys,rfl,rfl,⟨by omega,Zz⟩⟩ (Zl.forget _ _))))
theorem Ps (l:Nat) (xs:List Z5) (w:Value) (q:Nat) (s:Z5) (hl:xs.length<=4000000000:=by exact ob) (hq:q<=1000000:=by exact ob):Zm 330 [.p l 0,X3 s] [.obj l [Xe xs w,.i q],.tail w 5] (fun r h=>∃(w2:Value),r=.i q/\h=[.obj l [Xe (xs++[s]) w2,.i (((q+1):Nat):Int)],.tail w2 5]):=by
 exact ZD 28 Tryz.func330 (ar (iA (W7 s) fun b1=>Z1 (aD 11 (ZV 5 11 [0,1,2,3,4,5] [1,0] (Z8 6 (WB 6 [1] [l] [X3 s] (ZQ [s]) (U4 [s]).symm 1 5 fun v1=>Yy 4 4 [] [(11,Vl [s])] (Z8 7 (dp 7 3 [] [] (ZQ (xs++[s])) (ZQ xs) (ZQ [s]) w none 5 (XD _) (XD _) (Uk _) (by simp<;>omega) (by simp [Vt,ZQ]) fun v2=>Zo 1 3 [8,9] (Z8 10 (X5 10 3 [] [] l [Xe (xs++[s]) v2,.i q] (de (Zq 5 [0] (ZC q (Z0 2 (ZG 0 l [Xe (xs++[s]) v2,.i (q+1:Nat)] (ie (Zq 4 [0] (ia ((((q+1:Nat):Int)-1)) ((((q+1:Nat):Int))-(1)) (Zk (r2 [0,0] [.i (((q+1:Nat):Int)-1)] ⟨v2,rfl,rfl⟩ li))))))))))))))))))))
theorem PC (g:W5) (e:Z2) (us:LI) (q:Nat) (bb:Nat) (he:eW g.decls g.funcs.length us.length e:=by exact ob) (hu:∀a∈us,0<=a/\a<(q:Int)) (hul:us.length+4*e.sz<=100000:=by exact ob) (hql:q+6*e.sz<=100000:=by exact ob) (hb:e.sz<bb:=by exact ob) (ih:∀(l:Nat) (e2:Z2) (us2:LI) (xs2:List Z5) (w2:Value) (q2:Nat),(eW g.decls g.funcs.length us2.length e2)->(∀a∈us2,0<=a/\a<(q2:Int))->(us2.length+4*e2.sz<=100000)->(xs2.length+6*e2.sz<=100000)->(q2+6*e2.sz<=100000)->(e2.sz<bb)->Zm 302 [.p l 0,AY g,Yb e2,Z4 us2] [.obj l [Xe xs2 w2,.i q2],.tail w2 5] (fun r h=>∃(ys:List Z5) (v:Int) (w2:Value),r=.i v/\h=[.obj l [Xe (xs2++ys) w2,.i (((q2+Yp ys):Nat):Int)],.tail w2 5]/\LW g.decls g.funcs.length q2 e2 ys v)):Zm 263 [AY g,Yb e,Z4 us,.i q] [] (fun r h=>∃(b:Z7),r=Ym b/\h=[]/\LB g.decls g.funcs.length q e b):=by
 refine ZD 26 Tryz.func263 (ar (iA (M1 g) fun b1=>iA (YY e) fun b2=>iA [nl,.i 0] fun b3=>ie (ar (iL (ZQ []) 0 5 fun v1=>Z0 2 (iA [Xe [] v1,.i q] fun b4=>Z1 (Zq 4 [4,3] (ic [0,0] (ih b4 e us [] v1 q he hu ob ob ob ob) ?_)))))))
 rintro _ _ ⟨ys1,v2,w21,rfl,rfl,ZT⟩
 have hlw:=ZT
 exact Z1 (Zq 6 [0] (ZG 2 b3 [Xe ([]++ys1) w21,.i v2] (ie (Yc (r3 [] [.agg [Xe ([]++ys1) w21,.i v2]] [0] [(b3,b3)] ⟨(Z7.mk ([]++ys1) v2),rfl,rfl,(by rw [Jq];exact hlw.block)⟩ (Zl.agg (.cons (Zl.forget _ _) (.cons (lr _) .nil))))))))
theorem Z9g (l:Nat) (g:W5) (e:Z2) (us:LI) (xs:List Z5) (w:Value) (q:Nat) (hd:GD g.decls) (he:eW g.decls g.funcs.length us.length e) (hu:∀a∈us,0<=a/\a<(q:Int)) (hul:us.length+4*e.sz<=100000) (hxl:xs.length+6*e.sz<=100000) (hql:q+6*e.sz<=100000) (ih:∀(l:Nat) (e2:Z2) (us2:LI) (xs2:List Z5) (w2:Value) (q2:Nat),(eW g.decls g.funcs.length us2.length e2)->(∀a∈us2,0<=a/\a<(q2:Int))->(us2.length+4*e2.sz<=100000)->(xs2.length+6*e2.sz<=100000)->(q2+6*e2.sz<=100000)->(e2.sz<e.sz)->Zm 302 [.p l 0,AY g,Yb e2,Z4 us2] [.obj l [Xe xs2 w2,.i q2],.tail w2 5] (fun r h=>∃(ys:List Z5) (v:Int) (w2:Value),r=.i v/\h=[.obj l [Xe (xs2++ys) w2,.i (((q2+Yp ys):Nat):Int)],.tail w2 5]/\LW g.decls g.funcs.length q2 e2 ys v)):Zm 302 [.p l 0,AY g,Yb e,Z4 us] [.obj l [Xe xs w,.i q],.tail w 5] (fun r h=>∃(ys:List Z5) (v:Int) (w2:Value),r=.i v/\h=[.obj l [Xe (xs++ys) w2,.i (((q+Yp ys):Nat):Int)],.tail w2 5]/\LW g.decls g.funcs.length q e ys v):=by
 have Xp:=hd.ok
 obtain ⟨ho,h12,h13,h7,h8,h9,hnum,hkl,hks⟩:=(Z6a e).1 he
 have hez:=e.sz_eq
 refine ZD 148 Tryz.func302 (ar (iA (M1 g) fun b1=>iA (YY e) fun b2=>Z1 (X6 (Vb [0] (ab 0 (ar (YS (e.op==12) Zg (fun Z9=>?_) (fun Z9=>?_))))))))
 ·refine Zq 3 [0] ?_
  obtain ⟨x1,Z3⟩:=Zt us e.num.toNat (by have:=h12 om;omega)
  have huv:=hu _ (Y4 Z3)
  exact Zp (Ze none e.num 1 (Y7 Z3)) (Zk (r1 [2,2] ⟨[],x1,w,rfl,rfl,(LW.var huv)⟩ (eq:=(ro (ls:=[Xe xs w,.i q]) (by simp [Yp]) (rc rz)))))
 refine ar (YS (e.op==13) Zg (fun Zh=>?_) (fun Zh=>?_))
 ·refine aD 9 (ZV 5 9 [0,1,2,3] [1,0] ?_)
  obtain ⟨x2,Zv⟩:=Zt e.kids 0 (by have:=h13 om;omega)
  have hekx2:=DG hks Zv
  have hszx2:=CG Zv
  have htzx2:=BS Zv
  rw [Wj] at hekx2
  rw [Z0x om] at hekx2
  refine dx 4 (Ze none 0 3 (DB Zv)) (Zo 2 4 [5,6] (Z8 7 (dc 7 [2,2] [] [] (ih l x2 us xs w q (by first|assumption|(rw [ZH];assumption)) (by first|assumption|exact FZ hu hlwhp1.v|exact I6 hu) (by first|omega|(simp only [ZH,Ys,YF];omega)) (by first|omega|(simp only [ZH,Ys,YF];omega)) ob ob) ?_)))
  rintro _ _ ⟨ys1,v1,w21,rfl,rfl,ZT⟩
  have hlwhp1:=ZT
  have hldhp1:=ZT.dn
  refine Zo 0 1 [8] (de (aD 12 (ZV 8 12 [0,1,2,3] [3,2] ?_)))
  obtain ⟨x3,YN⟩:=Zt e.kids 1 (by have:=h13 om;omega)
  have hz2:=OQ Zv YN
  have hz3:=x2.sz_eq
  have hekx3:=DG hks YN
  have hszx3:=CG YN
  have htzx3:=BS YN
  rw [Wj] at hekx3
  rw [Z0x om] at hekx3
  refine dx 4 (Ze none 1 3 (DB YN)) (Zo 4 7 [5,6,7] (Z8 8 (dL 8 [1,2] [b2,b1] (Z6 [v1]) 1 1 fun v2=>Yy 3 3 [] [(45,Z4 [v1])] (Z8 9 (dc 9 [] [1,2] [b2,b1] (TA us [v1]) ?_)))))
  rintro _ _ ⟨v3,rfl,rfl⟩
  refine Yy 2 2 [] [(46,Z4 (us++[v1]))] (Z8 10 (dc 10 [2,2] [] [] (ih l x3 (us++[v1]) (xs++ys1) w21 (q+Yp ys1) (by first|assumption|(rw [ZH];assumption)) (by first|assumption|exact FZ hu hlwhp1.v|exact I6 hu) (by first|omega|(simp only [ZH,Ys,YF];omega)) (by first|omega|(simp only [ZH,Ys,YF];omega)) ob ob) ?_))
  rintro _ _ ⟨ys2,v4,w22,rfl,rfl,Yg⟩
  have hlwhp2:=Yg
  have hldhp2:=Yg.dn
  exact Zo 0 1 [11] (de (Yc (r1 [0,0] ⟨(ys1++ys2),v4,w22,rfl,rfl,(LW.let_ hlwhp1 hlwhp2 (by have:=OQ Zv YN;omega))⟩ (eq:=(ro (ls:=[Xe ((xs++ys1)++ys2) w22,.i ((((q+Yp ys1)+Yp ys2):Nat):Int)]) (by rw [T6,<-AS,XM]) (rc rz))))))
 refine Y5 (Xw (fun fz gz F h=>F=sF [0,3,5,6] fz [(48,.b ((e.op==7)||(e.op==8)))]/\h=gz) ?_ ?_)
 ·refine ac (e.op==7) Zg (fun ZA=>?_) (fun ZA=>?_)
  ·exact ak (ZM ⟨rfl,rfl⟩ (Zs 4 (fc (x:=.b (e.op==7)) (lb (by first|rfl|(rw [Zf ZA])|(rw [Za ZA])|(simp [ZA];done)|(rw [Ye];simp [ZA];done)|omega)) fl)))
  exact Vv (ZM ⟨rfl,rfl⟩ (Zs 4 (fc (x:=.b (e.op==8)) (lb (by first|rfl|(rw [Zf ZA])|(rw [Za ZA])|(simp [ZA];done)|(rw [Ye];simp [ZA];done)|omega)) fl)))
 rintro F h ⟨rfl,rfl⟩
 refine ac ((e.op==7)||(e.op==8)) (p:=(e.op=7)∨(e.op=8)) (ZJ Zg Zg) (fun Yk=>?_) (fun Yk=>?_)
 ·refine aD 9 (ZV 5 9 [0,1,2,3] [1,0] ?_)
  obtain ⟨x4,WS⟩:=Zt e.kids 0 om
  have hekx4:=DG hks WS
  have hszx4:=CG WS
  have htzx4:=BS WS
  rw [Wj] at hekx4
  rw [Zfu om] at hekx4
  refine dx 4 (Ze none 0 3 (DB WS)) (Zo 2 4 [5,6] (Z8 7 (dc 7 [2,2] [] [] (ih l x4 us xs w q (by first|assumption|(rw [ZH];assumption)) (by first|assumption|exact FZ hu hlwhp1.v|exact I6 hu) (by first|omega|(simp only [ZH,Ys,YF];omega)) (by first|omega|(simp only [ZH,Ys,YF];omega)) ob ob) ?_)))
  rintro _ _ ⟨ys3,v5,w23,rfl,rfl,YJ⟩
  have hlwhp3:=YJ
  have hldhp3:=YJ.dn
  refine Zo 0 1 [8] (de (ar (iL (XL []) 0 2 fun v6=>Z1 (Zq 4 [4,3] (ic [] (Je g.decls e.num) ?_)))))
  rintro _ _ ⟨v7,rfl,rfl⟩
  refine Z1 (Y5 (ab 1 (Y1 (fun fz gz m F h=>∃(k:Nat) (cs:List Z7) (u:Value),(1<=k/\k<=e.kids.length)/\(cs.length+1=k)/\(VB g.decls g.funcs.length (WK g.decls e.op e.num (q+Yp ys3)) 0 cs)/\(YV cs+6*x4.sz<=cs.length+6*Xx (e.kids.take k))/\(Kc WQ cs)/\F=sF [0,3,5,6,10] fz [(11,Qu cs u),(12,Z4 (ZU g.decls e.num)),(13,.i k)]/\h=[Zi gz 2,Zi gz 4,Zi gz 5,.tail u 2,Zi gz 3]/\m=e.kids.length-k) _ _ _ ⟨1,[],v6,ob,ob,True.intro,(by have h:Xx (e.kids.take 1)=Xx (e.kids.take 0)+x4.sz:=BS WS;simp only [YV,YF];omega),True.intro,rfl,rfl,rfl⟩ (wk [2,3,3,1,1] (fr (fc (x:=Y6 (ZU g.decls e.num) v7) (Zl.forget _ _) (fc (x:=.i 1) li fl)))) ?_)))
  rintro m F h ⟨k,cs,u,Yi,Zd,Zz,YA,Wb,rfl,rfl,rfl⟩
  refine Yq 3 [1] (iw (Lb e.kids) (Y3 ((k:Int)<(e.kids.length:Int)) (fun YI=>?_) (fun YI=>?_)))
  ·refine ak (aq (ab 2 (ZY (X6 (Vb [1] (Xw (fun fz gz F h=>∃(mf:Nat),(WK g.decls e.op e.num (q+Yp ys3) cs.length=(q+Yp ys3)+mf)/\(mf<=3)/\(Qd g.decls e.op e.num us.length k=us.length+mf)/\F=sF [0,3,5,6,10,11,12,13] fz [(14,.i mf)]/\h=gz) ?_ ?_))))))
   ·refine ac (e.op==8) Zg (fun X9=>?_) (fun X9=>?_)
    ·refine aE 10 (ZV 6 10 [0,1,2,3] [2] (da 4 (((k-1:Nat):Int)) (((k:Int))-(1)) ?_))
     obtain ⟨x5,Us⟩:=Zt (ZU g.decls e.num) (k-1) (by have:=h8 om;omega)
     exact dx 5 (Ze none ((k-1:Nat):Int) 1 (Y7 Us)) (Zo 3 4 [6] (Z8 7 (YD 7 [] [] [] (Qy g.decls x5) (dn 8 (.i (((ZO g.decls x5).length:Nat):Int)) (.i (((Z6 (ZO g.decls x5)).length:Nat):Int)) (li (by rw [Y9])) (Zo 0 1 [9] (de (ZM ⟨(ZO g.decls x5).length,(MH om (by rw [show cs.length=k-1 by omega];exact Us)),(by have:=V8 Xp x5;omega),(Zfv om (show k=(k-1)+1 by omega) Us),rfl,rfl⟩ (Zs 5 (fc (x:=.i (((ZO g.decls x5).length:Nat):Int)) (li (by first|rfl|(rw [Zf X9])|(rw [Za X9])|(simp [X9];done)|(rw [Ye];simp [X9];done)|omega)) fl)))))))))
    exact ak (ZM ⟨0,(MI om),om,(Z0y om),rfl,rfl⟩ (Zs 5 (fc (x:=.i 0) (li (by first|rfl|(rw [Zf X9])|(rw [Za X9])|(simp [X9];done)|(rw [Ye];simp [X9];done)|omega)) fl)))
   rintro F h ⟨mf,Zbh,Zjv,Zbi,rfl,rfl⟩
   refine aE 25 (ZV 20 25 [0,1,2,3,4] [2,1] ?_)
   obtain ⟨x6,CN⟩:=Zt e.kids k om
   have hekx6:=DG hks CN
   have hszx6:=CG CN
   have htzx6:=BS CN
   rw [Wj] at hekx6
   rw [Zbi] at hekx6
   have htk:=Ba (xs:=e.kids) (k+1)
   have hbl:=Gl cs
   refine dx 5 (Ze none (k:Int) 3 (DB CN)) (ZV 7 19 [6,7,8,9,10,11,12,15,16,17,18,19] [0,0] (da 20 ((((q+Yp ys3)+mf:Nat):Int)) (((((q+Yp ys3):Nat):Int))+((mf:Int))) (Z8 13 (dc 13 [] [0,1,2] [l,b2,b1] (LG (q+Yp ys3) mf) ?_))))
   rintro _ _ ⟨xs1,rfl,rfl,YQ⟩
   have hnx:=YQ
   refine Z8 14 (dc 14 [] [0,1,2] [l,b2,b1] (TA us xs1) ?_)
   rintro _ _ ⟨v8,rfl,rfl⟩
   refine Yy 4 4 [] [(98,Z4 (us++xs1))] (Z8 21 (dc 21 [] [] [] (PC g x6 (us++xs1) ((q+Yp ys3)+mf) e.sz (he:=(by rw [ZH,hnx.1];exact hekx6)) (hu:=(Zit hu hnx.2)) (hul:=(by rw [ZH,hnx.1];omega)) (hql:=om) (ih:=ih)) ?_))
   rintro _ _ ⟨b3,rfl,rfl,X4⟩
   have hlb:=X4
   exact Z8 22 (WB 22 [] [] [Ym b3] (XL [b3]) (K0 [b3]).symm 1 2 fun v9=>Yy 2 2 [] [(106,JQ [b3])] (Z8 23 (dp 23 5 [] [] (XL (cs++[b3])) (XL cs) (XL [b3]) u none 2 (J0 _) (J0 _) (Gw _) (by simp<;>omega) (by simp [CD,XL]) fun v10=>Zo 0 1 [24] (de (az (Z0 1 (ZC k (Z1 (ZE ⟨k+1,(cs++[b3]),v10,ob,ob,(OT Zz (by rw [Zbh];exact hlb.1)),(by have:=hlb.2;rw [Gk,ZH];simp only [YV,Ys,YF];omega),(Sc Wb hlb.op),rfl,rfl,rfl⟩ (wk [3,3,3,0,2] (fw (ZI k fl))))))))))))
  refine ax 1 (Zq 6 [1,1] (iL (Z6 [v5]) 1 1 fun v11=>Y0 2 [(116,.agg [.i e.op,.i e.num,.i 0,Z4 [v5],JQ cs])] (ic [1,4] (Ps l (xs++ys3) w23 (q+Yp ys3) (Z5.mk e.op e.num 0 [v5] cs) (hl:=(by first|(have h1:=Jg zs;have h2:=Ba (xs:=e.kids) k;have h3:=B6 zs;(try simp only [ZH]);omega)|((try simp only [ZH]);omega))) (hq:=(by first|(have h1:=Jg zs;have h2:=Ba (xs:=e.kids) k;have h3:=B6 zs;(try simp only [ZH]);omega)|((try simp only [ZH]);omega)))) ?_)))
  rintro _ _ ⟨w24,rfl,rfl⟩
  refine Z1 ?_
  have hcb:YM e.op=false:=by simp [YM];omega
  exact Yc (r1 [0,0] ⟨(ys3++[Z5.mk e.op e.num 0 [v5] cs]),(((q+Yp ys3):Nat):Int),w24,rfl,rfl,(LW.branch (s0:=x4.sz) (sr:=Xx (e.kids.take k)-x4.sz) om (fun h=>by have:=h7 h;omega) (fun h=>by have:=h8 h;omega) hnum hlwhp3.fs hlwhp3.v Zz om hlwhp3.sz (by have:=Gl cs;omega) (by have:=Ba (xs:=e.kids) k;omega) hlwhp3.op Wb)⟩ (eq:=(ro (ls:=[Xe ((xs++ys3)++[(Z5.mk e.op e.num 0 [v5] cs)]) w24,.i ((((q+Yp ys3)+1):Nat):Int)]) (by rw [EC (s:=Z5.mk e.op e.num 0 [v5] cs) hcb,<-AS,XM]) (rc rz))))
 refine ak (ar (iL (Z6 []) 0 1 fun v12=>?_))
 refine Z1 (Y5 (ab 3 (Y1 (fun fz gz m F h=>∃(k:Nat) (asl:LI) (u:Value) (zs:List Z5) (w3:Value),(k<=e.kids.length)/\(asl.length=k)/\(W3 g.decls g.funcs.length q zs)/\(∀a∈asl,0<=a/\a<((q+Yp zs:Nat):Int))/\(Yr zs<=6*Xx (e.kids.take k))/\(Q6 WQ zs)/\F=sF [0,3,5,6] fz [(15,Y6 asl u),(16,.i k)]/\h=[Zi gz 1,Zi gz 2,.obj l [Xe (xs++zs) w3,.i (((q+Yp zs):Nat):Int)],.tail u 1,.tail w3 5]/\m=e.kids.length-k) _ _ _ ⟨0,[],v12,[],w,ob,ob,True.intro,(fun a ha=>by cases ha),(by simp [Yr]),True.intro,rfl,rfl,rfl⟩ (wk [1,1,1,0,0] (fr (Ya fl)) (e:=(rc (rc (ro (ls:=[Xe xs w,.i q]) (by simp [Yp]) (rc (rc rz))))))) ?_)))
 rintro m F h ⟨k,asl,u,zs,w3,VG,Xm,XN,Dp,Zjk,NQ,rfl,rfl,rfl⟩
 refine Yq 3 [0] (iw (Lb e.kids) (Y3 ((k:Int)<(e.kids.length:Int)) (fun WH=>?_) (fun WH=>?_)))
 ·refine ak (aq (ab 4 (aD 10 (ZV 5 10 [0,1,2,3,4] [1,0] ?_))))
  obtain ⟨x7,H4⟩:=Zt e.kids k om
  have hzl:=Jg zs
  have hzd:=B6 zs
  have htk:=Ba (xs:=e.kids) (k+1)
  have hekx7:=DG hks H4
  have hszx7:=CG H4
  have htzx7:=BS H4
  rw [Wj] at hekx7
  rw [Z0y om] at hekx7
  refine dx 5 (Ze none (k:Int) 3 (DB H4)) (Zo 2 4 [6,7] (Z8 8 (dc 8 [2,3] [] [] (ih l x7 us (xs++zs) w3 (q+Yp zs) (by first|assumption|(rw [ZH];assumption)) (by first|assumption|exact FZ hu hlwhp1.v|exact I6 hu) (by first|omega|(simp only [ZH,Ys,YF];omega)) (by first|omega|(simp only [ZH,Ys,YF];omega)) ob ob) ?_)))
  rintro _ _ ⟨ys4,v13,w25,rfl,rfl,Xy⟩
  have hlwhp6:=Xy
  have hldhp6:=Xy.dn
  exact Zo 0 1 [9] (de (az (Z0 2 (iL (Z6 [v13]) 1 1 fun v14=>Y0 0 [(137,Z4 [v13])] (ip 5 (Z6 (asl++[v13])) (Z6 asl) (Z6 [v13]) u none 1 (YG _) (YG _) (XT _) (by simp<;>omega) (by simp [XX,Z6]) fun v15=>Z1 (az (Z0 1 (ZC k (Z1 (ZE ⟨k+1,(asl++[v13]),v15,(zs++ys4),w25,ob,ob,(Ap.2 ⟨XN,hlwhp6.fs⟩),(by rw [T6,<-AS];exact FZ Dp hlwhp6.v),(by have:=hlwhp6.sz;rw [Qf];omega),(Hx.2 ⟨NQ,hlwhp6.op⟩),rfl,rfl,rfl⟩ (wk [4,4,2,0,1] (fr (ZI k fl)) (e:=(rc (rc (ro (ls:=[Xe ((xs++zs)++ys4) w25,.i ((((q+Yp zs)+Yp ys4):Nat):Int)]) (by rw [T6,<-AS,XM]) (rc (rc rz)))))))))))))))))
 refine ax 3 (Zq 6 [0,0] (iL (XL []) 0 2 fun v16=>Y0 1 [(146,.agg [.i e.op,.i e.num,.i 0,Z4 asl,JQ []])] (ic [3,4] (Ps l (xs++zs) w3 (q+Yp zs) (Z5.mk e.op e.num 0 asl []) (hl:=(by first|(have h1:=Jg zs;have h2:=Ba (xs:=e.kids) k;have h3:=B6 zs;(try simp only [ZH]);omega)|((try simp only [ZH]);omega))) (hq:=(by first|(have h1:=Jg zs;have h2:=Ba (xs:=e.kids) k;have h3:=B6 zs;(try simp only [ZH]);omega)|((try simp only [ZH]);omega)))) ?_)))
 rintro _ _ ⟨w26,rfl,rfl⟩
 refine Z1 ?_
 have hcb:YM e.op=false:=by simp [YM];omega
 exact Yc (r1 [0,0] ⟨(zs++[Z5.mk e.op e.num 0 asl []]),(((q+Yp zs):Nat):Int),w26,rfl,rfl,(LW.node om h9 hnum XN Dp om (by have:=Ba (xs:=e.kids) k;omega) NQ)⟩ (eq:=(ro (ls:=[Xe ((xs++zs)++[(Z5.mk e.op e.num 0 asl [])]) w26,.i ((((q+Yp zs)+1):Nat):Int)]) (by rw [EC (s:=Z5.mk e.op e.num 0 asl []) hcb,<-AS,<-XM]) (rc rz))))
theorem Z9f (l:Nat) (g:W5) (e:Z2) (us:LI) (xs:List Z5) (w:Value) (q:Nat) (hd:GD g.decls) (he:eW g.decls g.funcs.length us.length e) (hu:∀a∈us,0<=a/\a<(q:Int)) (hul:us.length+4*e.sz<=100000) (hxl:xs.length+6*e.sz<=100000) (hql:q+6*e.sz<=100000):Zm 302 [.p l 0,AY g,Yb e,Z4 us] [.obj l [Xe xs w,.i q],.tail w 5] (fun r h=>∃(ys:List Z5) (v:Int) (w2:Value),r=.i v/\h=[.obj l [Xe (xs++ys) w2,.i (((q+Yp ys):Nat):Int)],.tail w2 5]/\LW g.decls g.funcs.length q e ys v):=by
 have key:∀k:Nat,∀(l:Nat) (e2:Z2) (us2:LI) (xs2:List Z5) (w2:Value) (q2:Nat),(eW g.decls g.funcs.length us2.length e2)->(∀a∈us2,0<=a/\a<(q2:Int))->(us2.length+4*e2.sz<=100000)->(xs2.length+6*e2.sz<=100000)->(q2+6*e2.sz<=100000)->(e2.sz<k)->Zm 302 [.p l 0,AY g,Yb e2,Z4 us2] [.obj l [Xe xs2 w2,.i q2],.tail w2 5] (fun r h=>∃(ys:List Z5) (v:Int) (w2:Value),r=.i v/\h=[.obj l [Xe (xs2++ys) w2,.i (((q2+Yp ys):Nat):Int)],.tail w2 5]/\LW g.decls g.funcs.length q2 e2 ys v):=by
  intro k
  induction k with
  | zero=>intro l e2 us2 xs2 w2 q2 h1 h2 h3 h4 h5 h6;omega
  | succ k ih=>intro l e2 us2 xs2 w2 q2 h1 h2 h3 h4 h5 h6;exact Z9g l g e2 us2 xs2 w2 q2 hd h1 h2 h3 h4 h5 fun l e3 us3 xs3 w3 q3 a1 a2 a3 a4 a5 a6=>ih l e3 us3 xs3 w3 q3 a1 a2 a3 a4 a5 om
 exact key (e.sz+1) l e us xs w q he hu hul hxl hql om
theorem LF (g:W5) (e:Z2) (us:LI) (q:Nat) (hd:GD g.decls:=by exact ob) (he:eW g.decls g.funcs.length us.length e:=by exact ob) (hu:∀a∈us,0<=a/\a<(q:Int)) (hul:us.length+4*e.sz<=100000:=by exact ob) (hql:q+6*e.sz<=100000:=by exact ob):Zm 263 [AY g,Yb e,Z4 us,.i q] [] (fun r h=>∃(b:Z7),r=Ym b/\h=[]/\LB g.decls g.funcs.length q e b):=(PC g e us q (e.sz+1) he hu hul hql om (fun l e2 us2 xs2 w2 q2 h1 h2 h3 h4 h5 _=>Z9f l g e2 us2 xs2 w2 q2 hd h1 h2 h3 h4 h5))
theorem Br (ds:List Zc) (hd:Xl ds:=by exact ob):Zm 87 [Yu ds] [] (Yt (Yu ds)):=by
 have hdl:=hd.len
 refine ZD 55 Tryz.func87 (ZY (ar (iL (Xn []) 0 3 fun v1=>?_)))
 refine Z1 (Y5 (ab 0 (Y1 (fun fz gz m F h=>∃(k:Nat) (v:Value),(k<=ds.length)/\F=sF [0] fz [(3,Q4 (ds.take k) v),(4,.i k)]/\h=[.tail v 3]/\m=ds.length-k) _ _ _ ⟨0,v1,ob,rfl,rfl,rfl⟩ (wk [0] (fc (x:=Q4 [] v1) (Zl.slh _ (Yn Xn rfl)) (Ya fl))) ?_)))
 rintro m F h ⟨k,v,Yi,rfl,rfl,rfl⟩
 refine YR 2 (iw (VI ds) (Y3 ((k:Int)<(ds.length:Int)) (fun Z9=>?_) (fun Z9=>?_)))
 ·obtain ⟨xd,hxd⟩:=Zt ds k om
  have hcl:=hd.cons_at hxd
  refine ak (aq (ab 1 (ar (iL (WF []) 0 1 fun v2=>?_))))
  refine Z1 (Y5 (ab 2 (Y1 (fun fz gz m F h=>∃(j:Nat) (u:Value),(j<=xd.cons.length)/\F=sF [0,3,4] fz [(5,D3 (xd.cons.take j) u),(6,.i j)]/\h=[.tail u 1,Zi gz 1]/\m=xd.cons.length-j) _ _ _ ⟨0,v2,ob,rfl,rfl,rfl⟩ (wk [0,0] (fc (x:=D3 [] v2) (Zl.slh _ (Yn WF rfl)) (Ya fl))) ?_)))
  rintro m F h ⟨j,u,VG,rfl,rfl,rfl⟩
  refine YR 3 (Zp (Ze none (k:Int) 3 (Ww hxd)) (Z0 2 (iw (U3 xd.cons) (Y3 ((j:Int)<(xd.cons.length:Int)) (fun Zh=>?_) (fun Zh=>?_)))))
  ·refine ak (aq (ab 3 (az (Z0 3 (Zp (Ze none (k:Int) 3 (Ww hxd)) (Z0 3 ?_))))))
   obtain ⟨x1,Z3⟩:=Zt xd.cons j om
   have hfl:=hd.fields_at hxd Z3
   refine Zp (Ze none (j:Int) 1 (Ak Z3)) (Z0 2 (ic [] (Vf x1.fields) ?_))
   rintro _ _ ⟨v3,rfl,rfl⟩
   exact Y0 1 [(36,Es x1)] (iL (WF [x1]) 1 1 fun v4=>Y0 0 [(37,JR [x1])] (ip 2 (WF (xd.cons.take (j+1))) (WF (xd.cons.take j)) (WF [x1]) u none 1 (Dy _) (Dy _) (L8 _) (by simp<;>omega) (by rw [VO Z3];simp [WF]) fun v5=>Z1 (az (Z0 1 (ZC j (Z1 (ZE ⟨j+1,v5,ob,rfl,rfl,rfl⟩ (wk [0,2] (fr (ZI j fl))))))))))
  exact ax 2 (aE 16 (Zo 13 16 [0,1,2] (dx 3 (Ze none (k:Int) 3 (Ww hxd)) (Zo 8 12 [4,5,6,7] (dx 8 (Ze none (k:Int) 3 (Ww hxd)) (Yy 3 7 [9,10,11,12] [(51,.agg [.i xd.frm,.i xd.to_,JR (xd.cons.take j)])] (Z8 13 (dL 13 [] [] (Xn [Zc.mk xd.frm xd.to_ (xd.cons.take j)]) 1 3 fun v6=>Yy 2 2 [] [(52,Yu [Zc.mk xd.frm xd.to_ (xd.cons.take j)])] (Z8 14 (dp 14 2 [] [] (Xn (ds.take (k+1))) (Xn (ds.take k)) (Xn [Zc.mk xd.frm xd.to_ (xd.cons.take j)]) v none 3 (Al _) (Al _) (Gx _) (by simp<;>omega) (by rw [VO hxd];simp [Xn,U8 (show xd.cons.length<=j by omega)]) fun v7=>Zo 0 1 [15] (de (az (Z0 1 (ZC k (Z1 (ZE ⟨k+1,v7,ob,rfl,rfl,rfl⟩ (wk [0] (fr (ZI k fl)))))))))))))))))))
 exact ax 0 (ar (Zk (ZP (Q4 (ds.take k) v) (Zl.sl _ (Yn Xn (by rw [U8 om]))))))
theorem Z9n (g:W5) (hg:Il g:=by exact ob):Zm 221 [AY g] [] (fun r h=>∃(n:ZF),r=YC n/\h=[]/\FO n 181 WQ):=by
 have hgl:=hg.gp.len
 have Xp:=hg.gp.decls.ok
 refine ZD 49 Tryz.func221 (ar (iA (M1 g) fun b1=>iA [nl,nl] fun b2=>ie (Zq 2 [1] (Zw [] (Br g.decls) (iL (X8 []) 0 5 fun v1=>Z0 1 (iA [nl,nl] fun b3=>?_))))))
 refine ZG 0 b3 [Yu g.decls,WU [] v1] (ie (Y5 (ab 0 (Y1 (fun fz gz m F h=>∃(k:Nat) (rs:List Yz) (u:Value),(k<=g.funcs.length)/\(rs.length=k)/\(∀r∈rs,RN g.decls g.funcs.length r)/\F=sF [1,2,3] fz [(4,.i k)]/\h=[.obj b3 [Yu g.decls,WU rs u],Zi gz 2,Zi gz 3,.tail u 5]/\m=g.funcs.length-k) _ _ _ ⟨0,[],v1,ob,ob,(fun r hr=>by cases hr),rfl,rfl,rfl⟩ (wk [0,1,1,0] (Ya fl)) ?_))))
 rintro m F h ⟨k,rs,u,Yi,Zd,Zz,rfl,rfl,rfl⟩
 refine Yq 3 [2] (iw (DC g.funcs) (Y3 ((k:Int)<(g.funcs.length:Int)) (fun Z9=>?_) (fun Z9=>?_)))
 ·refine ak (aq (ab 1 (Zq 3 [2] ?_)))
  obtain ⟨x1,Z3⟩:=Zt g.funcs k om
  have hso:=(hg.gp.sigs _ (Y4 Z3)).bd
  have hsi:=hg.gp.sigs _ (Y4 Z3)
  have hbo:=hg.body _ (Y4 Z3)
  refine Zp (Ze none (k:Int) 5 (Gy Z3)) (Z0 1 (iA [nl,.i 0,.i 0,.i 0,nl] fun b4=>?_))
  refine ZG 0 b4 (Hg x1) (ie (Zq 2 [0] (iw (Y9 x1.params) (Z1 (aD 9 (ZV 4 9 [0,1,2,3,5] [3,0] (BM (fun fz gz F h=>∃(b5:Z7) (b6:Nat) (xs1:LI),(xs1.length=x1.params.length/\∀i∈xs1,(0:Int)<=i/\i<(0:Int)+x1.params.length)/\(LB g.decls g.funcs.length x1.params.length x1.body b5)/\F=sF [1,2,3,4,5] fz [(7,.p b6 0)]/\h=[.obj b6 (XW b5),Zi gz 0,Zi gz 1,Zi gz 2,Zi gz 3,Zi gz 4]) ?_ ?_)))))))
  ·refine Uj 4 7 ?_ ?_
   ·refine dc 4 [] [0,3] [b4,b1] (LG 0 x1.params.length) ?_
    rintro _ _ ⟨xs1,rfl,rfl,ZT⟩
    have hnx:=ZT
    refine Uj 6 7 ?_ ?_
    ·refine dc 6 [] [] [] (LF g x1.body xs1 x1.params.length (hd:=hg.gp.decls) (he:=(by rw [hnx.1];exact hbo.1)) (hu:=(fun a ha=>by have:=hnx.2 a ha;omega))) ?_
     rintro _ _ ⟨b5,rfl,rfl,Yg⟩
     have hlb:=Yg
     exact Z8 7 (dA 7 [] [] [nl,.i 0] fun b6=>Z8 8 (X5 8 0 [] [] b6 (XW b5) (de (ZM ⟨_,b6,_,(by assumption),(by assumption),rfl,rfl⟩ (Zs 6 fl)))))
    refine dA 7 [0,3] [b4,b1] [nl,.i 0] fun b7=>Z8 6 (dc 6 [] [] [] (LF g x1.body xs1 x1.params.length (hd:=hg.gp.decls) (he:=(by rw [hnx.1];exact hbo.1)) (hu:=(fun a ha=>by have:=hnx.2 a ha;omega))) ?_)
    rintro _ _ ⟨b8,rfl,rfl,YJ⟩
    have hlb:=YJ
    exact Z8 8 (X5 8 0 [] [] b7 (XW b8) (de (ZM ⟨_,b7,_,(by assumption),(by assumption),rfl,rfl⟩ (Zs 6 fl))))
   refine dA 7 [0,3] [b4,b1] [nl,.i 0] fun b9=>Z8 4 (dc 4 [] [1,4] [b4,b1] (LG 0 x1.params.length) ?_)
   rintro _ _ ⟨xs2,rfl,rfl,YQ⟩
   have hnx:=YQ
   refine Z8 6 (dc 6 [] [] [] (LF g x1.body xs2 x1.params.length (hd:=hg.gp.decls) (he:=(by rw [hnx.1];exact hbo.1)) (hu:=(fun a ha=>by have:=hnx.2 a ha;omega))) ?_)
   rintro _ _ ⟨b10,rfl,rfl,X4⟩
   have hlb:=X4
   exact Z8 8 (X5 8 0 [] [] b9 (XW b10) (de (ZM ⟨_,b9,_,(by assumption),(by assumption),rfl,rfl⟩ (Zs 6 fl))))
  rintro F h ⟨b5,b6,xs1,ZT,Yg,rfl,rfl⟩
  have hnx:=ZT
  have hlb:=Yg
  refine aE 14 (ZV 7 14 [0,1,2,3,6,7,8] [2,1,1,0] (Uj 4 5 ?_ ?_))
  ·refine dc 4 [] [0,1,2] [b6,b4,b3] (Vf x1.params) ?_
   rintro _ _ ⟨v2,rfl,rfl⟩
   exact Z8 5 (dL 5 [0,1,2] [b6,b4,b3] (Z6 []) 0 1 fun v3=>Yy 4 5 [9] [(44,.agg [Z4 x1.params,Z4 [],.i x1.result,Vl b5.steps,.i b5.result])] (Z8 10 (dL 10 [2] [b3] (X8 [Yz.mk x1.params [] x1.result (Z7.mk b5.steps b5.result)]) 1 5 fun v4=>Yy 3 3 [] [(45,JS [Yz.mk x1.params [] x1.result (Z7.mk b5.steps b5.result)])] (Z8 11 (dp 11 8 [] [] (X8 (rs++[Yz.mk x1.params [] x1.result (Z7.mk b5.steps b5.result)])) (X8 rs) (X8 [Yz.mk x1.params [] x1.result (Z7.mk b5.steps b5.result)]) u none 5 (T8 _) (T8 _) (BR _) (by simp<;>omega) (by simp [DE,X8]) fun v5=>Zo 1 2 [12] (Z8 13 (X5 13 6 [] [] b3 [Yu g.decls,WU (rs++[Yz.mk x1.params [] x1.result (Z7.mk b5.steps b5.result)]) v5] (de (az (Z0 1 (ZC k (Z1 (ZE ⟨k+1,(rs++[Yz.mk x1.params [] x1.result (Z7.mk b5.steps b5.result)]),v5,ob,ob,(XC Zz (RN.of hsi hlb hbo.2)),rfl,rfl,rfl⟩ (wk [0,6,6,0] (ZI k fl)))))))))))))))
  refine dL 5 [0,1,1,2] [b6,b4,b4,b3] (Z6 []) 0 1 fun v6=>Z8 4 (dc 4 [] [0,1,2] [b6,b4,b3] (Vf x1.params) ?_)
  rintro _ _ ⟨v7,rfl,rfl⟩
  exact Yy 4 5 [9] [(44,.agg [Z4 x1.params,Z4 [],.i x1.result,Vl b5.steps,.i b5.result])] (Z8 10 (dL 10 [2] [b3] (X8 [Yz.mk x1.params [] x1.result (Z7.mk b5.steps b5.result)]) 1 5 fun v8=>Yy 3 3 [] [(45,JS [Yz.mk x1.params [] x1.result (Z7.mk b5.steps b5.result)])] (Z8 11 (dp 11 8 [] [] (X8 (rs++[Yz.mk x1.params [] x1.result (Z7.mk b5.steps b5.result)])) (X8 rs) (X8 [Yz.mk x1.params [] x1.result (Z7.mk b5.steps b5.result)]) u none 5 (T8 _) (T8 _) (BR _) (by simp<;>omega) (by simp [DE,X8]) fun v9=>Zo 1 2 [12] (Z8 13 (X5 13 6 [] [] b3 [Yu g.decls,WU (rs++[Yz.mk x1.params [] x1.result (Z7.mk b5.steps b5.result)]) v9] (de (az (Z0 1 (ZC k (Z1 (ZE ⟨k+1,(rs++[Yz.mk x1.params [] x1.result (Z7.mk b5.steps b5.result)]),v9,ob,ob,(XC Zz (RN.of hsi hlb hbo.2)),rfl,rfl,rfl⟩ (wk [0,6,6,0] (ZI k fl))))))))))))))
 exact ax 0 (Zq 1 [0] (ZG 1 b2 [Yu g.decls,WU rs u] (ie (Yc (r3 [] [.agg [Yu g.decls,WU rs u]] [0] [(b2,b2)] ⟨(ZF.mk g.decls rs),rfl,rfl,(RN.all hg.gp.decls (by show 1<=rs.length/\rs.length<=4;omega) (by show ∀r∈rs,RN g.decls rs.length r;rw [show rs.length=g.funcs.length by omega];exact Zz) om)⟩ (Zl.agg (.cons (lr _) (.cons (Zl.forget _ _) .nil))))))))
theorem Zhl (n:ZF) (hz:A4 n:=by exact ob):Zm 84 [YC n] [] (Yt (.b (Ks n))):=by
 have hzl:=hz.len
 refine ZD 35 Tryz.func84 (ar (iA (X7 n) fun b1=>Z1 (Yq 1 [0] (Zw [] (Zhk n (hz:=hz.decls) (hr:=(fun r hr=>⟨hz.params r hr,hz.lent r hr⟩))) (YS (!Ay n) (p:=¬(Ay n=true)) (Y8 Iff.rfl) (fun Z9=>?_) (fun Z9=>?_))))))
 ·exact ar (Zk (ZP (.b false) (lb (by first|rfl|omega|grind [Ks]))))
 have hok:=S2 hz (by simpa using Z9)
 refine ak (Y5 (ab 0 (Y1 (fun fz gz m F h=>∃(k:Nat),(k<=n.routines.length)/\(Bq n (n.routines.drop k)=Bq n n.routines)/\F=sF [1] fz [(3,.i k)]/\h=gz/\m=n.routines.length-k) _ _ _ ⟨0,ob,ob,rfl,rfl,rfl⟩ (wk [0] (Ya fl)) ?_)))
 rintro m F h ⟨k,Yi,Zd,rfl,rfl,rfl⟩
 refine Yq 3 [0] (iw (TW n.routines) (Y3 ((k:Int)<(n.routines.length:Int)) (fun Zh=>?_) (fun Zh=>?_)))
 ·refine ak (aq (ab 1 (Zq 3 [0] ?_)))
  obtain ⟨x1,Z3⟩:=Zt n.routines k om
  have Yd:=hz.body _ (Y4 Z3)
  have hps:=hok.params_at Z3
  refine Zp (Ze none (k:Int) 5 (VJ Z3)) (Z0 1 (iA [nl,nl,.i 0,nl,.i 0] fun b2=>ZG 0 b2 (JL x1) (ie (aD 15 (ZV 13 15 [0,1] [0] (Z8 2 (YD 2 [] [] [] (Zhb x1.body) (BK [1,3] [(34,.b ((decide ((Bs x1.body)<0))||((W2 n x1.params x1.body) != x1.result)))] (fun gz=>gz) ?_ ?_))))))))
  ·refine Zo 10 12 [3,4] (db (b:=(decide ((Bs x1.body)<0))) 24 (fun Zb=>?_) (fun Zb=>?_))
   ·exact Zo 0 10 [5,6,7,8,9,10,11,12,13,14] (de (wk [0,0] (Zj true Zb fl)))
   exact ZV 3 10 [5,6,7,8,9,11,12] [1,0,0,0] (Z8 10 (YD 10 [] [0] [b2] (Z1j n x1.params x1.body ob ob) (Zo 0 2 [13,14] (de (wk [0,0] (Zj ((W2 n x1.params x1.body) != x1.result) Zb fl))))))
  refine ac ((decide ((Bs x1.body)<0))||((W2 n x1.params x1.body) != x1.result)) (p:=((Bs x1.body)<0)∨((W2 n x1.params x1.body)≠x1.result)) (ZJ dq Yh) (fun ZA=>?_) (fun ZA=>?_)
  ·refine ZY ?_
   rw [Yj Z3] at Zd
   exact Yc (ZP (.b false) (lb (by clear Z3;first|rfl|omega|grind [Bq,Ks])))
  refine ak (az (Z0 1 (ZC k (Z1 ?_))))
  have hdr:=Yj Z3
  exact ZE ⟨k+1,ob,(by rw [hdr] at Zd;clear hdr Z3;grind [Bq]),rfl,rfl,rfl⟩ (wk [1] (ZI k fl))
 refine ax 0 (ZY ?_)
 try rw [Xj (xs:=n.routines) (k:=k) om] at Zd
 exact Yc (ZP (.b true) (lb (by first|rfl|omega|grind [Bq,Ks])))
theorem Z1m (op:Int) :Zm 146 [.i op] [] (Yt (.b (YM op))):=by
 exact ZD 5 Tryz.func146 (ZY (ZX 1 (Zw [] (V6 op 14 17) (Zk (ZP (.b (decide (14<=op/\op<=17))) (lb (by first|rfl|omega|grind [YM])))))))
theorem Z1k (op:Int) :Zm 324 [.i op] [] (Yt (.b (Ah op))):=by
 refine ZD 17 Tryz.func324 (ZY (ar (YW 6 [0] [(8,.b ((op==6)||(op==9)))] (fun gz=>gz) ?_ (fun hj1=>?_))))
 ·refine YW 10 [0] [(12,.b (((op==6)||(op==9))||(op==10)))] (fun gz=>gz) ?_ (fun hj2=>?_)
  ·refine YW 14 [] [(16,.b ((((op==6)||(op==9))||(op==10))||(op==11)))] (fun gz=>gz) ?_ (fun hj3=>?_)
   ·exact Zk (ZP (.b ((((op==6)||(op==9))||(op==10))||(op==11))) (lb (by first|rfl|omega|grind [Ah])))
   refine Z0 1 (ib (b:=(((op==6)||(op==9))||(op==10))) 13 (fun Zb=>?_) (fun Zb=>?_))
   ·exact Z0 3 (ZZ (wk [] (Zj true Zb fl)) hj3)
   exact Z0 3 (ZZ (wk [] (Zj (op==11) Zb fl)) hj3)
  refine Z0 1 (ib (b:=((op==6)||(op==9))) 9 (fun Zy=>?_) (fun Zy=>?_))
  ·exact Z0 3 (ZZ (wk [] (Zj true Zy fl)) hj2)
  exact Z0 3 (ZZ (wk [] (Zj (op==10) Zy fl)) hj2)
 refine Z0 3 (ib (b:=(op==6)) 5 (fun Yf=>?_) (fun Yf=>?_))
 ·exact Z0 3 (ZZ (wk [] (Zj true Yf fl)) hj1)
 exact Z0 3 (ZZ (wk [] (Zj (op==9) Yf fl)) hj1)
theorem FP (n:ZF) (s:Z5) (i:Nat) (hn:Xv n:=by exact ob) (hnum:s.op=9->0<=s.num/\s.num<n.routines.length:=by exact ob):Zm 285 [YC n,X3 s,.i i] [] (Yt (.b (UU n s.op s.num i))):=by
 refine ZD 21 Tryz.func285 (ar (iA (X7 n) fun b1=>iA (W7 s) fun b2=>Z1 (Zq 4 [0] (ib (b:=(s.op==9)) 10 (fun Zb=>?_) (fun Zb=>?_)))))
 ·have ZT:s.op=9:=(Zg).1 Zb
  refine ZB 4 [1,0] ?_
  obtain ⟨x1,Z3⟩:=Zt n.routines s.num.toNat om
  have hlt:=hn.lent_at Z3
  have hlr:=Zcg (n:=n) ZT Z3
  exact Zp (Ze none s.num 5 (VJ Z3)) (Z0 3 (Zw [] (UK x1.lent (i:Int)) (Zk (ZP (.b (decide ((i:Int)∈x1.lent))) (lb (by rw [UU,hlr]))))))
 have Yg:¬(s.op=9):=Y2 Zg Zb
 exact Zk (ZP (.b false) (lb (by rw [UU,DV,Za Yg];simp)))
theorem HW (n:ZF) (us:LI) (s:Z5) (i:Nat) (a:Int) (hn:Xv n:=by exact ob) (hnum:s.op=9->0<=s.num/\s.num<n.routines.length:=by exact ob) (ha:s.args[i]? = some a:=by exact ob) (hi:0<=a/\a<us.length:=by exact ob):Zm 284 [YC n,Z4 us,X3 s,.i i] [] (Yt (.b (Jx n us s.op s.num a i))):=by
 have hal:=(Xu.1 ha).1
 refine ZD 30 Tryz.func284 (ar (iA (X7 n) fun b1=>iA (W7 s) fun b2=>Z1 (Zq 2 [0] (Zw [] (Z1k s.op) (Z0 1 (ib (b:=Ah s.op) 12 (fun Zb=>?_) (fun Zb=>?_)))))))
 ·refine ZB 4 [0] ?_
  obtain ⟨x1,Z3⟩:=Zt s.args i om
  have hxa:x1=a:=by rw [ha] at Z3;exact (Dj Z3).symm
  subst hxa
  refine Zp (Ze none (i:Int) 1 (Y7 Z3)) (Z0 1 ?_)
  obtain ⟨x2,Zv⟩:=Zt us x1.toNat om
  have hga:=Te Zv
  refine Zp (Ze none x1 1 (Y7 Zv)) (Z0 4 (ib (b:=(x2 != 0)) 23 (fun Zy=>?_) (fun Zy=>?_)))
  ·exact ZB 3 [1,0] (Zw [] (FP n s i) (Zk (ZP (.b (!UU n s.op s.num i)) (lb (by clear Z3 Zv;first|rfl|(rw [Jx];grind))))))
  exact Zk (ZP (.b false) (lb (by clear Z3 Zv;first|rfl|(rw [Jx];grind))))
 exact Zk (ZP (.b false) (lb (by  first|rfl|(rw [Jx];grind))))
theorem Z1r (xs:LI) (ys:LI) (hl_xs:xs.length<=4294967296:=by exact ob) (hl_ys:ys.length<=4294967296:=by exact ob):Zm 283 [Z4 xs,Z4 ys] [] (Yt (.b (decide (xs=ys)))):=by
 refine ZD 26 Tryz.func283 (ZY (YR 1 (iw (Y9 xs) (Z0 1 (iw (Y9 ys) (YS ((xs.length:Int) != (ys.length:Int)) Yh (fun Z9=>?_) (fun Z9=>?_)))))))
 ·exact ar (Zk (ZP (.b false) (lb (eq_comm.1 (decide_eq_false (fun q=>by rw [q] at Z9;exact Z9 rfl))))))
 refine ak (Y5 (ab 0 (Y1 (fun fz gz m F h=>∃(k:Nat),(k<=xs.length)/\(xs.take k=ys.take k)/\F=sF [0,1] fz [(5,.i k)]/\h=gz/\m=xs.length-k) _ _ _ ⟨0,ob,ob,rfl,rfl,rfl⟩ (wk [] (Ya fl)) ?_)))
 rintro m F h ⟨k,Yi,Zd,rfl,rfl,rfl⟩
 refine YR 2 (iw (Y9 xs) (Y3 ((k:Int)<(xs.length:Int)) (fun Zh=>?_) (fun Zh=>?_)))
 ·refine ak (aq (ab 1 (aD 9 (Zo 7 9 [0,1] ?_))))
  obtain ⟨x1,Z3⟩:=Zt xs k om
  refine dx 2 (Ze none (k:Int) 1 (Y7 Z3)) (Zo 3 6 [3,4,5] ?_)
  obtain ⟨x2,Zv⟩:=Zt ys k om
  refine dx 6 (Ze none (k:Int) 1 (Y7 Zv)) (Zo 0 2 [7,8] (de (ac (x1 != x2) Yh (fun ZA=>?_) (fun ZA=>?_))))
  ·exact ar (Zk (ZP (.b false) (lb (eq_comm.1 (decide_eq_false (fun q=>by subst q;rw [Z3] at Zv;cases Zv;exact ZA rfl))))))
  refine ak (az (Z0 1 (ZC k (Z1 ?_))))
  have hdr:=Yj Z3
  exact ZE ⟨k+1,ob,(by rw [VO Z3,VO Zv,Zd];have hxx:x1=x2:=om;rw [hxx]),rfl,rfl,rfl⟩ (wk [] (ZI k fl))
 exact ax 0 (ar (Zk (ZP (.b true) (lb (eq_comm.1 (decide_eq_true (by rw [U8 om,U8 om] at Zd;exact Zd)))))))
theorem Db (xs:LI) (hlen:xs.length<=4294967296:=by exact ob):Zm 115 [Z4 xs] [] (fun r h=>∃(v:Hd),r=.h v/\h=[rV v xs]):=by
 exact ZD 6 Tryz.func115 (ZY (ar (PX [] 0 fun v1=>Z0 1 (Bi 0 v1 [] xs none fun v2=>Zk (r1 [0] ⟨v2,rfl,rfl⟩ (eq:=(rv (xs:=([]++xs)) ob rz)))))))
theorem KG (b:Nat) (ga:Hd) (gb:Hd) (gc:Hd) (gd:Hd) (ge:Hd) (gf:Hd) (L:ZK) (ln:LI) (t:Int) (o:Int) (p:Int) (hlb:L.vars.length<=1000000000:=by exact ob) (hlk:Tn L:=by exact ob):Zm 199 [.p b 0,.i t,.i o,.i p] [.obj b [.h ga,.h gb,.h gc,.h gd,.h ge,.h gf,Z4 ln],rV ga L.vars,rV gb L.own,rV gc L.par,rV gd L.con,rV ge L.fst,rV gf L.tok] (fun r h=>∃(wa:Hd) (wb:Hd) (wc:Hd) (wd:Hd) (we:Hd) (wf:Hd),h=[.obj b [.h wa,.h wb,.h wc,.h wd,.h we,.h wf,Z4 ln],rV wa ((L.grow t o p).vars),rV wb ((L.grow t o p).own),rV wc ((L.grow t o p).par),rV wd ((L.grow t o p).con),rV we ((L.grow t o p).fst),rV wf ((L.grow t o p).tok)]):=by
 obtain ⟨e1,e2,e3,e4,e5⟩:=hlk
 exact ZD 65 Tryz.func199 (Zq 6 [0] (iL (Z6 [t]) 1 1 fun v1=>Y0 0 [(14,Z4 [t])] (Bi 2 ga L.vars [t] none fun v2=>Z0 2 (ZG 2 b [.h v2,.h gb,.h gc,.h gd,.h ge,.h gf,Z4 ln] (ie (Zq 6 [0] (iL (Z6 [o]) 1 1 fun v3=>Y0 0 [(24,Z4 [o])] (Bi 4 gb L.own [o] none fun v4=>Z0 2 (ZG 2 b [.h v2,.h v4,.h gc,.h gd,.h ge,.h gf,Z4 ln] (ie (Zq 6 [0] (iL (Z6 [p]) 1 1 fun v5=>Y0 0 [(34,Z4 [p])] (Bi 6 gc L.par [p] none fun v6=>Z0 2 (ZG 2 b [.h v2,.h v4,.h v6,.h gd,.h ge,.h gf,Z4 ln] (ie (Zq 5 [0] (iL (Z6 [-1]) 1 1 fun v7=>Y0 0 [(43,Z4 [-1])] (Bi 8 gd L.con [-1] none fun v8=>Z0 2 (ZG 2 b [.h v2,.h v4,.h v6,.h v8,.h ge,.h gf,Z4 ln] (ie (Zq 5 [0] (iL (Z6 [-1]) 1 1 fun v9=>Y0 0 [(52,Z4 [-1])] (Bi 10 ge L.fst [-1] none fun v10=>Z0 2 (ZG 2 b [.h v2,.h v4,.h v6,.h v8,.h v10,.h gf,Z4 ln] (ie (az (ZB 5 [0] (iL (Z6 [-1]) 1 1 fun v11=>Y0 0 [(61,Z4 [-1])] (Bi 12 gf L.tok [-1] none fun v12=>Z0 2 (ZG 2 b [.h v2,.h v4,.h v6,.h v8,.h v10,.h v12,Z4 ln] (ie (r2 [0,10,8,6,4,2,0] [] ⟨v2,v4,v6,v8,v10,v12,rfl⟩ (lr _) (eq:=(rc (rv (xs:=(L.vars++[t])) ob (rv (xs:=(L.own++[o])) ob (rv (xs:=(L.par++[p])) ob (rv (xs:=(L.con++[-1])) ob (rv (xs:=(L.fst++[-1])) ob (rv (xs:=(L.tok++[-1])) ob rz))))))))))))))))))))))))))))))))))))))))
theorem Zc9 (b:Nat) (ga:Hd) (gb:Hd) (gc:Hd) (gd:Hd) (ge:Hd) (gf:Hd) (L:ZK) (ln:LI) (hlb:L.vars.length<=1000000000:=by exact ob) (hlk:Tn L:=by exact ob) (hln:ln.length<=4294967296:=by exact ob):Zm 323 [.p b 0] [.obj b [.h ga,.h gb,.h gc,.h gd,.h ge,.h gf,Z4 ln],rV ga L.vars,rV gb L.own,rV gc L.par,rV gd L.con,rV ge L.fst,rV gf L.tok] (fun r h=>∃(c:Nat) (wa:Hd) (wb:Hd) (wc:Hd) (wd:Hd) (we:Hd) (wf:Hd),r=.p c 0/\h=[.obj c [.h wa,.h wb,.h wc,.h wd,.h we,.h wf,Z4 ln],rV wa L.vars,rV wb L.own,rV wc L.par,rV wd L.con,rV we L.fst,rV wf L.tok,.obj b [.h ga,.h gb,.h gc,.h gd,.h ge,.h gf,Z4 ln],rV ga L.vars,rV gb L.own,rV gc L.par,rV gd L.con,rV ge L.fst,rV gf L.tok]):=by
 obtain ⟨e1,e2,e3,e4,e5⟩:=hlk
 refine ZD 40 Tryz.func323 (ZY (aD 38 (ZV 10 38 [0,1,2,3,5,6,7,8,10,11,12,13,15,16,17,18,20,21,22,23,25,26,27,28,30,31,32,33] [0,0,0,0,0,0,0] (Z8 4 (Ai 4 [1] [0,0,0,0,0,0] [b,b,b,b,b,b] [rV ga L.vars] (Db L.vars) Dq (gL (v:=ga) 0 gN) (J9 Ax) ?_)))))
 rintro _ _ ⟨v1,rfl,rfl⟩
 refine Z8 9 (Ai 9 [3] [0,0,0,0,0] [b,b,b,b,b] [rV gb L.own] (Db L.own) Dq (gL (v:=gb) 0 gN) (J9 Ax) ?_)
 rintro _ _ ⟨v2,rfl,rfl⟩
 refine Z8 14 (Ai 14 [5] [0,0,0,0] [b,b,b,b] [rV gc L.par] (Db L.par) Dq (gL (v:=gc) 0 gN) (J9 Ax) ?_)
 rintro _ _ ⟨v3,rfl,rfl⟩
 refine Z8 19 (Ai 19 [7] [0,0,0] [b,b,b] [rV gd L.con] (Db L.con) Dq (gL (v:=gd) 0 gN) (J9 Ax) ?_)
 rintro _ _ ⟨v4,rfl,rfl⟩
 refine Z8 24 (Ai 24 [9] [0,0] [b,b] [rV ge L.fst] (Db L.fst) Dq (gL (v:=ge) 0 gN) (J9 Ax) ?_)
 rintro _ _ ⟨v5,rfl,rfl⟩
 refine Z8 29 (Ai 29 [11] [0] [b] [rV gf L.tok] (Db L.tok) Dq (gL (v:=gf) 0 gN) (J9 Ax) ?_)
 rintro _ _ ⟨v6,rfl,rfl⟩
 refine Z8 34 (dc 34 [] [] [] (Vf ln) ?_)
 rintro _ _ ⟨v7,rfl,rfl⟩
 exact Yy 2 3 [35] [(38,.agg [.h v1,.h v2,.h v3,.h v4,.h v5,.h v6,Z4 ln])] (Z8 36 (dA 36 [] [] [.h v1,.h v2,.h v3,.h v4,.h v5,.h v6,Z4 ln] fun b1=>Zo 0 1 [37] (de (Yc (r1 [0,11,9,7,5,3,1,7,6,5,4,3,2,1] ⟨b1,v1,v2,v3,v4,v5,v6,rfl,rfl⟩)))))
theorem Hm (b:Nat) (ga:Hd) (gb:Hd) (gc:Hd) (gd:Hd) (ge:Hd) (gf:Hd) (L:ZK) (ln:LI) (i:Int) (hlk:Tn L:=by exact ob) (hi:0<=i/\i<L.vars.length:=by exact ob) (hq:∀x∈L.own,0<=x/\x<=1000000000):Zm 201 [.p b 0,.i i] [.obj b [.h ga,.h gb,.h gc,.h gd,.h ge,.h gf,Z4 ln],rV ga L.vars,rV gb L.own,rV gc L.par,rV gd L.con,rV ge L.fst,rV gf L.tok] (fun r h=>(∃(wa:Hd) (wb:Hd) (wc:Hd) (wd:Hd) (we:Hd) (wf:Hd) (L':ZK),r=.b true/\h=[.obj b [.h wa,.h wb,.h wc,.h wd,.h we,.h wf,Z4 ln],rV wa L'.vars,rV wb L'.own,rV wc L'.par,rV wd L'.con,rV we L'.fst,rV wf L'.tok]/\Qg L i=some L')∨(r=.b false/\h=[]/\Qg L i=none)):=by
 obtain ⟨e1,e2,e3,e4,e5⟩:=hlk
 refine ZD 27 Tryz.func201 (ZY (Yq 5 [0] (Zp (Ue 2 gb L.own i i.toNat (hq:=rfl)) ?_)))
 obtain ⟨x1,Z3⟩:=Zt L.own i.toNat om
 have hxq:=hq _ (Y4 Z3)
 have hgi:=Te Z3
 refine Ut (Qz 2 gb L.own i.toNat x1 Z3) (Y3 (x1<1) (fun Z9=>?_) (fun Z9=>?_))
 ·exact ar (Zk (r1 [] (.inr ⟨rfl,rfl,(by rw [Qg,hgi,Zf Z9])⟩)))
 exact ak (aD 15 (ZV 5 15 [0,1,2,3,4,5,6,7,8,9] [0,0] (dx 10 (Ue 2 gb L.own i i.toNat (hq:=rfl)) (TU 11 (Qz 2 gb L.own i.toNat x1 Z3) (da 12 ((x1-1)) ((x1)-(1)) (dx 13 (Ue 2 gb L.own i i.toNat (hq:=rfl)) (Z8 14 (Dw 14 2 [] [] gb L.own i.toNat (x1-1) (de (ar (Zk (r1 [1,1,0,0,0,0,0] (.inl ⟨ga,gb,gc,gd,ge,gf,(ZK.mk L.vars (L.own.set i.toNat (x1-1)) L.par L.con L.fst L.tok),rfl,rfl,(by rw [Qg,hgi,Za Z9])⟩) (eq:=(rc (rv (xs:=L.vars) ob (rv (xs:=(L.own.set i.toNat (x1-1))) ob (rv (xs:=L.par) ob (rv (xs:=L.con) ob (rv (xs:=L.fst) ob (rv (xs:=L.tok) ob rz))))))))))))))))))))
theorem Hl (b:Nat) (ga:Hd) (gb:Hd) (gc:Hd) (gd:Hd) (ge:Hd) (gf:Hd) (L:ZK) (ln:LI) (i:Int) (hlk:Tn L:=by exact ob) (hln:ln.length<=4294967296:=by exact ob) (hi:0<=i/\i<L.vars.length:=by exact ob) (hd:∀j:Int,0<=j->j<L.vars.length->gI L.par j<j):Zm 178 [.p b 0,.i i] [.obj b [.h ga,.h gb,.h gc,.h gd,.h ge,.h gf,Z4 ln],rV ga L.vars,rV gb L.own,rV gc L.par,rV gd L.con,rV ge L.fst,rV gf L.tok] (fun r h=>r=.b (T3 L ln i)/\h=[.obj b [.h ga,.h gb,.h gc,.h gd,.h ge,.h gf,Z4 ln],rV ga L.vars,rV gb L.own,rV gc L.par,rV gd L.con,rV ge L.fst,rV gf L.tok]):=by
 obtain ⟨e1,e2,e3,e4,e5⟩:=hlk
 refine ZD 31 Tryz.func178 (ZY (aq (ab 0 (Y1 (fun fz gz m F h=>∃(j:Int),(0<=j/\j<L.vars.length)/\(QV L.own L.par ln (j.toNat+1) j=T3 L ln i)/\F=sF [0] fz [(1,.i j)]/\h=gz/\m=j.toNat) _ _ _ ⟨i,ob,ob,rfl,rfl,rfl⟩ (Zs 7 fl) ?_))))
 rintro m F h ⟨j,Yi,Zd,rfl,rfl,rfl⟩
 refine Yq 5 [0] (Zp (Ue 2 gb L.own j j.toNat (hq:=rfl)) ?_)
 obtain ⟨x1,Z3⟩:=Zt L.own j.toNat om
 have hg1:=Te Z3
 refine Ut (Qz 2 gb L.own j.toNat x1 Z3) (Xi [0,1] [(21,.b ((decide (x1<1))&&(!(decide (j∈ln)))))] (fun gz=>gz) ?_ ?_)
 ·refine Z0 2 (ib (b:=(decide (x1<1))) 13 (fun Zb=>?_) (fun Zb=>?_))
  ·exact ZB 5 [0] (Zw [] (UK ln j) (Z1 (Zs 7 (Zj (!(decide (j∈ln))) Zb fl))))
  exact Z1 (Zs 7 (Zj false Zb fl))
 refine ac ((decide (x1<1))&&(!(decide (j∈ln)))) (p:=(x1<1)/\(¬(j∈ln))) (Yo dq (Y8 dq)) (fun Z9=>?_) (fun Z9=>?_)
 ·refine ak (ab 1 (Zq 5 [0] (Zp (Ue 3 gc L.par j j.toNat (hq:=rfl)) ?_)))
  obtain ⟨x2,Zv⟩:=Zt L.par j.toNat om
  have hg2:=Te Zv
  have hdj:=hd j om om
  rw [hg2] at hdj
  refine Ut (Qz 3 gc L.par j.toNat x2 Zv) (Z1 (ar (Y3 (x2<0) (fun Zh=>?_) (fun Zh=>?_))))
  ·exact ar (Zk (r2 [0,0,0,0,0,0,0] [.b false] ⟨rfl,rfl⟩ (lb (Z3n hg1 hg2 Z9 Zh Zd))))
  exact ak (ZE ⟨x2,om,(Z3o hg1 hg2 Yi Z9 Zh hd Zd),rfl,rfl,rfl⟩ (Zs 7 fl))
 exact ax 0 (ar (Zk (r2 [0,0,0,0,0,0,0] [.b true] ⟨rfl,rfl⟩ (lb (Z3p hg1 Z9 Zd)))))
theorem RA (b:Nat) (ga:Hd) (gb:Hd) (gc:Hd) (gd:Hd) (ge:Hd) (gf:Hd) (L:ZK) (ln:LI) (mm:Nat) (hlk:Tn L:=by exact ob) (hlb:L.vars.length<=1000000000:=by exact ob) (hm:mm<=L.vars.length:=by exact ob):Zm 145 [.p b 0,.i mm] [.obj b [.h ga,.h gb,.h gc,.h gd,.h ge,.h gf,Z4 ln],rV ga L.vars,rV gb L.own,rV gc L.par,rV gd L.con,rV ge L.fst,rV gf L.tok] (fun r h=>(∃(wa:Hd) (wb:Hd) (wc:Hd) (wd:Hd) (we:Hd) (wf:Hd) (L':ZK),r=.b true/\h=[.obj b [.h wa,.h wb,.h wc,.h wd,.h we,.h wf,Z4 ln],rV wa L'.vars,rV wb L'.own,rV wc L'.par,rV wd L'.con,rV we L'.fst,rV wf L'.tok]/\Jy L mm=some L')∨(r=.b false/\h=[]/\Jy L mm=none)):=by
 obtain ⟨e1,e2,e3,e4,e5⟩:=hlk
 refine ZD 88 Tryz.func145 (ZY (Y5 (ab 0 (Y1 (fun fz gz m F h=>∃(k:Nat),(mm<=k/\k<=L.vars.length)/\(Ck (L.own.drop k) (L.tok.drop k)=Ck (L.own.drop mm) (L.tok.drop mm))/\F=sF [0,1] fz [(5,.i k)]/\h=gz/\m=L.vars.length-k) _ _ _ ⟨mm,ob,ob,rfl,rfl,rfl⟩ (Zs 7 fl) ?_))))
 rintro m F h ⟨k,Yi,Zd,rfl,rfl,rfl⟩
 refine Yq 5 [0] (Zp (I7 1 ga L.vars) (Y3 ((k:Int)<(L.vars.length:Int)) (fun Z9=>?_) (fun Z9=>?_)))
 ·refine ak (aq (ab 1 (Zq 5 [0] (Zp (Ue 2 gb L.own (k:Int) k) ?_))))
  obtain ⟨x1,Z3⟩:=Zt L.own k om
  refine Ut (Qz 2 gb L.own k x1 Z3) (Z0 2 (ib (b:=(x1 != 0)) 24 (fun Zb=>?_) (fun Zb=>?_)))
  ·have ZT:x1≠0:=(Yh).1 Zb
   refine Z1 (Vq (ZY ?_))
   obtain ⟨y2,hy2⟩:=Zt L.tok k om
   exact Yc (r1 [] (.inr ⟨rfl,rfl,(by rw [Jy,<-Zd,Yj Z3,Yj hy2,Ck,Zf (show x1≠0∨0<=y2 by omega)];rfl)⟩))
  have Yg:¬(x1≠0):=Y2 Yh Zb
  refine ZB 5 [0] (Zp (Ue 6 gf L.tok (k:Int) k) ?_)
  obtain ⟨x2,Zv⟩:=Zt L.tok k om
  refine Ut (Qz 6 gf L.tok k x2 Zv) (Y3 (x2>=0) (fun Zh=>?_) (fun Zh=>?_))
  ·exact ar (Zk (r1 [] (.inr ⟨rfl,rfl,(by rw [Jy,<-Zd,Yj Z3,Yj Zv,Ck,Zf (show x1≠0∨0<=x2 by omega)];rfl)⟩)))
  exact ak (az (Z0 1 (ZC k (Z1 (ZE ⟨k+1,ob,(by rw [Yj Z3,Yj Zv,Ck,Za om] at Zd;exact Zd),rfl,rfl,rfl⟩ (Zs 7 (ZI k fl)))))))
 exact ax 0 (Zq 6 [0] (Zp (De 1 ga L.vars mm) (Z0 2 (Qp (Dd 1 mm ga L.vars) (ZG 1 b [.h (ga.cut mm),.h gb,.h gc,.h gd,.h ge,.h gf,Z4 ln] (ie (Zq 6 [0] (Zp (De 2 gb L.own mm) (Z0 2 (Qp (Dd 2 mm gb L.own) (ZG 1 b [.h (ga.cut mm),.h (gb.cut mm),.h gc,.h gd,.h ge,.h gf,Z4 ln] (ie (Zq 6 [0] (Zp (De 3 gc L.par mm) (Z0 2 (Qp (Dd 3 mm gc L.par) (ZG 1 b [.h (ga.cut mm),.h (gb.cut mm),.h (gc.cut mm),.h gd,.h ge,.h gf,Z4 ln] (ie (Zq 6 [0] (Zp (De 4 gd L.con mm) (Z0 2 (Qp (Dd 4 mm gd L.con) (ZG 1 b [.h (ga.cut mm),.h (gb.cut mm),.h (gc.cut mm),.h (gd.cut mm),.h ge,.h gf,Z4 ln] (ie (Zq 6 [0] (Zp (De 5 ge L.fst mm) (Z0 2 (Qp (Dd 5 mm ge L.fst) (ZG 1 b [.h (ga.cut mm),.h (gb.cut mm),.h (gc.cut mm),.h (gd.cut mm),.h (ge.cut mm),.h gf,Z4 ln] (ie (Zq 6 [0] (Zp (De 6 gf L.tok mm) (Z0 2 (Qp (Dd 6 mm gf L.tok) (ZG 1 b [.h (ga.cut mm),.h (gb.cut mm),.h (gc.cut mm),.h (gd.cut mm),.h (ge.cut mm),.h (gf.cut mm),Z4 ln] (ie (ar (Zk (r1 [0,5,4,3,2,1,0] (.inl ⟨(ga.cut mm),(gb.cut mm),(gc.cut mm),(gd.cut mm),(ge.cut mm),(gf.cut mm),(ZK.mk (L.vars.take mm) (L.own.take mm) (L.par.take mm) (L.con.take mm) (L.fst.take mm) (L.tok.take mm)),rfl,rfl,(by rw [Jy,Zf (by rw [<-Zd,Xj om];rfl)];rfl)⟩) (eq:=(rc (rv (xs:=(L.vars.take mm)) ob (rv (xs:=(L.own.take mm)) ob (rv (xs:=(L.par.take mm)) ob (rv (xs:=(L.con.take mm)) ob (rv (xs:=(L.fst.take mm)) ob (rv (xs:=(L.tok.take mm)) ob rz)))))))))))))))))))))))))))))))))))))))))))))))
theorem Zcb (b:Nat) (ga:Hd) (gb:Hd) (gc:Hd) (gd:Hd) (ge:Hd) (gf:Hd) (n:ZF) (s:Z5) (L:ZK) (ln:LI) (q:Int) (x:Int) (hn:Xv n:=by exact ob) (hk:XH n.decls L q:=by exact ob) (hlb:L.vars.length<=1000000000:=by exact ob) (ha:s.args[0]? = some x:=by exact ob) (hx:0<=x/\x<L.vars.length:=by exact ob) (hq:0<=q/\q<=999999990:=by exact ob):Zm 237 [.p b 0,YC n,X3 s] [.obj b [.h ga,.h gb,.h gc,.h gd,.h ge,.h gf,Z4 ln],rV ga L.vars,rV gb L.own,rV gc L.par,rV gd L.con,rV ge L.fst,rV gf L.tok] (fun r h=>(∃(wa:Hd) (wb:Hd) (wc:Hd) (wd:Hd) (we:Hd) (wf:Hd) (L':ZK),r=.b true/\h=[.obj b [.h wa,.h wb,.h wc,.h wd,.h we,.h wf,Z4 ln],rV wa L'.vars,rV wb L'.own,rV wc L'.par,rV wd L'.con,rV we L'.fst,rV wf L'.tok]/\Az n.decls L s.op x=some L')∨(r=.b false/\h=[]/\Az n.decls L s.op x=none)):=by
 obtain ⟨e1,e2,e3,e4,e5⟩:=hk.len
 have Xp:=hn.decls
 have hal:=(Xu.1 ha).1
 obtain ⟨xcon,hxcon⟩:=Zt L.con ((x).toNat) om
 have hgcon:=Te hxcon
 obtain ⟨xtok,hxtok⟩:=Zt L.tok ((x).toNat) om
 have hgtok:=Te hxtok
 obtain ⟨xfst,hxfst⟩:=Zt L.fst ((x).toNat) om
 have hgfst:=Te hxfst
 have hfl:=V8 Xp xcon
 have har:=hk.arm x om om
 rw [hgcon,hgfst] at har
 refine ZD 105 Tryz.func237 (ar (iA (X7 n) fun b1=>iA (W7 s) fun b2=>Z1 (Zq 2 [0] (Zp (Ze none 0 1 (Y7 ha)) (Z1 (Yq 5 [2] (Zp (Ue 6 gd L.con x x.toNat (hq:=rfl)) (Ut (Qz 6 gd L.con x.toNat xcon hxcon) (YW 23 [0,4,5,7] [(36,.b ((decide (xcon<0))||((s.op==17)&&(decide (xtok>=0)))))] (fun gz=>gz) ?_ (fun hj1=>?_))))))))))
 ·refine Z0 1 (ib (b:=((decide (xcon<0))||((s.op==17)&&(decide (xtok>=0))))) 37 (fun Zb=>?_) (fun Zb=>?_))
  ·have ZT:(xcon<0)∨((s.op=17)/\(xtok>=0)):=((ZJ dq (Yo Zg dq))).1 Zb
   exact Z1 (Vq (ar (Zk (r1 [] (.inr ⟨rfl,rfl,(by rw [Az,hgcon,hgtok,Zf om])⟩)))))
  have Yg:¬((xcon<0)∨((s.op=17)/\(xtok>=0))):=Y2 (ZJ dq (Yo Zg dq)) Zb
  refine Z0 2 (ic [2,2,2,2,2,2,2] (Hm b ga gb gc gd ge gf L ln x (hlk:=hk.len) (hq:=(fun y hy=>⟨hk.nn y hy,by have:=hk.bd y hy;omega⟩))) ?_)
  rintro _ _ (⟨wa1,wb1,wc1,wd1,we1,wf1,L'1,rfl,rfl,YJ⟩|⟨rfl,rfl,YQ⟩)
  ·obtain ⟨t1,t2,t3,t4,t5,t6,t7⟩:=JV YJ
   have hk1:=hk.take YJ
   obtain ⟨f1,f2,f3,f4,f5⟩:=hk1.len
   have hxcon1:L'1.con[x.toNat]? = some xcon:=by rw [t4];exact hxcon
   have hvl:L'1.vars.length=L.vars.length:=by rw [t2]
   have har2:=har om
   have hxfst1:L'1.fst[x.toNat]? = some xfst:=by rw [t5];exact hxfst
   refine Z1 (VP (ak (aD 11 (ZV 4 11 [0,1,2,3,4,5,6] [8,0] (dx 7 (Ue 4 wd1 L'1.con x x.toNat (hq:=rfl)) (TU 8 (Qz 4 wd1 L'1.con x.toNat xcon hxcon1) (Z8 9 (YD 9 [] [] [] (Qy n.decls xcon) (Zo 0 1 [10] (de (Y5 (ab 0 (Y1 (fun fz gz m F h=>∃(k:Nat) (o:LI),(k<=(ZO n.decls xcon).length)/\(o.length=L.vars.length)/\(∀y∈o,0<=y/\y<=q+k)/\(QB o (xfst+k) ((ZO n.decls xcon).drop k)=QB L'1.own xfst (ZO n.decls xcon))/\F=sF [0,5,7,8] fz [(9,.i k)]/\h=[Zi gz 0,Zi gz 1,rV wb1 o,Zi gz 3,Zi gz 4,Zi gz 5,Zi gz 6,Zi gz 7]/\m=(ZO n.decls xcon).length-k) _ _ _ ⟨0,L'1.own,ob,om,(by intro y hy;have h1:=hk1.nn y hy;have h2:=hk1.bd y hy;omega),(by rw [show xfst+((0:Nat):Int)=xfst by omega,QS]),rfl,rfl,rfl⟩ (Zs 8 (Ya fl)) ?_)))))))))))))
   rintro m F h ⟨k,o,Yi,Zd,Zz,YA,rfl,rfl,rfl⟩
   refine YR 2 (io (.i (((ZO n.decls xcon).length:Nat):Int)) (.i (((Z6 (ZO n.decls xcon)).length:Nat):Int)) (li (by rw [Y9])) (Y3 ((k:Int)<(((ZO n.decls xcon).length:Nat):Int)) (fun Z9=>?_) (fun Z9=>?_)))
   ·refine ak (aq (ab 1 (ZX 2 ?_)))
    obtain ⟨x1,Z3⟩:=Zt (ZO n.decls xcon) k om
    refine Zp (Ze none (k:Int) 1 (Y7 Z3)) (YS (x1 != 0) Yh (fun Zh=>?_) (fun Zh=>?_))
    ·refine aE 31 (ZV 22 31 [0,1,2,3,4,5,6,7,8] [0,0] (dx 9 (Ue 5 we1 L'1.fst x x.toNat (hq:=rfl)) (TU 10 (Qz 5 we1 L'1.fst x.toNat xfst hxfst1) (Zo 19 20 [11] (da 12 ((xfst+(k:Int))) ((xfst)+((k:Int))) (ZV 9 18 [13,14,15,16,17,18,19,20,21] [0,0] (dx 22 (Ue 5 we1 L'1.fst x x.toNat (hq:=rfl)) (TU 23 (Qz 5 we1 L'1.fst x.toNat xfst hxfst1) (Zo 6 7 [24] (da 25 ((xfst+(k:Int))) ((xfst)+((k:Int))) (dx 26 (Ue 2 wb1 o (xfst+(k:Int)) ((xfst+(k:Int)).toNat) (hq:=rfl)) ?_)))))))))))
     obtain ⟨x2,Zv⟩:=Zt o ((xfst+(k:Int)).toNat) om
     have hy2:=Zz _ (Y4 Zv)
     exact TU 27 (Qz 2 wb1 o ((xfst+(k:Int)).toNat) x2 Zv) (da 28 ((x2+1)) ((x2)+(1)) (dx 29 (Ue 2 wb1 o (xfst+(k:Int)) ((xfst+(k:Int)).toNat) (hq:=rfl)) (Z8 30 (Dw 30 2 [] [] wb1 o ((xfst+(k:Int)).toNat) (x2+1) (de (az (Z0 1 (ZC k (Z1 (ZE ⟨k+1,(o.set (xfst+(k:Nat)).toNat (x2+1)),ob,ob,(by intro y hy;first|(rcases JP hy with hy|rfl<;>first|(have:=Zz y hy;omega)|omega)|(have:=Zz y hy;omega)),(by rw [Yj Z3,QB] at YA;first|(rw [Zf Zh,Te Zv] at YA;rw [show xfst+((k+1:Nat):Int)=xfst+k+1 by omega];exact YA)|(rw [Za Zh] at YA;rw [show xfst+((k+1:Nat):Int)=xfst+k+1 by omega];exact YA)),rfl,rfl,rfl⟩ (wk [1,1,0,0,0,0,0,0] (ZI k fl) (e:=(rc (rc (rv (xs:=(o.set ((xfst+(k:Int)).toNat) (x2+1))) ob (rc (rc (rc (rc (rc rz))))))))))))))))))))
    exact ak (az (Z0 1 (ZC k (Z1 (ZE ⟨k+1,o,ob,ob,(by intro y hy;first|(rcases JP hy with hy|rfl<;>first|(have:=Zz y hy;omega)|omega)|(have:=Zz y hy;omega)),(by rw [Yj Z3,QB] at YA;first|(rw [Zf Zh,Te Zv] at YA;rw [show xfst+((k+1:Nat):Int)=xfst+k+1 by omega];exact YA)|(rw [Za Zh] at YA;rw [show xfst+((k+1:Nat):Int)=xfst+k+1 by omega];exact YA)),rfl,rfl,rfl⟩ (Zs 8 (ZI k fl)))))))
   refine ax 0 (X6 (Vb [7] (ac (s.op==17) Zg (fun ZA=>?_) (fun ZA=>?_))))
   ·refine az (ZB 6 [0] (io (.i (((ZO n.decls xcon).length:Nat):Int)) (.i (((Z6 (ZO n.decls xcon)).length:Nat):Int)) (li (by rw [Y9])) (Zp (Ue 6 wf1 L'1.tok x x.toNat (hq:=rfl)) (LT 6 wf1 L'1.tok x.toNat (((ZO n.decls xcon).length:Nat):Int) (ie (ZY ?_))))))
    have hof:o=QB L'1.own xfst (ZO n.decls xcon):=by rw [<-YA,Xj om];rfl
    exact Yc (r1 [1,1,1,1,1,1,0] (.inl ⟨wa1,wb1,wc1,wd1,we1,wf1,(ZK.mk L'1.vars o L'1.par L'1.con L'1.fst (L'1.tok.set x.toNat (((ZO n.decls xcon).length:Nat):Int))),rfl,rfl,(by rw [Az,hgcon,hgfst,hgtok,Za om,YJ,hof,t6];simp [ZA,t2,t3,t4,t5])⟩) (eq:=(rc (rv (xs:=L'1.vars) ob (rv (xs:=o) ob (rv (xs:=L'1.par) ob (rv (xs:=L'1.con) ob (rv (xs:=L'1.fst) ob (rv (xs:=(L'1.tok.set x.toNat (((ZO n.decls xcon).length:Nat):Int))) ob rz)))))))))
   refine ak (ZY ?_)
   have hof:o=QB L'1.own xfst (ZO n.decls xcon):=by rw [<-YA,Xj om];rfl
   exact Yc (r1 [0,0,0,0,0,0,0] (.inl ⟨wa1,wb1,wc1,wd1,we1,wf1,(ZK.mk L'1.vars o L'1.par L'1.con L'1.fst L'1.tok),rfl,rfl,(by rw [Az,hgcon,hgfst,hgtok,Za om,YJ,hof,t6];simp [ZA,t2,t3,t4,t5])⟩) (eq:=(rc (rv (xs:=L'1.vars) ob (rv (xs:=o) ob (rv (xs:=L'1.par) ob (rv (xs:=L'1.con) ob (rv (xs:=L'1.fst) ob (rv (xs:=L'1.tok) ob rz)))))))))
  exact Z1 (Vq (ar (Zk (r1 [] (.inr ⟨rfl,rfl,(by rw [Az,hgcon,hgtok,Za om,YQ])⟩)))))
 refine Z0 2 (ib (b:=(decide (xcon<0))) 22 (fun Zy=>?_) (fun Zy=>?_))
 ·have X4:xcon<0:=(dq).1 Zy
  exact Z0 14 (ZZ (Zs 9 (Zj true Zy fl)) hj1)
 have Xy:¬(xcon<0):=Y2 dq Zy
 refine ZB 4 [0] (ib (b:=(s.op==17)) 26 (fun Yf=>?_) (fun Yf=>?_))
 ·have Wx:s.op=17:=(Zg).1 Yf
  exact ZB 5 [2] (Zp (Ue 8 gf L.tok x x.toNat (hq:=rfl)) (Ut (Qz 8 gf L.tok x.toNat xtok hxtok) (Z0 3 (ZZ (Zs 9 (Zj (decide (xtok>=0)) (And.intro Zy Yf) fl)) hj1))))
 have WZ:¬(s.op=17):=Y2 Zg Yf
 exact Z0 10 (ZZ (Zs 9 (Zj false (And.intro Zy Yf) fl)) hj1)
theorem Zca (b:Nat) (ga:Hd) (gb:Hd) (gc:Hd) (gd:Hd) (ge:Hd) (gf:Hd) (n:ZF) (s:Z5) (L:ZK) (ln:LI) (q:Int) (hn:Xv n:=by exact ob) (hnum:s.op=9->0<=s.num/\s.num<n.routines.length:=by exact ob) (hk:XH n.decls L q:=by exact ob) (hlb:L.vars.length<=1000000000:=by exact ob) (hargs:∀a∈s.args,0<=a/\a<L.vars.length) (hinto:0<s.into->s.into<=L.vars.length:=by exact ob) (hal:s.args.length<=1000000000:=by exact ob) (hln:ln.length<=4294967296:=by exact ob) (hq:0<=q/\q<=999999990:=by exact ob):Zm 239 [.p b 0,YC n,X3 s] [.obj b [.h ga,.h gb,.h gc,.h gd,.h ge,.h gf,Z4 ln],rV ga L.vars,rV gb L.own,rV gc L.par,rV gd L.con,rV ge L.fst,rV gf L.tok] (fun r h=>(∃(wa:Hd) (wb:Hd) (wc:Hd) (wd:Hd) (we:Hd) (wf:Hd) (L':ZK),r=.b true/\h=[.obj b [.h wa,.h wb,.h wc,.h wd,.h we,.h wf,Z4 ln],rV wa L'.vars,rV wb L'.own,rV wc L'.par,rV wd L'.con,rV we L'.fst,rV wf L'.tok]/\JB n ln L s.op s.num s.into s.args=some L')∨(r=.b false/\h=[]/\JB n ln L s.op s.num s.into s.args=none)):=by
 obtain ⟨e1,e2,e3,e4,e5⟩:=hk.len
 refine ZD 79 Tryz.func239 (ar (iA (X7 n) fun b1=>iA (W7 s) fun b2=>?_))
 refine Z1 (Y5 (ab 0 (Y1 (fun fz gz m F h=>∃(k:Nat) (L2:ZK) (ka:Hd) (kb:Hd) (kc:Hd) (kd:Hd) (ke:Hd) (kf:Hd),(k<=s.args.length)/\(XH n.decls L2 q)/\(L2.vars=L.vars)/\(KD n s.op s.num (s.args.drop k) k L2=KD n s.op s.num s.args 0 L)/\F=sF [0,4,5] fz [(7,.i k)]/\h=[Zi gz 0,Zi gz 1,.obj b [.h ka,.h kb,.h kc,.h kd,.h ke,.h kf,Z4 ln],rV ka L2.vars,rV kb L2.own,rV kc L2.par,rV kd L2.con,rV ke L2.fst,rV kf L2.tok]/\m=s.args.length-k) _ _ _ ⟨0,L,ga,gb,gc,gd,ge,gf,ob,hk,ob,ob,rfl,rfl,rfl⟩ (Zs 9 (Ya fl)) ?_)))
 rintro m F h ⟨k,L2,ka,kb,kc,kd,ke,kf,Yi,Zd,Zz,YA,rfl,rfl,rfl⟩
 refine Yq 3 [0] (iw (Y9 s.args) (Y3 ((k:Int)<(s.args.length:Int)) (fun Z9=>?_) (fun Z9=>?_)))
 ·obtain ⟨a1,ha1⟩:=Zt s.args k om
  obtain ⟨e6,e7,e8,e9,e10⟩:=Zd.len
  have hav:=hargs a1 (Y4 ha1)
  have hvl:L2.vars.length=L.vars.length:=by rw [Zz]
  refine ak (aq (ab 1 (aD 18 (ZV 11 18 [0,1,2,3,4,5,6] [1,2,0] (Z8 7 (Ai 7 [3] [] [] [rV ka L2.vars] (HW n L2.vars s k a1 (ha:=ha1)) Gr (gS (gL (v:=ka) 0 (gS (gS gN)))) (J9 Ax) ?_))))))
  rintro _ _ ⟨rfl,rfl⟩
  refine Zo 9 10 [8] (db (b:=Jx n L2.vars s.op s.num a1 k) 24 (fun Zb=>?_) (fun Zb=>?_))
  ·have ZT:Jx n L2.vars s.op s.num a1 k=true:=(Iff.rfl).1 Zb
   refine ZV 5 9 [9,10,11,12] [1] (dx 13 (Ze none (k:Int) 1 (Y7 ha1)) (Zo 3 4 [14] (Z8 15 (dc 15 [3,0,2,2,2,2,2] [] [] (Hm b ka kb kc kd ke kf L2 ln a1 (hlk:=Zd.len) (hq:=(fun y hy=>⟨Zd.nn y hy,by have:=Zd.bd y hy;omega⟩))) ?_))))
   rintro _ _ (⟨wa1,wb1,wc1,wd1,we1,wf1,L'1,rfl,rfl,Yg⟩|⟨rfl,rfl,YJ⟩)
   ·obtain ⟨t1,t2,t3,t4,t5,t6,t7⟩:=JV Yg
    have hk2:=Zd.take Yg
    exact Zo 0 2 [16,17] (de (VP (ak (az (Z0 1 (ZC k (Z1 (ZE ⟨k+1,L'1,wa1,wb1,wc1,wd1,we1,wf1,ob,hk2,(t2.trans Zz),(by rw [Yj ha1,KD,Zf ZT] at YA;simp only [Yg] at YA;exact YA),rfl,rfl,rfl⟩ (wk [7,7,0,0,0,0,0,0,0] (ZI k fl))))))))))
   exact Zo 0 2 [16,17] (de (Vq (ar (Zk (r1 [] (.inr ⟨rfl,rfl,(by rw [JB,<-YA,Yj ha1,KD,Zf ZT,YJ])⟩))))))
  have YQ:¬(Jx n L2.vars s.op s.num a1 k=true):=Y2 Iff.rfl Zb
  exact Zo 0 9 [9,10,11,12,13,14,15,16,17] (de (VP (ak (az (Z0 1 (ZC k (Z1 (ZE ⟨k+1,L2,ka,kb,kc,kd,ke,kf,ob,Zd,Zz,(by rw [Yj ha1,KD,Za YQ] at YA;exact YA),rfl,rfl,rfl⟩ (wk [1,1,1,0,0,0,0,0,0] (ZI k fl))))))))))
 have hT:KD n s.op s.num s.args 0 L=some L2:=by rw [<-YA,Xj om];rfl
 obtain ⟨e6,e7,e8,e9,e10⟩:=Zd.len
 have hvl:L2.vars.length=L.vars.length:=by rw [Zz]
 refine ax 0 (Y5 (ab 2 (Y1 (fun fz gz m F h=>∃(j:Nat),(j<=s.args.length)/\(C0 n s.op s.num ln L2 (s.args.drop j) j=C0 n s.op s.num ln L2 s.args 0)/\F=sF [0,4,5] fz [(8,.i j)]/\h=gz/\m=s.args.length-j) _ _ _ ⟨0,ob,ob,rfl,rfl,rfl⟩ (Zs 9 (Ya fl)) ?_)))
 rintro m F h ⟨j,VG,Xm,rfl,rfl,rfl⟩
 refine Yq 3 [0] (iw (Y9 s.args) (Y3 ((j:Int)<(s.args.length:Int)) (fun Zh=>?_) (fun Zh=>?_)))
 ·obtain ⟨a2,ha2⟩:=Zt s.args j om
  have hav:=hargs a2 (Y4 ha2)
  refine ak (aq (ab 3 (Zq 3 [1,0] (Zw [] (FP n s j) (Xi [0,4,5,8] [(54,.b (UU n s.op s.num j&&(!T3 L2 ln a2)))] (fun gz=>[Zi gz 2,Zi gz 3,Zi gz 4,Zi gz 5,Zi gz 6,Zi gz 7,Zi gz 8,Zi gz 0,Zi gz 1]) ?_ ?_)))))
  ·refine Z0 1 (ib (b:=UU n s.op s.num j) 45 (fun Zy=>?_) (fun Zy=>?_))
   ·exact ZB 4 [0] (Zp (Ze none (j:Int) 1 (Y7 ha2)) (Z0 1 (Zw [2,2,2,2,2,2,2] (Hl b ka kb kc kd ke kf L2 ln a2 (hlk:=Zd.len) (hd:=Zd.down)) (Z1 (Zs 9 (Zj (!T3 L2 ln a2) Zy fl))))))
   exact Z1 (wk [2,2,2,2,2,2,2,0,0] (Zj false Zy fl))
  refine ac (UU n s.op s.num j&&(!T3 L2 ln a2)) (p:=(UU n s.op s.num j=true)/\(¬(T3 L2 ln a2=true))) (Yo Iff.rfl (Y8 Iff.rfl)) (fun ZA=>?_) (fun ZA=>?_)
  ·refine ZY ?_
   have hA:C0 n s.op s.num ln L2 s.args 0=false:=by rw [<-Xm,Yj ha2,C0,Zf ZA]
   exact Yc (r1 [] (.inr ⟨rfl,rfl,(by rw [JB,hT];simp only [hA];rfl)⟩))
  exact ak (az (Z0 1 (ZC j (Z1 (ZE ⟨j+1,ob,(by rw [Yj ha2,C0,Za ZA] at Xm;exact Xm),rfl,rfl,rfl⟩ (wk [7,7,0,0,0,0,0,0,0] (ZI j fl)))))))
 have hA:C0 n s.op s.num ln L2 s.args 0=true:=by rw [<-Xm,Xj om];rfl
 refine ax 2 (X6 (Vb [0] (Wt (s.into>0) (fun Yk=>?_) (fun Yk=>?_))))
 ·obtain ⟨xt,hxt⟩:=Zt L2.tok ((s.into-1).toNat) (by have:=hinto Yk;omega)
  have hgt:=Te hxt
  refine aq (aD 13 (ZV 7 13 [0,1,2,3,4,5] [2,0] (da 6 ((s.into-1)) ((s.into)-(1)) (dx 7 (Ue 8 kf L2.tok (s.into-1) ((s.into-1).toNat) (hq:=rfl)) (TU 8 (Qz 8 kf L2.tok ((s.into-1).toNat) xt hxt) (ZV 2 4 [9,10] [0] (dw 11 (Y9 s.args) (Zo 0 1 [12] (de (ac (xt != (s.args.length:Int)) Yh (fun YI=>?_) (fun YI=>?_)))))))))))
  ·exact ar (Zk (r1 [] (.inr ⟨rfl,rfl,(by rw [JB,hT];simp only [hA,↓reduceIte];rw [ER,Zf Yk,hgt,Zf YI])⟩)))
  exact ak (aE 9 (ZV 3 9 [0,1,2,3,4,5] [2,0] (da 6 ((s.into-1)) ((s.into)-(1)) (dx 7 (Ue 8 kf L2.tok (s.into-1) ((s.into-1).toNat) (hq:=rfl)) (Z8 8 (Dw 8 8 [] [] kf L2.tok ((s.into-1).toNat) (-1) (de (ar (Zk (r1 [3,3,3,3,3,3,0] (.inl ⟨ka,kb,kc,kd,ke,kf,(ZK.mk L2.vars L2.own L2.par L2.con L2.fst (L2.tok.set ((s.into-1).toNat) (-1))),rfl,rfl,(by rw [JB,hT];simp only [hA,↓reduceIte];rw [ER,Zf Yk,hgt,Za YI])⟩) (eq:=(rc (rv (xs:=L2.vars) ob (rv (xs:=L2.own) ob (rv (xs:=L2.par) ob (rv (xs:=L2.con) ob (rv (xs:=L2.fst) ob (rv (xs:=(L2.tok.set ((s.into-1).toNat) (-1))) ob rz))))))))))))))))))
 exact ak (ar (Zk (r1 [2,2,2,2,2,2,2] (.inl ⟨ka,kb,kc,kd,ke,kf,L2,rfl,rfl,(by rw [JB,hT];simp only [hA,↓reduceIte];rw [ER,Za Yk])⟩))))
theorem Z8j (b:Z7) (t:Int) (hz:b.sz<=1000000) (ih:∀(b2:Z7) (t:Int),(b2.sz<=1000000)->(b2.sz<b.sz)->Zm 338 [Ym b2,.i t] [] (fun r h=>∃(wr:Bool),r=.b wr/\h=[])):Zm 338 [Ym b,.i t] [] (fun r h=>∃(wr:Bool),r=.b wr/\h=[]):=by
 have Yd:=Ux b
 have hbl:=Jg b.steps
 have hbe:=b.sz_eq
 refine ZD 53 Tryz.func338 (ar (iA (XW b) fun b1=>?_))
 refine Z1 (Y5 (ab 0 (Y1 (fun fz gz m F h=>∃(k:Nat),(k<=b.steps.length)/\F=sF [1,2] fz [(5,.i k)]/\h=gz/\m=b.steps.length-k) _ _ _ ⟨0,ob,rfl,rfl,rfl⟩ (wk [0] (Ya fl)) ?_)))
 rintro m F h ⟨k,Yi,rfl,rfl,rfl⟩
 refine Yq 3 [0] (iw (UA b.steps) (Y3 ((k:Int)<(b.steps.length:Int)) (fun Z9=>?_) (fun Z9=>?_)))
 ·refine ak (aq (ab 1 (Yq 3 [0] ?_)))
  obtain ⟨x1,Z3⟩:=Zt b.steps k om
  have hxs:=MS (Y4 Z3)
  have hxe:=(x1).sz_eq
  have hxk:=K9 x1
  refine Zp (Ze none (k:Int) 5 (V9 Z3)) (Xi [1,2,5] [(30,.b ((x1.op==10)&&(x1.num==t)))] (fun gz=>gz) ?_ ?_)
  ·refine Z0 4 (ib (b:=(x1.op==10)) 21 (fun Zb=>?_) (fun Zb=>?_))
   ·exact ZB 3 [0] (Zp (Ze none (k:Int) 5 (V9 Z3)) (Z1 (wk [0] (Zj (x1.num==t) Zb fl))))
   exact Z1 (wk [0] (Zj false Zb fl))
  refine ac ((x1.op==10)&&(x1.num==t)) (p:=(x1.op=10)/\(x1.num=t)) (Yo Zg Zg) (fun Zh=>?_) (fun Zh=>?_)
  ·exact ar (Zk (r1 [] ⟨true,rfl,rfl⟩))
  refine ak (ZY (ab 2 (Y1 (fun fz gz m F h=>∃(j:Nat),(j<=x1.kids.length)/\F=sF [1,2,5] fz [(6,.i j)]/\h=gz/\m=x1.kids.length-j) _ _ _ ⟨0,ob,rfl,rfl,rfl⟩ (wk [0] (Ya fl)) ?_)))
  rintro m F h ⟨j,VG,rfl,rfl,rfl⟩
  refine Yq 4 [0] (Zp (Ze none (k:Int) 5 (V9 Z3)) (Z0 2 (iw (Kz x1.kids) (Y3 ((j:Int)<(x1.kids.length:Int)) (fun ZA=>?_) (fun ZA=>?_)))))
  ·refine ak (aq (ab 3 (Zq 3 [0] (Zp (Ze none (k:Int) 5 (V9 Z3)) (Z0 3 ?_)))))
   obtain ⟨x2,Zv⟩:=Zt x1.kids j om
   have hkx:=II (Y4 Zv)
   refine Zp (Ze none (j:Int) 2 (UQ Zv)) (Z0 2 (ic [] (ih x2 t ob ob) ?_))
   rintro _ _ ⟨wr1,rfl,rfl⟩
   refine ie (ac wr1 Iff.rfl (fun Yk=>?_) (fun Yk=>?_))
   ·exact ar (Zk (r1 [] ⟨true,rfl,rfl⟩))
   exact ak (az (Z0 1 (ZC j (Z1 (ZE ⟨j+1,ob,rfl,rfl,rfl⟩ (wk [0] (ZI j fl)))))))
  exact ax 2 (az (Z0 1 (ZC k (Z1 (ZE ⟨k+1,ob,rfl,rfl,rfl⟩ (wk [0] (ZI k fl)))))))
 exact ax 0 (ar (Zk (r1 [] ⟨false,rfl,rfl⟩)))
theorem Z8i (b:Z7) (t:Int) (hz:b.sz<=1000000:=by exact ob):Zm 338 [Ym b,.i t] [] (fun r h=>∃(wr:Bool),r=.b wr/\h=[]):=by
 have key:∀k:Nat,∀(b2:Z7) (t:Int),(b2.sz<=1000000)->(b2.sz<k)->Zm 338 [Ym b2,.i t] [] (fun r h=>∃(wr:Bool),r=.b wr/\h=[]):=by
  intro k
  induction k with
  | zero=>intro b2 t h1 h2;omega
  | succ k ih=>intro b2 t h1 h2;exact Z8j b2 t h1 fun b3 t3 q1 q2=>ih b3 t3 q1 om
 exact key (b.sz+1) b t hz om
theorem Z94 (n:ZF) (t:Int) (qz:Nat) (hn:FN n qz:=by exact ob) (hqz:qz<=100000:=by exact ob):Zm 313 [YC n,.i t] [] (fun r h=>∃(wr:Bool),r=.b wr/\h=[]):=by
 have hnl:=hn.len
 refine ZD 21 Tryz.func313 (ar (iA (X7 n) fun b1=>?_))
 refine Z1 (Y5 (ab 0 (Y1 (fun fz gz m F h=>∃(k:Nat),(k<=n.routines.length)/\F=sF [1,2] fz [(5,.i k)]/\h=gz/\m=n.routines.length-k) _ _ _ ⟨0,ob,rfl,rfl,rfl⟩ (wk [0] (Ya fl)) ?_)))
 rintro m F h ⟨k,Yi,rfl,rfl,rfl⟩
 refine Yq 3 [0] (iw (TW n.routines) (Y3 ((k:Int)<(n.routines.length:Int)) (fun Z9=>?_) (fun Z9=>?_)))
 ·refine ak (aq (ab 1 (Zq 3 [0] ?_)))
  obtain ⟨x1,Z3⟩:=Zt n.routines k om
  have hbz:=(hn.body _ (Y4 Z3)).2
  refine Zp (Ze none (k:Int) 5 (VJ Z3)) (Z0 3 (ic [] (Z8i x1.body t) ?_))
  rintro _ _ ⟨wr1,rfl,rfl⟩
  refine ie (ac wr1 Iff.rfl (fun Zh=>?_) (fun Zh=>?_))
  ·exact ar (Zk (r1 [] ⟨true,rfl,rfl⟩))
  exact ak (az (Z0 1 (ZC k (Z1 (ZE ⟨k+1,ob,rfl,rfl,rfl⟩ (wk [0] (ZI k fl)))))))
 exact ax 0 (ar (Zk (r1 [] ⟨false,rfl,rfl⟩)))
theorem Py (fs:LI) (q:Nat) (hl:fs.length<=1000000:=by exact ob) (hq:q<=1000000:=by exact ob):Zm 171 [Z4 fs,.i q] [] (fun r h=>∃(xs:LI),r=Z4 xs/\h=[]/\xs.length<=fs.length/\∀i∈xs,(q:Int)<=i/\i<(q:Int)+fs.length):=by
 refine ZD 26 Tryz.func171 (ZY (ar (iL (Z6 []) 0 1 fun v1=>?_)))
 refine Z1 (Y5 (ab 0 (Y1 (fun fz gz m F h=>∃(k:Nat) (ys:LI) (u:Value),(k<=fs.length)/\(ys.length<=k)/\(∀i∈ys,(q:Int)<=i/\i<(q:Int)+fs.length)/\F=sF [0,1] fz [(5,Y6 ys u),(6,.i k)]/\h=[.tail u 1]/\m=fs.length-k) _ _ _ ⟨0,[],v1,ob,ob,(fun i hi=>by cases hi),rfl,rfl,rfl⟩ (wk [0] (fr (Ya fl))) ?_)))
 rintro m F h ⟨k,ys,u,Yi,Zd,Zz,rfl,rfl,rfl⟩
 refine YR 2 (iw (Y9 fs) (Y3 ((k:Int)<(fs.length:Int)) (fun Z9=>?_) (fun Z9=>?_)))
 ·refine ak (aq (ab 1 (ZX 2 ?_)))
  obtain ⟨x1,Z3⟩:=Zt fs k om
  refine Zp (Ze none (k:Int) 1 (Y7 Z3)) (YS (x1 != 0) Yh (fun Zh=>?_) (fun Zh=>?_))
  ·exact az (Z0 3 (ia (((q+k:Nat):Int)) (((q:Int))+((k:Int))) (iL (Z6 [((q+k:Nat):Int)]) 1 1 fun v2=>Y0 0 [(23,Z4 [((q+k:Nat):Int)])] (ip 1 (Z6 (ys++[((q+k:Nat):Int)])) (Z6 ys) (Z6 [((q+k:Nat):Int)]) u none 1 (YG _) (YG _) (XT _) (by simp<;>omega) (by simp [XX,Z6]) fun v3=>Z1 (az (Z0 1 (ZC k (Z1 (ZE ⟨k+1,(ys++[((q+k:Nat):Int)]),v3,ob,ob,(XC Zz om),rfl,rfl,rfl⟩ (wk [0] (fr (ZI k fl))))))))))))
  exact ak (az (Z0 1 (ZC k (Z1 (ZE ⟨k+1,ys,u,ob,ob,ob,rfl,rfl,rfl⟩ (wk [0] (fr (ZI k fl))))))))
 exact ax 0 (ar (Zk (r2 [] [Y6 ys u] ⟨ys,rfl,rfl,⟨by omega,Zz⟩⟩ (Zl.forget _ _))))
theorem Pt (n:ZF) (qz:Nat) (hn:FN n qz:=by exact ob) (hqz:qz<=100000:=by exact ob):Zm 268 [YC n] [] (fun r h=>∃(xs:List LI),r=DW xs/\h=[]/\LC n n.routines.length xs):=by
 have hnl:=hn.len
 refine ZD 31 Tryz.func268 (ar (iA (X7 n) fun b1=>Z1 (ar (iL (Vh []) 0 1 fun v1=>?_))))
 refine Z1 (Y5 (ab 0 (Y1 (fun fz gz m F h=>∃(k:Nat) (ys:List LI) (u:Value),(k<=n.routines.length)/\(ys.length=k)/\(LC n k ys)/\F=sF [1] fz [(3,Mi ys u),(4,.i k)]/\h=[Zi gz 1,.tail u 1]/\m=n.routines.length-k) _ _ _ ⟨0,[],v1,ob,ob,LC.nil,rfl,rfl,rfl⟩ (wk [1,0] (fr (Ya fl))) ?_)))
 rintro m F h ⟨k,ys,u,Yi,Zd,Zz,rfl,rfl,rfl⟩
 refine Yq 3 [0] (iw (TW n.routines) (Y3 ((k:Int)<(n.routines.length:Int)) (fun Z9=>?_) (fun Z9=>?_)))
 ·refine ak (aq (ab 1 (Zq 2 [0] (ic [] (Z94 n (k:Int) qz) ?_))))
  rintro _ _ ⟨wr1,rfl,rfl⟩
  refine ie (ac wr1 Iff.rfl (fun Zh=>?_) (fun Zh=>?_))
  ·exact az (Z0 1 (iL (Z6 []) 0 1 fun v2=>Y0 0 [(17,Z4 [])] (iL (Vh [[]]) 1 1 fun v3=>Y0 0 [(18,DW [[]])] (ip 3 (Vh (ys++[[]])) (Vh ys) (Vh [[]]) u none 1 (DD _) (DD _) (Ld _) (by simp<;>omega) (by simp [Lc,Vh]) fun v4=>Z1 (az (Z0 1 (ZC k (Z1 (ZE ⟨k+1,(ys++[[]]),v4,ob,ob,(Zz.snoc (by simp) (fun r hr v hv=>by cases hv)),rfl,rfl,rfl⟩ (wk [3,0] (fr (ZI k fl))))))))))))
  refine az (ZB 4 [0] ?_)
  obtain ⟨x1,Z3⟩:=Zt n.routines k om
  have hrp:=(FN.ok hn).params_at Z3
  have hss:=(To.bd (f:=⟨(x1).params,(x1).result,default⟩) (hn.sigs _ (Y4 Z3))).1
  refine Zp (Ze none (k:Int) 5 (VJ Z3)) (Z0 2 (ic [] (Py x1.params 0) ?_))
  rintro _ _ ⟨xs1,rfl,rfl,ZT⟩
  have hhf:=ZT
  exact iL (Vh [xs1]) 1 1 fun v5=>Y0 0 [(28,DW [xs1])] (ip 2 (Vh (ys++[xs1])) (Vh ys) (Vh [xs1]) u none 1 (DD _) (DD _) (Ld _) (by simp<;>omega) (by simp [Lc,Vh]) fun v6=>Z1 (az (Z0 1 (ZC k (Z1 (ZE ⟨k+1,(ys++[xs1]),v6,ob,ob,(Zz.snoc om (fun r hr v hv=>by rw [Z3] at hr;cases hr;have:=hhf.2 v hv;omega)),rfl,rfl,rfl⟩ (wk [2,0] (fr (ZI k fl)))))))))
 exact ax 0 (ar (Zk (r2 [] [Mi ys u] ⟨ys,rfl,rfl,(by rw [show n.routines.length=k by omega];exact Zz)⟩ (Zl.forget _ _))))
theorem Z8m (n:ZF) (b:Z7) (t:Int) (mq:Nat) (hn:Xv n) (hf:fB n.decls n.routines.length mq b) (hz:b.sz<=1000000) (ih:∀(b2:Z7) (t:Int) (m2:Nat),(fB n.decls n.routines.length m2 b2)->(b2.sz<=1000000)->(b2.sz<b.sz)->Zm 314 [YC n,Ym b2,.i t] [] (fun r h=>∃(wr:Bool),r=.b wr/\h=[])):Zm 314 [YC n,Ym b,.i t] [] (fun r h=>∃(wr:Bool),r=.b wr/\h=[]):=by
 have hbl:=Jg b.steps
 have hbe:=b.sz_eq
 refine ZD 68 Tryz.func314 (ar (iA (X7 n) fun b1=>iA (XW b) fun b2=>Z1 (X6 (Vb [0] (ac (b.result==t) Zg (fun Z9=>?_) (fun Z9=>?_))))))
 ·exact ar (Zk (r1 [] ⟨true,rfl,rfl⟩))
 refine ak (Y5 (ab 0 (Y1 (fun fz gz m F h=>∃(k:Nat),(k<=b.steps.length)/\F=sF [2,3,4] fz [(7,.i k)]/\h=gz/\m=b.steps.length-k) _ _ _ ⟨0,ob,rfl,rfl,rfl⟩ (wk [0,0] (Ya fl)) ?_)))
 rintro m F h ⟨k,Yi,rfl,rfl,rfl⟩
 refine Yq 3 [0] (iw (UA b.steps) (Y3 ((k:Int)<(b.steps.length:Int)) (fun Zh=>?_) (fun Zh=>?_)))
 ·refine ak (aq (ab 1 (Zq 3 [0] ?_)))
  obtain ⟨x1,Z3⟩:=Zt b.steps k om
  have hfs:=(Bb x1).1 (DI ((J3 b).1 hf).1 Z3)
  have hxs:=MS (Y4 Z3)
  have hxe:=(x1).sz_eq
  have hxk:=K9 x1
  refine Zp (Ze none (k:Int) 5 (V9 Z3)) (Z0 1 (iA [.i 0,.i 0,.i 0,nl,nl] fun b3=>?_))
  refine ZG 0 b3 (W7 x1) (ie (Y5 (ab 2 (Y1 (fun fz gz m F h=>∃(j:Nat),(j<=x1.args.length)/\F=sF [2,3,4,7,8] fz [(9,.i j)]/\h=gz/\m=x1.args.length-j) _ _ _ ⟨0,ob,rfl,rfl,rfl⟩ (Zs 3 (Ya fl)) ?_))))
  rintro m F h ⟨j,VG,rfl,rfl,rfl⟩
  refine Yq 3 [0] (iw (Y9 x1.args) (Y3 ((j:Int)<(x1.args.length:Int)) (fun ZA=>?_) (fun ZA=>?_)))
  ·refine ak (aq (ab 3 (Zq 3 [0] ?_)))
   obtain ⟨x2,Zv⟩:=Zt x1.args j om
   refine Zp (Ze none (j:Int) 1 (Y7 Zv)) (YW 12 [2,3,4,7,8,9] [(45,.b ((x2==t)&&Ah x1.op))] (fun gz=>gz) ?_ (fun hj1=>?_))
   ·refine Xi [2,3,4,7,8,9] [(52,.b (((x2==t)&&Ah x1.op)&&(!UU n x1.op x1.num j)))] (fun gz=>gz) ?_ ?_
    ·refine Z0 1 (ib (b:=((x2==t)&&Ah x1.op)) 46 (fun Zb=>?_) (fun Zb=>?_))
     ·exact ZB 3 [2,0] (Zw [] (FP n x1 j (hnum:=hfs.call)) (Z1 (Zs 3 (Zj (!UU n x1.op x1.num j) Zb fl))))
     exact Z1 (Zs 3 (Zj false Zb fl))
    refine ac (((x2==t)&&Ah x1.op)&&(!UU n x1.op x1.num j)) (p:=((x2=t)/\(Ah x1.op=true))/\(¬(UU n x1.op x1.num j=true))) (Yo (Yo Zg Iff.rfl) (Y8 Iff.rfl)) (fun Yk=>?_) (fun Yk=>?_)
    ·exact ar (Zk (r1 [] ⟨true,rfl,rfl⟩))
    exact ak (az (Z0 1 (ZC j (Z1 (ZE ⟨j+1,ob,rfl,rfl,rfl⟩ (Zs 3 (ZI j fl)))))))
   refine Z0 4 (ib (b:=(x2==t)) 41 (fun Zy=>?_) (fun Zy=>?_))
   ·exact ZB 2 [0] (Zw [] (Z1k x1.op) (Z0 1 (ZZ (Zs 3 (Zj (Ah x1.op) Zy fl)) hj1)))
   exact Z0 4 (ZZ (Zs 3 (Zj false Zy fl)) hj1)
  refine ax 2 (ZY (ab 4 (Y1 (fun fz gz m F h=>∃(j:Nat),(j<=x1.kids.length)/\F=sF [2,3,4,7,8] fz [(10,.i j)]/\h=gz/\m=x1.kids.length-j) _ _ _ ⟨0,ob,rfl,rfl,rfl⟩ (Zs 3 (Ya fl)) ?_)))
  rintro m F h ⟨j,Ex,rfl,rfl,rfl⟩
  refine Yq 3 [0] (iw (Kz x1.kids) (Y3 ((j:Int)<(x1.kids.length:Int)) (fun YI=>?_) (fun YI=>?_)))
  ·refine ak (aq (ab 5 (aD 8 (ZV 4 8 [0,1,2,3] [2,0] ?_))))
   obtain ⟨x3,YN⟩:=Zt x1.kids j om
   have hkx:=II (Y4 YN)
   have hfk:=BT hfs.kids YN
   refine dx 4 (Ze none (j:Int) 2 (UQ YN)) (Zo 1 3 [5,6] (Z8 7 (dc 7 [] [] [] (ih x3 t (WK n.decls x1.op x1.num (mq+Yp (b.steps.take k)) (0+j)) hfk ob ob) ?_)))
   rintro _ _ ⟨wr1,rfl,rfl⟩
   refine de (ac wr1 Iff.rfl (fun X9=>?_) (fun X9=>?_))
   ·exact ar (Zk (r1 [] ⟨true,rfl,rfl⟩))
   exact ak (az (Z0 1 (ZC j (Z1 (ZE ⟨j+1,ob,rfl,rfl,rfl⟩ (Zs 3 (ZI j fl)))))))
  exact ax 4 (az (Z0 1 (ZC k (Z1 (ZE ⟨k+1,ob,rfl,rfl,rfl⟩ (wk [1,1] (ZI k fl)))))))
 exact ax 0 (ar (Zk (r1 [] ⟨false,rfl,rfl⟩)))
theorem Z8l (n:ZF) (b:Z7) (t:Int) (mq:Nat) (hn:Xv n:=by exact ob) (hf:fB n.decls n.routines.length mq b:=by exact ob) (hz:b.sz<=1000000:=by exact ob):Zm 314 [YC n,Ym b,.i t] [] (fun r h=>∃(wr:Bool),r=.b wr/\h=[]):=by
 have key:∀k:Nat,∀(b2:Z7) (t:Int) (m2:Nat),(fB n.decls n.routines.length m2 b2)->(b2.sz<=1000000)->(b2.sz<k)->Zm 314 [YC n,Ym b2,.i t] [] (fun r h=>∃(wr:Bool),r=.b wr/\h=[]):=by
  intro k
  induction k with
  | zero=>intro b2 t m2 h1 h2 h3;omega
  | succ k ih=>intro b2 t m2 h1 h2 h3;exact Z8m n b2 t m2 hn h1 h2 fun b3 t3 m3 q1 q2 q3=>ih b3 t3 m3 q1 q2 om
 exact key (b.sz+1) b t mq hf hz om
theorem Z95 (n:ZF) (rt:Yz) (i:Nat) (qz:Nat) (hn:FN n qz:=by exact ob) (hqz:qz<=100000:=by exact ob) (hr:n.routines[i]? = some rt:=by exact ob):Zm 269 [YC n,.i i] [] (fun r h=>∃(xs:LI),r=Z4 xs/\h=[]/\xs.length<=rt.lent.length/\∀v∈xs,v∈rt.lent):=by
 have hok:=FN.ok hn
 have hrl:=hn.lent rt (Y4 hr)
 have hrb:=hn.body rt (Y4 hr)
 obtain ⟨hil,_⟩:=Xu.1 hr
 have hnl:=hn.len
 refine ZD 50 Tryz.func269 (ar (iA (X7 n) fun b1=>Z1 (ar (iL (Z6 []) 0 1 fun v1=>?_))))
 refine Z1 (Y5 (ab 0 (Y1 (fun fz gz m F h=>∃(k:Nat) (ys:LI) (u:Value),(k<=rt.lent.length)/\(ys.length<=k)/\(∀v∈ys,v∈rt.lent)/\F=sF [1,2] fz [(5,Y6 ys u),(6,.i k)]/\h=[Zi gz 1,.tail u 1]/\m=rt.lent.length-k) _ _ _ ⟨0,[],v1,ob,ob,(fun v hv=>by cases hv),rfl,rfl,rfl⟩ (wk [1,0] (fr (Ya fl))) ?_)))
 rintro m F h ⟨k,ys,u,Yi,Zd,Zz,rfl,rfl,rfl⟩
 refine Yq 4 [0] (Zp (Ze none (i:Int) 5 (VJ hr)) (Z0 2 (iw (Y9 rt.lent) (Y3 ((k:Int)<(rt.lent.length:Int)) (fun Z9=>?_) (fun Z9=>?_)))))
 ·refine ak (aq (ab 1 (aD 18 (ZV 14 18 [0,1,2,3] [0,0] (dx 4 (Ze none (i:Int) 5 (VJ hr)) (ZV 8 13 [5,6,7,8,9] [0] (dx 10 (Ze none (i:Int) 5 (VJ hr)) (Zo 4 7 [11,12,13] ?_))))))))
  obtain ⟨x1,Z3⟩:=Zt rt.lent k om
  refine dx 14 (Ze none (k:Int) 1 (Y7 Z3)) (Zo 2 3 [15] (Z8 16 (dc 16 [] [] [] (Z8l n rt.body x1 rt.params.length (hn:=hok) (hf:=hrb.1)) ?_)))
  rintro _ _ ⟨wr1,rfl,rfl⟩
  refine Zo 0 1 [17] (de (ac (!wr1) (p:=¬(wr1=true)) (Y8 Iff.rfl) (fun Zh=>?_) (fun Zh=>?_)))
  ·exact az (ZB 4 [0] (Zp (Ze none (i:Int) 5 (VJ hr)) (Z0 3 (Zp (Ze none (k:Int) 1 (Y7 Z3)) (Z0 1 (iL (Z6 [x1]) 1 1 fun v2=>Y0 0 [(47,Z4 [x1])] (ip 2 (Z6 (ys++[x1])) (Z6 ys) (Z6 [x1]) u none 1 (YG _) (YG _) (XT _) (by simp<;>omega) (by simp [XX,Z6]) fun v3=>Z1 (az (Z0 1 (ZC k (Z1 (ZE ⟨k+1,(ys++[x1]),v3,ob,ob,(XC Zz (Y4 Z3)),rfl,rfl,rfl⟩ (wk [2,0] (fr (ZI k fl)))))))))))))))
  exact ak (az (Z0 1 (ZC k (Z1 (ZE ⟨k+1,ys,u,ob,ob,ob,rfl,rfl,rfl⟩ (wk [0,0] (fr (ZI k fl))))))))
 exact ax 0 (ar (Zk (r2 [] [Y6 ys u] ⟨ys,rfl,rfl,⟨by omega,Zz⟩⟩ (Zl.forget _ _))))
theorem Zgk (s:Z5) (ih:∀(b2:Z7),(b2.sz<s.sz)->(b2.sz<=1000000000)->Zm 312 [Ym b2] [] (Yt (Ym b2))) (hz:s.sz<=1000000000):Zm 337 [X3 s] [] (Yt (X3 s)):=by
 have hkz:=K9 s
 have haz:=Jv s
 refine ZD 33 Tryz.func337 (ar (iA (W7 s) fun b1=>iA [.i 0,.i 0,.i 0,nl,nl] fun b2=>ie (ar (iL (XL []) 0 2 fun v1=>?_))))
 refine Z1 (Y5 (ab 0 (Y1 (fun fz gz m F h=>∃(k:Nat) (v:Value),(k<=s.kids.length)/\F=sF [1,2] fz [(3,Qu (s.kids.take k) v),(4,.i k)]/\h=[Zi gz 1,Zi gz 2,.tail v 2]/\m=s.kids.length-k) _ _ _ ⟨0,v1,ob,rfl,rfl,rfl⟩ (wk [1,1,0] (fc (x:=Qu [] v1) (Zl.slh _ (Yn XL rfl)) (Ya fl))) ?_)))
 rintro m F h ⟨k,v,Yi,rfl,rfl,rfl⟩
 refine Yq 3 [1] (iw (Kz s.kids) (Y3 ((k:Int)<(s.kids.length:Int)) (fun Z9=>?_) (fun Z9=>?_)))
 ·refine ak (aq (ab 1 (az (ZB 4 [1] ?_))))
  obtain ⟨x1,Z3⟩:=Zt s.kids k om
  have hks:=Qs Z3
  exact Zp (Ze none (k:Int) 2 (UQ Z3)) (Z0 1 (Zw [] (ih x1 ob ob) (iL [Ym x1] 1 2 fun v2=>Y0 0 [(20,.sl [Ym x1] none)] (ip 3 (XL (s.kids.take (k+1))) (XL (s.kids.take k)) [Ym x1] v none 2 (J0 _) (JN rfl) rfl (by simp<;>omega) (by rw [VO Z3];simp [K0]) fun v3=>Z1 (az (Z0 1 (ZC k (Z1 (ZE ⟨k+1,v3,ob,rfl,rfl,rfl⟩ (wk [2,2,0] (fr (ZI k fl))))))))))))
 refine ax 0 (aD 12 (ZV 3 12 [0,1,2,3,4,5,6,7,9] [1,1,1,1] (Z8 8 (dc 8 [] [1,1,1] [b1,b1,b1] (Vf s.args) ?_))))
 rintro _ _ ⟨v4,rfl,rfl⟩
 exact Zo 1 2 [10] (Z8 11 (X5 11 1 [] [] b2 [.i s.op,.i s.num,.i s.into,Y6 s.args v4,Qu (s.kids.take k) v] (de (Yc (r3 [] [.agg [.i s.op,.i s.num,.i s.into,Y6 s.args v4,Qu (s.kids.take k) v]] [0] [(b2,b2)] ⟨rfl,rfl⟩ (Zl.agg (.cons (lr _) (.cons (lr _) (.cons (lr _) (.cons (Zl.forget _ _) (.cons (Zl.sl _ (Yn XL (by rw [U8 om]))) .nil)))))))))))
theorem Zgh (b:Z7) (ih:∀(s2:Z5),(s2.sz<b.sz)->(s2.sz<=1000000000)->Zm 337 [X3 s2] [] (Yt (X3 s2))) (hz:b.sz<=1000000000):Zm 312 [Ym b] [] (Yt (Ym b)):=by
 have hbz:=Ux b
 refine ZD 28 Tryz.func312 (ar (iA (XW b) fun b1=>iA [nl,.i 0] fun b2=>ie (ar (iL (ZQ []) 0 5 fun v1=>ZB 3 [2] (iA [nl,.i 0] fun b3=>?_)))))
 refine ZG 0 b3 [Xe [] v1,.i b.result] (ie (Y5 (ab 0 (Y1 (fun fz gz m F h=>∃(k:Nat) (v:Value),(k<=b.steps.length)/\F=sF [1,2,3] fz [(4,.i k)]/\h=[.obj b3 [Xe (b.steps.take k) v,.i b.result],Zi gz 2,Zi gz 3,.tail v 5]/\m=b.steps.length-k) _ _ _ ⟨0,v1,ob,rfl,rfl,rfl⟩ (wk [0,1,1,0] (Ya fl)) ?_))))
 rintro m F h ⟨k,v,Yi,rfl,rfl,rfl⟩
 refine Yq 3 [2] (iw (UA b.steps) (Y3 ((k:Int)<(b.steps.length:Int)) (fun Z9=>?_) (fun Z9=>?_)))
 ·refine ak (aq (ab 1 (aE 12 (ZV 7 12 [0,1,2,3,4] [0,2] ?_))))
  obtain ⟨x1,Z3⟩:=Zt b.steps k om
  have hss:=Eg Z3
  exact dx 5 (Ze none (k:Int) 5 (V9 Z3)) (Zo 5 6 [6] (Z8 7 (YD 7 [] [0] [b3] (ih x1 ob ob) (Z8 8 (dL 8 [0] [b3] [X3 x1] 1 5 fun v2=>Yy 3 3 [] [(24,.sl [X3 x1] none)] (Z8 9 (dp 9 4 [] [] (ZQ (b.steps.take (k+1))) (ZQ (b.steps.take k)) [X3 x1] v none 5 (XD _) (JN rfl) rfl (by simp<;>omega) (by rw [VO Z3];simp [U4]) fun v3=>Zo 1 2 [10] (Z8 11 (X5 11 2 [] [] b3 [Xe (b.steps.take (k+1)) v3,.i b.result] (de (az (Z0 1 (ZC k (Z1 (ZE ⟨k+1,v3,ob,rfl,rfl,rfl⟩ (wk [0,2,2,0] (ZI k fl)))))))))))))))))
 exact ax 0 (Zq 1 [0] (ZG 1 b2 [Xe (b.steps.take k) v,.i b.result] (ie (Yc (r3 [] [.agg [Xe (b.steps.take k) v,.i b.result]] [0] [(b2,b2)] ⟨rfl,rfl⟩ (Zl.agg (.cons (Zl.sl _ (Yn ZQ (by rw [U8 om]))) (.cons (lr _) .nil))))))))
theorem Z1l (k:Nat):(∀(s:Z5),(s.sz<=k)->(s.sz<=1000000000)->Zm 337 [X3 s] [] (Yt (X3 s)))/\(∀(b:Z7),(b.sz<=k)->(b.sz<=1000000000)->Zm 312 [Ym b] [] (Yt (Ym b))):=by
 induction k with
 | zero=>exact ⟨fun s h=>by have:=s.sz_pos;omega,fun s h=>by have:=s.sz_pos;omega⟩
 | succ k ih=>exact ⟨fun s h hz=>Zgk s (fun b2 h2 h3=>ih.2 b2 om h3) hz,fun b h hz=>Zgh b (fun s2 h2 h3=>ih.1 s2 om h3) hz⟩
theorem Zgj (s:Z5) (hz:s.sz<=1000000000:=by exact ob):Zm 337 [X3 s] [] (Yt (X3 s)):=(Z1l s.sz).1 s (X2 _) hz
theorem Zgg (b:Z7) (hz:b.sz<=1000000000:=by exact ob):Zm 312 [Ym b] [] (Yt (Ym b)):=(Z1l b.sz).2 b (X2 _) hz
theorem GX (n:ZF) (ls:List LI) (qz:Nat) (hn:FO n qz WQ:=by exact ob) (hqz:qz<=100000:=by exact ob) (hls:LC n n.routines.length ls:=by exact ob):Zm 267 [YC n,DW ls] [] (fun r h=>∃(n2:ZF),r=YC n2/\h=[]/\FO n2 qz WQ/\n2.routines.length=n.routines.length):=by
 have hnl:=hn.fn.len
 have Xp:=hn.fn.decls.ok
 have hll:=hls.len
 refine ZD 45 Tryz.func267 (ar (iA (X7 n) fun b1=>iA [nl,nl] fun b2=>ie (Zq 2 [1] (Zw [] (Br n.decls) (iL (X8 []) 0 5 fun v1=>Z0 1 (iA [nl,nl] fun b3=>?_))))))
 refine ZG 0 b3 [Yu n.decls,WU [] v1] (ie (Y5 (ab 0 (Y1 (fun fz gz m F h=>∃(k:Nat) (rs:List Yz) (u:Value),(k<=n.routines.length)/\(rs.length=k)/\(∀r∈rs,RF n.decls n.routines.length qz WQ r)/\F=sF [1,2,4,5] fz [(6,.i k)]/\h=[.obj b3 [Yu n.decls,WU rs u],Zi gz 2,Zi gz 3,.tail u 5]/\m=n.routines.length-k) _ _ _ ⟨0,[],v1,ob,ob,(fun r hr=>by cases hr),rfl,rfl,rfl⟩ (wk [0,1,1,0] (Ya fl)) ?_))))
 rintro m F h ⟨k,rs,u,Yi,Zd,Zz,rfl,rfl,rfl⟩
 refine Yq 3 [2] (iw (TW n.routines) (Y3 ((k:Int)<(n.routines.length:Int)) (fun Z9=>?_) (fun Z9=>?_)))
 ·refine ak (aq (ab 1 (Zq 3 [2] ?_)))
  obtain ⟨x1,Z3⟩:=Zt n.routines k om
  have hrf:=hn.rf (Y4 Z3)
  have hrp:=hn.fn.ok.params_at Z3
  have hrz:=hrf.body.2
  refine Zp (Ze none (k:Int) 5 (VJ Z3)) (Z0 1 (iA [nl,nl,.i 0,nl,.i 0] fun b4=>ZG 0 b4 (JL x1) (ie (aE 20 (ZV 14 20 [0,1,2,3,5,6] [1,0] ?_)))))
  obtain ⟨x2,Zv⟩:=Zt ls k om
  have hlc:=hls.at Zv Z3
  refine dx 7 (Ze none (k:Int) 1 (Z66 Zv)) (ZV 8 13 [8,10,11,12,13] [0,0] (Z8 4 (dc 4 [] [0,0,1] [b4,b4,b3] (Vf x1.params) ?_)))
  rintro _ _ ⟨v2,rfl,rfl⟩
  refine Z8 9 (dc 9 [] [0,0,1] [b4,b4,b3] (Vf x2) ?_)
  rintro _ _ ⟨v3,rfl,rfl⟩
  exact Z8 14 (YD 14 [] [0,1] [b4,b3] (Zgg x1.body) (Yy 4 5 [15] [(40,.agg [Z4 x1.params,Z4 x2,.i x1.result,Vl x1.body.steps,.i x1.body.result])] (Z8 16 (dL 16 [1] [b3] (X8 [Yz.mk x1.params x2 x1.result (Z7.mk x1.body.steps x1.body.result)]) 1 5 fun v4=>Yy 3 3 [] [(41,JS [Yz.mk x1.params x2 x1.result (Z7.mk x1.body.steps x1.body.result)])] (Z8 17 (dp 17 7 [] [] (X8 (rs++[Yz.mk x1.params x2 x1.result (Z7.mk x1.body.steps x1.body.result)])) (X8 rs) (X8 [Yz.mk x1.params x2 x1.result (Z7.mk x1.body.steps x1.body.result)]) u none 5 (T8 _) (T8 _) (BR _) (by simp<;>omega) (by simp [DE,X8]) fun v5=>Zo 1 2 [18] (Z8 19 (X5 19 5 [] [] b3 [Yu n.decls,WU (rs++[Yz.mk x1.params x2 x1.result (Z7.mk x1.body.steps x1.body.result)]) v5] (de (az (Z0 1 (ZC k (Z1 (ZE ⟨k+1,(rs++[Yz.mk x1.params x2 x1.result (Z7.mk x1.body.steps x1.body.result)]),v5,ob,ob,(XC Zz (by rw [Z7.eta];exact hrf.lend hlc.1 hlc.2)),rfl,rfl,rfl⟩ (wk [0,5,5,0] (ZI k fl))))))))))))))))
 exact ax 0 (Zq 1 [0] (ZG 1 b2 [Yu n.decls,WU rs u] (ie (Yc (r3 [] [.agg [Yu n.decls,WU rs u]] [0] [(b2,b2)] ⟨(ZF.mk n.decls rs),rfl,rfl,(FO.fin hn.fn om Zz)⟩ (Zl.agg (.cons (lr _) (.cons (Zl.forget _ _) .nil))))))))
theorem Z9d (n:ZF) (qz:Nat) (hn:FO n qz WQ:=by exact ob) (hqz:qz<=100000:=by exact ob):Zm 223 [YC n] [] (fun r h=>∃(n2:ZF),r=YC n2/\h=[]/\FO n2 qz WQ):=by
 refine ZD 33 Tryz.func223 (ar (iA (X7 n) fun b1=>iA [nl,nl] fun b2=>?_))
 refine ie (aD 6 (ZV 4 6 [0,1] [1,1] (BM (fun fz gz F h=>∃(n21:ZF) (b3:Nat) (xs1:List LI),(LC n n.routines.length xs1)/\(FO n21 qz WQ/\n21.routines.length=n.routines.length)/\F=sF [2] fz [(3,.p b3 0)]/\h=[.obj b3 (X7 n21),Zi gz 0,Zi gz 1]) ?_ ?_)))
 ·refine Uj 2 4 ?_ ?_
  ·refine dc 2 [] [1] [b1] (Pt n qz (hn:=hn.fn)) ?_
   rintro _ _ ⟨xs1,rfl,rfl,ZT⟩
   refine Uj 3 4 ?_ ?_
   ·refine dc 3 [] [] [] (GX n xs1 qz (hls:=(by first|assumption|(rw [<-hjl];exact Xm)))) ?_
    rintro _ _ ⟨n21,rfl,rfl,Yg⟩
    have hwl:=Yg
    exact Z8 4 (dA 4 [] [] [nl,nl] fun b3=>Z8 5 (X5 5 0 [] [] b3 (X7 n21) (de (ZM ⟨_,b3,_,(by assumption),(by assumption),rfl,rfl⟩ (Zs 3 fl)))))
   refine dA 4 [1] [b1] [nl,nl] fun b4=>Z8 3 (dc 3 [] [] [] (GX n xs1 qz (hls:=(by first|assumption|(rw [<-hjl];exact Xm)))) ?_)
   rintro _ _ ⟨n22,rfl,rfl,YJ⟩
   have hwl:=YJ
   exact Z8 5 (X5 5 0 [] [] b4 (X7 n22) (de (ZM ⟨_,b4,_,(by assumption),(by assumption),rfl,rfl⟩ (Zs 3 fl))))
  refine dA 4 [1,1] [b1,b1] [nl,nl] fun b5=>Z8 2 (dc 2 [] [2] [b1] (Pt n qz (hn:=hn.fn)) ?_)
  rintro _ _ ⟨xs2,rfl,rfl,YQ⟩
  refine Z8 3 (dc 3 [] [] [] (GX n xs2 qz (hls:=(by first|assumption|(rw [<-hjl];exact Xm)))) ?_)
  rintro _ _ ⟨n23,rfl,rfl,X4⟩
  have hwl:=X4
  exact Z8 5 (X5 5 0 [] [] b5 (X7 n23) (de (ZM ⟨_,b5,_,(by assumption),(by assumption),rfl,rfl⟩ (Zs 3 fl))))
 rintro F h ⟨n21,b3,xs1,ZT,Yg,rfl,rfl⟩
 have hwl:=Yg
 refine Y5 (ab 0 (Y1 (fun fz gz m F h=>∃(k:Nat) (nn:ZF),(k<=13)/\(FO nn qz WQ)/\F=sF [2,3] fz [(4,.i k)]/\h=[.obj b3 (X7 nn),Zi gz 1]/\m=13-k) _ _ _ ⟨0,n21,ob,hwl.1,rfl,rfl,rfl⟩ (wk [0,0] (Ya fl)) ?_))
 rintro m F h ⟨k,nn,Yi,Zd,rfl,rfl,rfl⟩
 refine X6 (Y3 ((k:Int)<=12) (fun Z9=>?_) (fun Z9=>?_))
 ·refine ak (aq (ab 1 (ar (iL (Vh []) 0 1 fun v1=>?_))))
  refine Z1 (Y5 (ab 2 (Y1 (fun fz gz m F h=>∃(j:Nat) (ls:List LI) (u:Value),(j<=nn.routines.length)/\(LC nn j ls)/\(ls.length=j)/\F=sF [2,3,4] fz [(5,Mi ls u),(6,.i j)]/\h=[Zi gz 1,Zi gz 2,.tail u 1]/\m=nn.routines.length-j) _ _ _ ⟨0,[],v1,ob,LC.nil,ob,rfl,rfl,rfl⟩ (wk [1,1,0] (fr (Ya fl))) ?_)))
  rintro m F h ⟨j,ls,u,VG,Xm,XN,rfl,rfl,rfl⟩
  refine Yq 3 [0] (iw (TW nn.routines) (Y3 ((j:Int)<(nn.routines.length:Int)) (fun Zh=>?_) (fun Zh=>?_)))
  ·obtain ⟨rt,hrt⟩:=Zt nn.routines j om
   have hrl:=(Zd.rf (Y4 hrt)).lent
   have hnl4:=Zd.fn.len
   refine ak (aq (ab 3 (az (ZB 3 [0] (ic [] (Z95 nn rt j qz (hn:=Zd.fn) (hr:=hrt)) ?_)))))
   rintro _ _ ⟨xs3,rfl,rfl,Xy⟩
   have hkl:=Xy
   exact iL (Vh [xs3]) 1 1 fun v2=>Y0 0 [(27,DW [xs3])] (ip 3 (Vh (ls++[xs3])) (Vh ls) (Vh [xs3]) u none 1 (DD _) (DD _) (Ld _) (by simp<;>omega) (by simp [Lc,Vh]) fun v3=>Z1 (az (Z0 1 (ZC j (Z1 (ZE ⟨j+1,(ls++[xs3]),v3,ob,(Xm.snoc om (fun r hr v hv=>by rw [hrt] at hr;cases hr;exact hrl.2 v (hkl.2 v hv))),ob,rfl,rfl,rfl⟩ (wk [2,2,0] (fr (ZI j fl)))))))))
  have hjl:j=nn.routines.length:=by omega
  refine ax 2 (az (QM 2 [(30,DW ls)] [0] (ic [] (GX nn ls qz (hls:=(by first|assumption|(rw [<-hjl];exact Xm)))) ?_)))
  rintro _ _ ⟨n24,rfl,rfl,Wx⟩
  have hwl:=Wx
  exact ZG 0 b3 (X7 n24) (ie (az (Z0 1 (ZC k (Z1 (ZE ⟨k+1,n24,ob,hwl.1,rfl,rfl,rfl⟩ (wk [0,0] (ZI k fl))))))))
 exact ax 0 (Zq 1 [0] (ZG 1 b2 (X7 nn) (ie (Yc (r3 [] [YC nn] [0] [(b2,b2)] ⟨nn,rfl,rfl,(by first|exact Zd|exact hwl.1)⟩ (lr _))))))
theorem EO (xs:LI) (y:Int) (hl:xs.length<=1000000000:=by exact ob):Zm 240 [Z4 xs,.i y] [] (fun r h=>∃(v:Value),r=Y6 (Ub xs y) v/\h=[.tail v 1]):=by
 refine ZD 49 Tryz.func240 (ZY (ar (iL (Z6 []) 0 1 fun v1=>?_)))
 refine Z1 (ZY (Y5 (ab 0 (Y1 (fun fz gz m F h=>∃(k:Nat) (acc:LI) (d:Bool) (v:Value),(k<=xs.length)/\(acc.length<=k+(if d=true then 1 else 0))/\(acc++Qq d (xs.drop k) y=Ub xs y)/\F=sF [0,1] fz [(5,Y6 acc v),(6,.b d),(7,.i k)]/\h=[.tail v 1]/\m=xs.length-k) _ _ _ ⟨0,[],false,v1,ob,(by simp),rfl,rfl,rfl,rfl⟩ (wk [0] (fw (Ya fl))) ?_))))
 rintro m F h ⟨k,acc,d,v,Yi,Zd,Zz,rfl,rfl,rfl⟩
 refine YR 2 (iw (Y9 xs) (Y3 ((k:Int)<(xs.length:Int)) (fun Z9=>?_) (fun Z9=>?_)))
 ·obtain ⟨x1,Z3⟩:=Zt xs k om
  have hil:acc.length<=k+1:=V7 Zd (by split<;>omega)
  refine ak (aq (ab 1 (X6 (Xi [0,1,5,6,7] [(24,.b ((!d)&&(decide (x1>=y))))] (fun gz=>gz) ?_ ?_))))
  ·refine Z0 3 (ib (b:=(!d)) 17 (fun Zb=>?_) (fun Zb=>?_))
   ·exact Z0 2 (Zp (Ze none (k:Int) 1 (Y7 Z3)) (Z1 (wk [0] (Zj (decide (x1>=y)) Zb fl))))
   exact Z1 (wk [0] (Zj false Zb fl))
  refine Xw (fun fz gz F h=>∃(acc2:LI) (d2:Bool) (w:Value),((acc2=acc/\d2=d/\(d=true∨¬x1>=y))∨(acc2=acc++[y]/\d2=true/\¬d=true/\x1>y)∨(acc2=acc/\d2=true/\¬d=true/\x1=y))/\(acc2.length<=k+(if d2=true then 1 else 0))/\(acc2.length<=k+1)/\F=sF [0,1,7] fz [(5,Y6 acc2 w),(6,.b d2)]/\h=[.tail w 1]) ?_ ?_
  ·refine ac ((!d)&&(decide (x1>=y))) (p:=(¬(d=true))/\(x1>=y)) (Yo (Y8 Iff.rfl) dq) (fun Zh=>?_) (fun Zh=>?_)
   ·refine YR 2 (Zp (Ze none (k:Int) 1 (Y7 Z3)) (Z1 (Xw (fun fz gz F h=>∃(w3:Value),F=sF [0,1,7] fz [(5,Y6 (if x1>y then (acc++[y]) else acc) w3)]/\h=[.tail w3 1]) ?_ ?_)))
    ·refine Wt (x1>y) (fun ZA=>?_) (fun ZA=>?_)
     ·exact az (Z0 2 (iL (Z6 [y]) 1 1 fun v2=>Y0 0 [(33,Z4 [y])] (ip 1 (Z6 (acc++[y])) (Z6 acc) (Z6 [y]) v none 1 (YG _) (YG _) (XT _) (by simp<;>omega) (by simp [XX,Z6]) fun v3=>Z1 (ZM ⟨v3,rfl,rfl⟩ (wk [0] (fc (x:=Y6 (acc++[y]) v3) (Zl.slh _ (Yn Z6 (by first|rfl|(rw [Zf ZA])|(rw [Za ZA])|(simp [ZA];done)|(rw [Ye];simp [ZA];done)|omega))) fl))))))
     exact ak (ZM ⟨v,rfl,rfl⟩ (wk [0] (fc (x:=Y6 acc v) (Zl.slh _ (Yn Z6 (by first|rfl|(rw [Zf ZA])|(rw [Za ZA])|(simp [ZA];done)|(rw [Ye];simp [ZA];done)|omega))) fl)))
    rintro F h ⟨w3,rfl,rfl⟩
    exact Vv (ZM ⟨(if x1>y then (acc++[y]) else acc),true,w3,(if h:x1>y then (by rw [Zf h];exact .inr (.inl ⟨rfl,rfl,Zh.1,h⟩)) else (by rw [Za h];exact .inr (.inr ⟨rfl,rfl,Zh.1,by have:=Zh.2;omega⟩))),(by have h1:=Zd;rw [Za Zh.1] at h1;split<;>(simp<;>omega)),(by have h1:=Zd;rw [Za Zh.1] at h1;split<;>(simp<;>omega)),rfl,rfl⟩ (wk [0] fl))
   exact ak (ZM ⟨acc,d,v,(.inl ⟨rfl,rfl,by by_cases q:d=true;exact .inl q;exact .inr (fun z=>Zh ⟨q,z⟩)⟩),Zd,hil,rfl,rfl⟩ (wk [0] fl))
  rintro F h ⟨acc2,d2,w,VE,Bj,LX,rfl,rfl⟩
  exact az (Z0 3 (Zp (Ze none (k:Int) 1 (Y7 Z3)) (Z0 1 (iL (Z6 [x1]) 1 1 fun v4=>Y0 0 [(40,Z4 [x1])] (ip 1 (Z6 (acc2++[x1])) (Z6 acc2) (Z6 [x1]) w none 1 (YG _) (YG _) (XT _) (by simp<;>omega) (by simp [XX,Z6]) fun v5=>Z1 (az (Z0 1 (ZC k (Z1 (ZE ⟨k+1,(acc2++[x1]),d2,v5,ob,(by simp only [ZH,Ys,YF];omega),(Zb6 Z3 Zz VE),rfl,rfl,rfl⟩ (wk [0] (fw (ZI k fl)))))))))))))
 have hil:acc.length<=k+1:=V7 Zd (by split<;>omega)
 refine ax 0 (Y5 (Xw (fun fz gz F h=>∃(w4:Value),F=sF [] fz [(5,Y6 (if d=true then acc else (acc++[y])) w4)]/\h=[.tail w4 1]) ?_ ?_))
 ·refine ac (!d) (p:=¬(d=true)) (Y8 Iff.rfl) (fun Yk=>?_) (fun Yk=>?_)
  ·exact az (Z0 2 (iL (Z6 [y]) 1 1 fun v6=>Y0 0 [(46,Z4 [y])] (ip 1 (Z6 (acc++[y])) (Z6 acc) (Z6 [y]) v none 1 (YG _) (YG _) (XT _) (by simp<;>omega) (by simp [XX,Z6]) fun v7=>Z1 (ZM ⟨v7,rfl,rfl⟩ (wk [0] (fc (x:=Y6 (acc++[y]) v7) (Zl.slh _ (Yn Z6 (by first|rfl|(rw [Zf Yk])|(rw [Za Yk])|(simp [Yk];done)|(rw [Ye];simp [Yk];done)|omega))) fl))))))
  exact ak (ZM ⟨v,rfl,rfl⟩ (wk [0] (fc (x:=Y6 acc v) (Zl.slh _ (Yn Z6 (by first|rfl|(rw [Zf Yk])|(rw [Za Yk])|(simp [Yk];done)|(rw [Ye];simp [Yk];done)|omega))) fl)))
 rintro F h ⟨w4,rfl,rfl⟩
 exact ar (Zk (r2 [0] [Y6 (if d=true then acc else (acc++[y])) w4] ⟨w4,rfl,rfl⟩ (Zl.slh _ (Yn Z6 (Zb5 om Zz)))))
theorem PI (xs:LI) (y:Int) (hl:xs.length<=1000000000:=by exact ob):Zm 321 [Z4 xs,.i y] [] (fun r h=>∃(v:Value),r=Y6 (Q7 xs y) v/\h=[.tail v 1]):=by
 refine ZD 28 Tryz.func321 (ZY (ar (iL (Z6 []) 0 1 fun v1=>?_)))
 refine Z1 (Y5 (ab 0 (Y1 (fun fz gz m F h=>∃(k:Nat) (acc:LI) (v:Value),(k<=xs.length)/\(acc.length<=k)/\(acc++Q7 (xs.drop k) y=Q7 xs y)/\F=sF [0,1] fz [(5,Y6 acc v),(6,.i k)]/\h=[.tail v 1]/\m=xs.length-k) _ _ _ ⟨0,[],v1,ob,ob,rfl,rfl,rfl,rfl⟩ (wk [0] (fr (Ya fl))) ?_)))
 rintro m F h ⟨k,acc,v,Yi,Zd,Zz,rfl,rfl,rfl⟩
 refine YR 2 (iw (Y9 xs) (Y3 ((k:Int)<(xs.length:Int)) (fun Z9=>?_) (fun Z9=>?_)))
 ·refine ak (aq (ab 1 (ZX 2 ?_)))
  obtain ⟨x1,Z3⟩:=Zt xs k om
  refine Zp (Ze none (k:Int) 1 (Y7 Z3)) (Z1 (BL (fun fz gz F h=>∃(w:Value),F=sF [0,1,6] fz [(5,Y6 (if x1≠y then (acc++[x1]) else acc) w)]/\h=[.tail w 1]) (fun _ _=>rfl) ?_ ?_))
  ·refine ac (x1 != y) Yh (fun Zh=>?_) (fun Zh=>?_)
   ·exact az (Z0 3 (Zp (Ze none (k:Int) 1 (Y7 Z3)) (Z0 1 (iL (Z6 [x1]) 1 1 fun v2=>Y0 0 [(25,Z4 [x1])] (ip 1 (Z6 (acc++[x1])) (Z6 acc) (Z6 [x1]) v none 1 (YG _) (YG _) (XT _) (by simp<;>omega) (by simp [XX,Z6]) fun v3=>Z1 (ZM ⟨v3,rfl,rfl⟩ (wk [0] (fc (x:=Y6 (acc++[x1]) v3) (Zl.slh _ (Yn Z6 (by first|rfl|(rw [Zf Zh])|(rw [Za Zh])|(simp [Zh];done)|(rw [Ye];simp [Zh];done)|omega))) fl))))))))
   exact ak (ZM ⟨v,rfl,rfl⟩ (wk [0] (fc (x:=Y6 acc v) (Zl.slh _ (Yn Z6 (by first|rfl|(rw [Zf Zh])|(rw [Za Zh])|(simp [Zh];done)|(rw [Ye];simp [Zh];done)|omega))) fl)))
  rintro F h ⟨w,rfl,rfl⟩
  exact az (Z0 1 (ZC k (Z1 (ZE ⟨k+1,(if x1≠y then (acc++[x1]) else acc),w,ob,(by split<;>(try simp)<;>omega),(Zdp Z3 Zz),rfl,rfl,rfl⟩ (wk [0] (fr (ZI k fl)))))))
 exact ax 0 (ar (Zk (r2 [0] [Y6 acc v] ⟨v,rfl,rfl⟩ (Zl.slh _ (Yn Z6 (Zdo om Zz))))))
theorem Zga (s:Z5) (q:Int) (xs:LI) (ih:∀(b2:Z7) (q:Int) (k2:Nat) (xs2:LI),(b2.sz<s.sz)->(k2<=b2.steps.length)->(xs2.length+b2.sz<=1000000000)->Zm 315 [Ym b2,.i q,.i k2,Z4 xs2] [] (Yt (Z4 (UL q (UY q (b2.steps.drop k2) xs2) b2.result)))) (hz:xs.length+s.sz<=1000000000):Zm 339 [X3 s,.i q,Z4 xs] [] (Yt (Z4 (JX q s xs))):=by
 have hkz:=K9 s
 have haz:=Jv s
 have hse:=s.sz_eq
 refine ZD 58 Tryz.func339 (ar (iA (W7 s) fun b1=>Z1 (Yq 2 [0] (Zw [] (Z1m s.op) (ie (ac (YM s.op) Iff.rfl (fun Z9=>?_) (fun Z9=>?_)))))))
 ·exact ar (Zk (ZP (Z4 xs) (Zl.sl _ (Yn Z6 (by rw [Z2l,Zf (by assumption)])))))
 refine ak (Y5 (ab 0 (Y1 (fun fz gz m F h=>∃(j:Nat) (ys:LI),(j<=s.args.length)/\(ys.length<=xs.length+j)/\(QP q (s.args.drop j) ys=QP q s.args xs)/\F=sF [1,3] fz [(2,Z4 ys),(7,.i j)]/\h=gz/\m=s.args.length-j) _ _ _ ⟨0,xs,ob,ob,rfl,rfl,rfl,rfl⟩ (wk [0] (fr (Ya fl))) ?_)))
 rintro m F h ⟨j,ys,Yi,Zd,Zz,rfl,rfl,rfl⟩
 refine Yq 3 [0] (iw (Y9 s.args) (Y3 ((j:Int)<(s.args.length:Int)) (fun Zh=>?_) (fun Zh=>?_)))
 ·refine ak (aq (ab 1 (Zq 3 [0] ?_)))
  obtain ⟨x1,Z3⟩:=Zt s.args j om
  refine Zp (Ze none (j:Int) 1 (Y7 Z3)) (Xi [1,2,3,7] [(34,.b ((decide (x1>=0))&&(decide (x1<q))))] (fun gz=>gz) ?_ ?_)
  ·refine Z0 3 (ib (b:=(decide (x1>=0))) 26 (fun Zb=>?_) (fun Zb=>?_))
   ·exact ZB 3 [0] (Zp (Ze none (j:Int) 1 (Y7 Z3)) (Z1 (wk [0] (Zj (decide (x1<q)) Zb fl))))
   exact Z1 (wk [0] (Zj false Zb fl))
  refine BL (fun fz gz F h=>F=sF [1,3,7] fz [(2,Z4 (UL q ys x1))]/\h=gz) (fun _ _=>rfl) ?_ ?_
  ·refine ac ((decide (x1>=0))&&(decide (x1<q))) (p:=(x1>=0)/\(x1<q)) (Yo dq dq) (fun ZA=>?_) (fun ZA=>?_)
   ·refine az (ZB 4 [0] (Zp (Ze none (j:Int) 1 (Y7 Z3)) (Z0 1 (ic [] (EO ys x1) ?_))))
    rintro _ _ ⟨v1,rfl,rfl⟩
    exact Z1 (ZM ⟨rfl,rfl⟩ (wk [1] (fc (x:=Y6 (Ub ys x1) v1) (Zl.sl _ (Yn Z6 (by rw [UL,Zf (by assumption)]))) fl)))
   exact ak (ZM ⟨rfl,rfl⟩ (wk [0] (fc (x:=Z4 ys) (Zl.sl _ (Yn Z6 (by rw [UL,Za (by assumption)]))) fl)))
  rintro F h ⟨rfl,rfl⟩
  exact az (Z0 1 (ZC j (Z1 (ZE ⟨j+1,(UL q ys x1),ob,(by have:=I5 (n:=q) ys x1;omega),(Zio Z3 Zz),rfl,rfl,rfl⟩ (wk [0] (fr (ZI j fl)))))))
 have hA:QP q s.args xs=ys:=(Zin om Zz).symm
 refine ax 0 (Y5 (ab 2 (Y1 (fun fz gz m F h=>∃(j:Nat) (zs:LI),(j<=s.kids.length)/\(zs.length<=xs.length+s.args.length+YV (s.kids.take j))/\(Ji q (s.kids.drop j) zs=Ji q s.kids (QP q s.args xs))/\F=sF [1,3] fz [(2,Z4 zs),(8,.i j)]/\h=gz/\m=s.kids.length-j) _ _ _ ⟨0,ys,ob,(by rw [List.take_zero,YV];omega),(by rw [hA];rfl),rfl,rfl,rfl⟩ (wk [0] (fr (Ya fl))) ?_)))
 rintro m F h ⟨j,zs,VG,Xm,XN,rfl,rfl,rfl⟩
 refine Yq 3 [0] (iw (Kz s.kids) (Y3 ((j:Int)<(s.kids.length:Int)) (fun Yk=>?_) (fun Yk=>?_)))
 ·refine ak (aq (ab 3 (az (ZB 3 [0] ?_))))
  obtain ⟨x2,Zv⟩:=Zt s.kids j om
  have hks:=Qs Zv
  have hbt:=Gn Zv
  have hbx:=Gm Zv
  have hul:=I4 (n:=q) x2 zs
  exact Zp (Ze none (j:Int) 2 (UQ Zv)) (Z0 3 (Zw [] (ih x2 q 0 zs ob ob ob) (Z1 (az (Z0 1 (ZC j (Z1 (ZE ⟨j+1,(UX q x2 zs),ob,om,(Ziq Zv XN),rfl,rfl,rfl⟩ (wk [0] (fc (x:=Z4 (UL q (UY q (x2.steps.drop 0) zs) x2.result)) (Zl.sl _ (Yn Z6 (by rw [Z2j];rfl))) (ZI j fl)))))))))))
 exact ax 2 (ar (Zk (ZP (Z4 zs) (Zl.sl _ (Yn Z6 (by rw [Z2l,Za (by assumption)];exact (Zip om XN)))))))
theorem Zgb (b:Z7) (q:Int) (k0:Nat) (xs:LI) (ih:∀(s2:Z5) (q:Int) (xs2:LI),(s2.sz<b.sz)->(xs2.length+s2.sz<=1000000000)->Zm 339 [X3 s2,.i q,Z4 xs2] [] (Yt (Z4 (JX q s2 xs2)))) (hk:k0<=b.steps.length) (hz:xs.length+b.sz<=1000000000):Zm 315 [Ym b,.i q,.i k0,Z4 xs] [] (Yt (Z4 (UL q (UY q (b.steps.drop k0) xs) b.result))):=by
 have hbz:=Ux b
 have hbe:=b.sz_eq
 have hsd:=Z20 b.steps k0
 refine ZD 40 Tryz.func315 (ar (iA (XW b) fun b1=>?_))
 refine Z1 (Y5 (ab 0 (Y1 (fun fz gz m F h=>∃(k:Nat) (ys:LI),(k<=b.steps.length)/\(ys.length+Yr (b.steps.drop k)<=xs.length+Yr (b.steps.drop k0))/\(UY q (b.steps.drop k) ys=UY q (b.steps.drop k0) xs)/\F=sF [1,4] fz [(3,Z4 ys),(9,.i k)]/\h=gz/\m=b.steps.length-k) _ _ _ ⟨k0,xs,ob,(X2 _),rfl,rfl,rfl,rfl⟩ (wk [0] fl) ?_)))
 rintro m F h ⟨k,ys,Yi,Zd,Zz,rfl,rfl,rfl⟩
 refine Yq 3 [0] (iw (UA b.steps) (Y3 ((k:Int)<(b.steps.length:Int)) (fun Z9=>?_) (fun Z9=>?_)))
 ·refine ak (aq (ab 1 (az (ZB 3 [0] ?_))))
  obtain ⟨x1,Z3⟩:=Zt b.steps k om
  have hss:=Eg Z3
  have hsd1:=Z1z Z3
  have hul:=Z2m (n:=q) x1 ys
  exact Zp (Ze none (k:Int) 5 (V9 Z3)) (Z0 3 (Zw [] (ih x1 q ys ob ob) (Z1 (az (Z0 1 (ZC k (Z1 (ZE ⟨k+1,(JX q x1 ys),ob,ob,(Zis Z3 Zz),rfl,rfl,rfl⟩ (wk [0] (fr (ZI k fl)))))))))))
 refine ax 0 (X6 (Xi [3,4] [(34,.b ((decide (b.result>=0))&&(decide (b.result<q))))] (fun gz=>gz) ?_ ?_))
 ·refine ZB 4 [0] (ib (b:=(decide (b.result>=0))) 29 (fun Zb=>?_) (fun Zb=>?_))
  ·exact Vb [0] (wk [0] (Zj (decide (b.result<q)) Zb fl))
  exact Z1 (wk [0] (Zj false Zb fl))
 refine Xw (fun fz gz F h=>F=sF [] fz [(3,Z4 (UL q ys b.result))]/\h=[]) ?_ ?_
 ·refine ac ((decide (b.result>=0))&&(decide (b.result<q))) (p:=(b.result>=0)/\(b.result<q)) (Yo dq dq) (fun Zh=>?_) (fun Zh=>?_)
  ·refine az (ZB 3 [0] (ic [] (EO ys b.result) ?_))
   rintro _ _ ⟨v1,rfl,rfl⟩
   exact Z1 (ZM ⟨rfl,rfl⟩ (wk [] (fc (x:=Y6 (Ub ys b.result) v1) (Zl.sl _ (Yn Z6 (by rw [UL,Zf (by assumption)]))) fl)))
  exact ak (ZM ⟨rfl,rfl⟩ (wk [] (fc (x:=Z4 ys) (Zl.sl _ (Yn Z6 (by rw [UL,Za (by assumption)]))) fl)))
 rintro F h ⟨rfl,rfl⟩
 exact ar (Zk (ZP (Z4 (UL q ys b.result)) (Zl.sl _ (Yn Z6 (by rw [Zir om Zz])))))
theorem Zhe (k:Nat):(∀(s:Z5) (q:Int) (xs:LI),(s.sz<=k)->(xs.length+s.sz<=1000000000)->Zm 339 [X3 s,.i q,Z4 xs] [] (Yt (Z4 (JX q s xs))))/\(∀(b:Z7) (q:Int) (k0:Nat) (xs:LI),(b.sz<=k)->(k0<=b.steps.length)->(xs.length+b.sz<=1000000000)->Zm 315 [Ym b,.i q,.i k0,Z4 xs] [] (Yt (Z4 (UL q (UY q (b.steps.drop k0) xs) b.result)))):=by
 induction k with
 | zero=>exact ⟨fun s q xs h=>by have:=s.sz_pos;omega,fun b q k0 xs h=>by have:=b.sz_pos;omega⟩
 | succ k ih=>exact ⟨fun s q xs h hz=>Zga s q xs (fun b2 q k2 xs2 h2 hk h3=>ih.2 b2 q k2 xs2 om hk h3) hz,fun b q k0 xs h hk hz=>Zgb b q k0 xs (fun s2 q xs2 h2 h3=>ih.1 s2 q xs2 om h3) hk hz⟩
theorem Z1f (b:Z7) (q:Int) (k0:Nat) (xs:LI) (hk:k0<=b.steps.length:=by exact ob) (hz:xs.length+b.sz<=1000000000:=by exact ob):Zm 315 [Ym b,.i q,.i k0,Z4 xs] [] (Yt (Z4 (UL q (UY q (b.steps.drop k0) xs) b.result))):=(Zhe b.sz).2 b q k0 xs (X2 _) hk hz
theorem Z1u (b:Z7) (q:Int) (hz:b.sz<=100000000:=by exact ob):Zm 270 [Ym b,.i q] [] (Yt (Z4 (UX q b []))):=by
 exact ZD 9 Tryz.func270 (ar (iA (XW b) fun b1=>Z1 (Zq 2 [0] (iL (Z6 []) 0 1 fun v1=>Y0 0 [(7,Z4 [])] (Zw [] (Z1f b q 0 [] (hk:=(T2 _))) (Zk (ZP (Z4 (UL q (UY q (b.steps.drop 0) []) b.result)) (Zl.sl _ (Yn Z6 (by rw [Z2j];rfl))))))))))
theorem Z9y (xs:LI) (ys:LI) (hz:xs.length+ys.length<=100000000:=by exact ob):Zm 316 [Z4 xs,Z4 ys] [] (fun r h=>∃(zs:LI),r=Z4 zs/\h=[]/\zs.length<=xs.length+ys.length):=by
 refine ZD 22 Tryz.func316 (ZY (ZX 1 (ic [] (Vf xs) ?_)))
 rintro _ _ ⟨v1,rfl,rfl⟩
 refine Z1 (Y5 (ab 0 (Y1 (fun fz gz m F h=>∃(k:Nat) (zs:LI),(k<=ys.length)/\(zs.length<=xs.length+k)/\F=sF [1] fz [(5,Z4 zs),(6,.i k)]/\h=[]/\m=ys.length-k) _ _ _ ⟨0,xs,ob,ob,rfl,rfl,rfl⟩ (wk [] (fc (x:=Y6 xs v1) (Zl.forget _ _) (Ya fl))) ?_)))
 rintro m F h ⟨k,zs,Yi,Zd,rfl,rfl,rfl⟩
 refine YR 2 (iw (Y9 ys) (Y3 ((k:Int)<(ys.length:Int)) (fun Z9=>?_) (fun Z9=>?_)))
 ·refine ak (aq (ab 1 (az (Z0 3 ?_))))
  obtain ⟨x1,Z3⟩:=Zt ys k om
  refine Zp (Ze none (k:Int) 1 (Y7 Z3)) (Z0 1 (ic [] (EO zs x1) ?_))
  rintro _ _ ⟨v2,rfl,rfl⟩
  exact Z1 (az (Z0 1 (ZC k (Z1 (ZE ⟨k+1,(Ub zs x1),ob,(by have:=DQ zs x1;omega),rfl,rfl,rfl⟩ (wk [] (fc (x:=Y6 (Ub zs x1) v2) (Zl.forget _ _) (ZI k fl))))))))
 exact ax 0 (ar (Zk (r1 [] ⟨zs,rfl,rfl,ob⟩)))
theorem Pv (xs:LI) (ys:LI) (hz:xs.length<=100000000:=by exact ob) (hy:ys.length<=100000000:=by exact ob):Zm 342 [Z4 xs,Z4 ys] [] (fun r h=>∃(zs:LI) (v:Value),r=Y6 zs v/\h=[.tail v 1]/\zs.length<=xs.length/\∀z∈zs,z∈xs):=by
 refine ZD 28 Tryz.func342 (ZY (ar (iL (Z6 []) 0 1 fun v1=>?_)))
 refine Z1 (Y5 (ab 0 (Y1 (fun fz gz m F h=>∃(k:Nat) (zs:LI) (u:Value),(k<=xs.length)/\(zs.length<=k)/\(∀z∈zs,z∈xs)/\F=sF [0,1] fz [(5,Y6 zs u),(6,.i k)]/\h=[.tail u 1]/\m=xs.length-k) _ _ _ ⟨0,[],v1,ob,ob,(fun z hz=>by cases hz),rfl,rfl,rfl⟩ (wk [0] (fr (Ya fl))) ?_)))
 rintro m F h ⟨k,zs,u,Yi,Zd,Zz,rfl,rfl,rfl⟩
 refine YR 2 (iw (Y9 xs) (Y3 ((k:Int)<(xs.length:Int)) (fun Z9=>?_) (fun Z9=>?_)))
 ·refine ak (aq (ab 1 (ZX 3 ?_)))
  obtain ⟨x1,Z3⟩:=Zt xs k om
  refine Zp (Ze none (k:Int) 1 (Y7 Z3)) (Z0 1 (Zw [] (UK ys x1) (ie (Wt (x1∈ys) (fun Zh=>?_) (fun Zh=>?_)))))
  ·exact az (Z0 3 (Zp (Ze none (k:Int) 1 (Y7 Z3)) (Z0 1 (iL (Z6 [x1]) 1 1 fun v2=>Y0 0 [(25,Z4 [x1])] (ip 1 (Z6 (zs++[x1])) (Z6 zs) (Z6 [x1]) u none 1 (YG _) (YG _) (XT _) (by simp<;>omega) (by simp [XX,Z6]) fun v3=>Z1 (az (Z0 1 (ZC k (Z1 (ZE ⟨k+1,(zs++[x1]),v3,ob,ob,(by first|exact Zz|exact XC Zz (Y4 Z3)),rfl,rfl,rfl⟩ (wk [0] (fr (ZI k fl)))))))))))))
  exact ak (az (Z0 1 (ZC k (Z1 (ZE ⟨k+1,zs,u,ob,ob,(by first|exact Zz|exact XC Zz (Y4 Z3)),rfl,rfl,rfl⟩ (wk [0] (fr (ZI k fl))))))))
 exact ax 0 (ar (Zk (r1 [0] ⟨zs,u,rfl,rfl,⟨by omega,Zz⟩⟩)))
theorem LE (xs:LI) (q:Int) (hz:xs.length<=100000000:=by exact ob):Zm 357 [Z4 xs,.i q] [] (fun r h=>∃(zs:LI) (v:Value),r=Y6 zs v/\h=[.tail v 1]/\zs.length<=xs.length/\∀z∈zs,z∈xs):=by
 refine ZD 28 Tryz.func357 (ZY (ar (iL (Z6 []) 0 1 fun v1=>?_)))
 refine Z1 (Y5 (ab 0 (Y1 (fun fz gz m F h=>∃(k:Nat) (zs:LI) (u:Value),(k<=xs.length)/\(zs.length<=k)/\(∀z∈zs,z∈xs)/\F=sF [0,1] fz [(5,Y6 zs u),(6,.i k)]/\h=[.tail u 1]/\m=xs.length-k) _ _ _ ⟨0,[],v1,ob,ob,(fun z hz=>by cases hz),rfl,rfl,rfl⟩ (wk [0] (fr (Ya fl))) ?_)))
 rintro m F h ⟨k,zs,u,Yi,Zd,Zz,rfl,rfl,rfl⟩
 refine YR 2 (iw (Y9 xs) (Y3 ((k:Int)<(xs.length:Int)) (fun Z9=>?_) (fun Z9=>?_)))
 ·refine ak (aq (ab 1 (ZX 2 ?_)))
  obtain ⟨x1,Z3⟩:=Zt xs k om
  refine Zp (Ze none (k:Int) 1 (Y7 Z3)) (Y3 (x1<q) (fun Zh=>?_) (fun Zh=>?_))
  ·exact az (Z0 3 (Zp (Ze none (k:Int) 1 (Y7 Z3)) (Z0 1 (iL (Z6 [x1]) 1 1 fun v2=>Y0 0 [(25,Z4 [x1])] (ip 1 (Z6 (zs++[x1])) (Z6 zs) (Z6 [x1]) u none 1 (YG _) (YG _) (XT _) (by simp<;>omega) (by simp [XX,Z6]) fun v3=>Z1 (az (Z0 1 (ZC k (Z1 (ZE ⟨k+1,(zs++[x1]),v3,ob,ob,(by first|exact Zz|exact XC Zz (Y4 Z3)),rfl,rfl,rfl⟩ (wk [0] (fr (ZI k fl)))))))))))))
  exact ak (az (Z0 1 (ZC k (Z1 (ZE ⟨k+1,zs,u,ob,ob,(by first|exact Zz|exact XC Zz (Y4 Z3)),rfl,rfl,rfl⟩ (wk [0] (fr (ZI k fl))))))))
 exact ax 0 (ar (Zk (r1 [0] ⟨zs,u,rfl,rfl,⟨by omega,Zz⟩⟩)))
theorem Ch (op:Int) (v:Int) :Zm 180 [.i op,.i v] [] (Yt (X3 (Zx op v))):=by
 exact ZD 10 Tryz.func180 (ar (iA [.i 0,.i 0,.i 0,nl,nl] fun b1=>ie (ZX 2 (iL (Z6 [v]) 1 1 fun v1=>iL (XL []) 0 2 fun v2=>Z0 1 (ZG 2 b1 [.i op,.i 0,.i 0,Y6 [v] v1,Qu [] v2] (ie (Yc (r3 [] [.agg [.i op,.i 0,.i 0,Y6 [v] v1,Qu [] v2]] [0] [(b1,b1)] ⟨rfl,rfl⟩ (Zl.agg (.cons li (.cons li (.cons li (.cons (Zl.sl _ (Yn Z6 rfl)) (.cons (Zl.sl _ (Yn XL rfl)) .nil))))))))))))))
theorem KN (op:Int) (xs:LI) (hl:xs.length<=1000000000:=by exact ob):Zm 204 [.i op,Z4 xs] [] (fun r h=>∃(v:Value),r=Xe (xs.map (Zx op)) v/\h=[.tail v 5]):=by
 refine ZD 24 Tryz.func204 (ZY (ar (iL (ZQ []) 0 5 fun v1=>?_)))
 refine Z1 (Y5 (ab 0 (Y1 (fun fz gz m F h=>∃(k:Nat) (v:Value),(k<=xs.length)/\F=sF [0,1] fz [(5,Xe ((xs.take k).map (Zx op)) v),(6,.i k)]/\h=[.tail v 5]/\m=xs.length-k) _ _ _ ⟨0,v1,ob,rfl,rfl,rfl⟩ (wk [0] (fc (x:=Xe [] v1) (Zl.slh _ (Yn ZQ rfl)) (Ya fl))) ?_)))
 rintro m F h ⟨k,v,Yi,rfl,rfl,rfl⟩
 refine YR 2 (iw (Y9 xs) (Y3 ((k:Int)<(xs.length:Int)) (fun Z9=>?_) (fun Z9=>?_)))
 ·refine ak (aq (ab 1 (az (Z0 4 ?_))))
  obtain ⟨x1,Z3⟩:=Zt xs k om
  exact Zp (Ze none (k:Int) 1 (Y7 Z3)) (Z0 1 (Zw [] (Ch op x1) (iL [X3 (Zx op x1)] 1 5 fun v2=>Y0 0 [(21,.sl [X3 (Zx op x1)] none)] (ip 1 (ZQ ((xs.take (k+1)).map (Zx op))) (ZQ ((xs.take k).map (Zx op))) [X3 (Zx op x1)] v none 5 (XD _) (JN rfl) rfl (by simp<;>omega) (by rw [VO Z3];simp [U4]) fun v3=>Z1 (az (Z0 1 (ZC k (Z1 (ZE ⟨k+1,v3,ob,rfl,rfl,rfl⟩ (wk [0] (fr (ZI k fl))))))))))))
 exact ax 0 (ar (Zk (r2 [0] [Xe ((xs.take k).map (Zx op)) v] ⟨v,rfl,rfl⟩ (Zl.slh _ (Yn ZQ (by rw [U8 om]))))))
theorem Z9i (n:ZF) (s:Z5) (i:Nat) (mm:Nat) (hn:Xv n:=by exact ob) (hf:FS n.decls n.routines.length mm s:=by exact ob) (hi:i<s.args.length:=by exact ob):Zm 356 [YC n,X3 s,.i i] [] (fun r h=>∃(wr:Bool),r=.b wr/\h=[]):=by
 have hal:=hf.alen
 refine ZD 42 Tryz.func356 (ar (iA (X7 n) fun b1=>iA (W7 s) fun b2=>?_))
 refine Z1 (Y5 (ab 0 (Y1 (fun fz gz m F h=>∃(k:Nat),(k<=s.args.length)/\F=sF [2,3,4] fz [(7,.i k)]/\h=gz/\m=s.args.length-k) _ _ _ ⟨0,ob,rfl,rfl,rfl⟩ (wk [0,0] (Ya fl)) ?_)))
 rintro m F h ⟨k,Yi,rfl,rfl,rfl⟩
 refine Yq 3 [0] (iw (Y9 s.args) (Y3 ((k:Int)<(s.args.length:Int)) (fun Z9=>?_) (fun Z9=>?_)))
 ·refine ak (aq (ab 1 (aD 27 (Zo 23 27 [0,1,2,3] (db (b:=((k:Int) != (i:Int))) 18 (fun Zb=>?_) (fun Zb=>?_))))))
  ·refine ZV 20 23 [4,5,6] [0] ?_
   obtain ⟨x1,Z3⟩:=Zt s.args k om
   refine dx 7 (Ze none (k:Int) 1 (Y7 Z3)) (ZV 15 19 [8,9,10,11] [0] ?_)
   obtain ⟨x2,Zv⟩:=Zt s.args i om
   refine dx 12 (Ze none (i:Int) 1 (Y7 Zv)) (Zo 10 14 [13,14,15,16] (db (b:=(x1==x2)) 31 (fun Zy=>?_) (fun Zy=>?_)))
   ·refine Zo 6 10 [17,18,19,20] (db (b:=(decide ((k:Int)>(i:Int)))) 35 (fun Yf=>?_) (fun Yf=>?_))
    ·exact Zo 0 6 [21,22,23,24,25,26] (de (Vq (ar (Zk (r1 [] ⟨true,rfl,rfl⟩)))))
    refine ZV 3 6 [21,22,23] [1,0] (Z8 24 (YD 24 [] [] [] (FP n s k (hnum:=hf.call)) (Zo 0 2 [25,26] (de (ac (UU n s.op s.num k) Iff.rfl (fun Zh=>?_) (fun Zh=>?_))))))
    ·exact ar (Zk (r1 [] ⟨true,rfl,rfl⟩))
    exact ak (az (Z0 1 (ZC k (Z1 (ZE ⟨k+1,ob,rfl,rfl,rfl⟩ (wk [0,0] (ZI k fl)))))))
   exact Zo 0 10 [17,18,19,20,21,22,23,24,25,26] (de (VP (ak (az (Z0 1 (ZC k (Z1 (ZE ⟨k+1,ob,rfl,rfl,rfl⟩ (wk [0,0] (ZI k fl))))))))))
  exact Zo 0 23 [4,5,6,7,8,9,10,11,12,13,14,15,16,17,18,19,20,21,22,23,24,25,26] (de (VP (ak (az (Z0 1 (ZC k (Z1 (ZE ⟨k+1,ob,rfl,rfl,rfl⟩ (wk [0,0] (ZI k fl))))))))))
 exact ax 0 (ar (Zk (r1 [] ⟨false,rfl,rfl⟩)))
theorem PA (n:ZF) (s:Z5) (i:Nat) (mm:Nat) (os:LI) (ls:LI) (hn:Xv n:=by exact ob) (hf:FS n.decls n.routines.length mm s:=by exact ob) (hi:i<s.args.length:=by exact ob) (ho:os.length<=100000000:=by exact ob) (hl:ls.length<=100000000:=by exact ob):Zm 340 [YC n,X3 s,.i i,Z4 os,Z4 ls] [] (fun r h=>∃(wr:Bool),r=.b wr/\h=[]):=by
 refine ZD 34 Tryz.func340 (ar (iA (X7 n) fun b1=>iA (W7 s) fun b2=>Z1 (Zq 4 [0] ?_)))
 obtain ⟨x1,Z3⟩:=Zt s.args i om
 refine Zp (Ze none (i:Int) 1 (Y7 Z3)) (Z0 1 (Zw [] (UK ls x1) (Z0 1 (ib (b:=(decide (x1∈ls))) 18 (fun Zb=>?_) (fun Zb=>?_)))))
 ·exact Zk (r1 [] ⟨true,rfl,rfl⟩)
 refine ZB 4 [0] (Zp (Ze none (i:Int) 1 (Y7 Z3)) (Z0 1 (Zw [] (UK os x1) (Z0 3 (ib (b:=(!(decide (x1∈os)))) 28 (fun Zy=>?_) (fun Zy=>?_))))))
 ·exact Zk (r1 [] ⟨true,rfl,rfl⟩)
 refine ZB 3 [1,0] (ic [] (Z9i n s i mm) ?_)
 rintro _ _ ⟨wr1,rfl,rfl⟩
 exact Zk (r1 [] ⟨wr1,rfl,rfl⟩)
theorem Z8v (n:ZF) (us:LI) (s:Z5) (os:LI) (ls:LI) (mm:Nat) (hn:Xv n:=by exact ob) (hf:FS n.decls n.routines.length mm s:=by exact ob) (hvl:us.length=mm:=by exact ob) (hm:mm<=100000000:=by exact ob) (ho:os.length<=100000000:=by exact ob) (hl:ls.length<=100000000:=by exact ob):Zm 317 [YC n,Z4 us,X3 s,Z4 os,Z4 ls] [] (fun r h=>∃(zs:LI),r=Z4 zs/\h=[]/\zs.length<=s.args.length/\∀z∈zs,z∈s.args):=by
 have hal:=hf.alen
 refine ZD 43 Tryz.func317 (ar (iA (X7 n) fun b1=>iA (W7 s) fun b2=>Z1 (ar (iL (Z6 []) 0 1 fun v1=>?_))))
 refine Z1 (Y5 (ab 0 (Y1 (fun fz gz m F h=>∃(k:Nat) (zs:LI) (u:Value),(k<=s.args.length)/\(zs.length<=k)/\(∀z∈zs,z∈s.args)/\F=sF [1,3,4,5,7] fz [(11,Y6 zs u),(12,.i k)]/\h=[Zi gz 1,Zi gz 2,.tail u 1]/\m=s.args.length-k) _ _ _ ⟨0,[],v1,ob,ob,(fun z hz=>by cases hz),rfl,rfl,rfl⟩ (wk [1,1,0] (fr (Ya fl))) ?_)))
 rintro m F h ⟨k,zs,u,Yi,Zd,Zz,rfl,rfl,rfl⟩
 refine Yq 3 [0] (iw (Y9 s.args) (Y3 ((k:Int)<(s.args.length:Int)) (fun Z9=>?_) (fun Z9=>?_)))
 ·obtain ⟨a1,ha1⟩:=Zt s.args k om
  have har:=hf.args a1 (Y4 ha1)
  refine ak (aq (ab 1 (Zq 4 [1,0] (Zw [] (HW n us s k a1 (hnum:=hf.call) (ha:=ha1)) (Z0 1 (ib (b:=Jx n us s.op s.num a1 k) 26 (fun Zb=>?_) (fun Zb=>?_)))))))
  ·refine ZB 5 [1,0] (ic [] (PA n s k mm os ls) ?_)
   rintro _ _ ⟨wr1,rfl,rfl⟩
   refine YS wr1 Iff.rfl (fun Zh=>?_) (fun Zh=>?_)
   ·exact az (ZB 4 [0] (Zp (Ze none (k:Int) 1 (Y7 ha1)) (Z0 1 (iL (Z6 [a1]) 1 1 fun v2=>Y0 0 [(40,Z4 [a1])] (ip 3 (Z6 (zs++[a1])) (Z6 zs) (Z6 [a1]) u none 1 (YG _) (YG _) (XT _) (by simp<;>omega) (by simp [XX,Z6]) fun v3=>Z1 (az (Z0 1 (ZC k (Z1 (ZE ⟨k+1,(zs++[a1]),v3,ob,ob,(by first|exact Zz|exact XC Zz (Y4 ha1)),rfl,rfl,rfl⟩ (wk [2,2,0] (fr (ZI k fl)))))))))))))
   exact ak (az (Z0 1 (ZC k (Z1 (ZE ⟨k+1,zs,u,ob,ob,(by first|exact Zz|exact XC Zz (Y4 ha1)),rfl,rfl,rfl⟩ (Zs 3 (fr (ZI k fl))))))))
  exact Z1 (VP (ak (az (Z0 1 (ZC k (Z1 (ZE ⟨k+1,zs,u,ob,ob,(by first|exact Zz|exact XC Zz (Y4 ha1)),rfl,rfl,rfl⟩ (Zs 3 (fr (ZI k fl))))))))))
 exact ax 0 (ar (Zk (r2 [] [Y6 zs u] ⟨zs,rfl,rfl,⟨by omega,Zz⟩⟩ (Zl.forget _ _))))
theorem Z9b (n:ZF) (us:LI) (s:Z5) (os:LI) (ls:LI) (mm:Nat) (hn:Xv n:=by exact ob) (hf:FS n.decls n.routines.length mm s:=by exact ob) (hvl:us.length=mm:=by exact ob) (hm:mm<=100000000:=by exact ob) (ho:os.length<=100000000:=by exact ob) (hl:ls.length<=100000000:=by exact ob):Zm 319 [YC n,Z4 us,X3 s,Z4 os,Z4 ls] [] (fun r h=>∃(zs:LI) (v:Value),r=Y6 zs v/\h=[.tail v 1]/\zs.length<=os.length/\∀z∈zs,z∈os):=by
 have hal:=hf.alen
 refine ZD 55 Tryz.func319 (ar (iA (X7 n) fun b1=>iA (W7 s) fun b2=>Z1 (Yq 4 [0] (ib (b:=(s.op==7)) 16 (fun Zb=>?_) (fun Zb=>?_)))))
 ·refine Z1 (Vq (ZX 2 (ic [] (Pv os ls) ?_)))
  rintro _ _ ⟨zs1,v1,rfl,rfl,Yg⟩
  have hco:=Yg
  exact Zk (r1 [0] ⟨zs1,v1,rfl,rfl,(by first|exact hco|exact ⟨by omega,Zz⟩)⟩)
 refine Vb [0] (ac (s.op==8) Zg (fun Z9=>?_) (fun Z9=>?_))
 ·refine ZX 2 (ic [] (Pv os ls) ?_)
  rintro _ _ ⟨zs2,v2,rfl,rfl,YQ⟩
  have hco:=YQ
  exact Zk (r1 [0] ⟨zs2,v2,rfl,rfl,(by first|exact hco|exact ⟨by omega,Zz⟩)⟩)
 refine ak (ZX 1 (ic [] (Vf os) ?_))
 rintro _ _ ⟨v3,rfl,rfl⟩
 refine Z1 (Y5 (ab 0 (Y1 (fun fz gz m F h=>∃(k:Nat) (zs:LI) (u:Value),(k<=s.args.length)/\(zs.length<=os.length)/\(∀z∈zs,z∈os)/\F=sF [1,3,4,5,7] fz [(11,Y6 zs u),(12,.i k)]/\h=[Zi gz 1,Zi gz 2,.tail u 1]/\m=s.args.length-k) _ _ _ ⟨0,os,v3,ob,ob,(fun z hz=>hz),rfl,rfl,rfl⟩ (wk [1,1,0] (fr (Ya fl))) ?_)))
 rintro m F h ⟨k,zs,u,Yi,Zd,Zz,rfl,rfl,rfl⟩
 refine Yq 3 [0] (iw (Y9 s.args) (Y3 ((k:Int)<(s.args.length:Int)) (fun Zh=>?_) (fun Zh=>?_)))
 ·obtain ⟨a1,ha1⟩:=Zt s.args k om
  have har:=hf.args a1 (Y4 ha1)
  refine ak (aq (ab 1 (Zq 4 [1,0] (Zw [] (HW n us s k a1 (hnum:=hf.call) (ha:=ha1)) (Z0 1 (ib (b:=Jx n us s.op s.num a1 k) 38 (fun Zy=>?_) (fun Zy=>?_)))))))
  ·refine ZB 5 [1,0] (ic [] (PA n s k mm os ls) ?_)
   rintro _ _ ⟨wr1,rfl,rfl⟩
   refine YS (!wr1) (p:=¬(wr1=true)) (Y8 Iff.rfl) (fun ZA=>?_) (fun ZA=>?_)
   ·refine az (ZB 4 [0] (Zp (Ze none (k:Int) 1 (Y7 ha1)) (Y0 1 [(47,Z4 zs)] (ic [] (PI zs a1) ?_))))
    rintro _ _ ⟨v4,rfl,rfl⟩
    exact Z1 (az (Z0 1 (ZC k (Z1 (ZE ⟨k+1,(Q7 zs a1),v4,ob,(by first|exact Zd|exact V7 (Ff _ _) Zd),(by first|exact Zz|exact (fun z hz=>Zz z (E1 hz))),rfl,rfl,rfl⟩ (wk [1,1,0] (fr (ZI k fl))))))))
   exact ak (az (Z0 1 (ZC k (Z1 (ZE ⟨k+1,zs,u,ob,(by first|exact Zd|exact V7 (Ff _ _) Zd),(by first|exact Zz|exact (fun z hz=>Zz z (E1 hz))),rfl,rfl,rfl⟩ (Zs 3 (fr (ZI k fl))))))))
  exact Z1 (VP (ak (az (Z0 1 (ZC k (Z1 (ZE ⟨k+1,zs,u,ob,(by first|exact Zd|exact V7 (Ff _ _) Zd),(by first|exact Zz|exact (fun z hz=>Zz z (E1 hz))),rfl,rfl,rfl⟩ (Zs 3 (fr (ZI k fl))))))))))
 exact ax 0 (ar (Zk (r1 [2] ⟨zs,u,rfl,rfl,(by first|exact hco|exact ⟨by omega,Zz⟩)⟩)))
theorem Z9c (n:ZF) (s:Z5) (os:LI) (ls:LI) (mm:Nat) (hn:Xv n:=by exact ob) (hf:FS n.decls n.routines.length mm s:=by exact ob) (ho:os.length<=100000000:=by exact ob) (hl:ls.length<=100000000:=by exact ob):Zm 320 [YC n,X3 s,Z4 os,Z4 ls] [] (fun r h=>∃(zs:LI),r=Z4 zs/\h=[]/\zs.length<=s.args.length/\∀z∈zs,z∈s.args):=by
 have hal:=hf.alen
 refine ZD 50 Tryz.func320 (ar (iA (X7 n) fun b1=>iA (W7 s) fun b2=>Z1 (ar (iL (Z6 []) 0 1 fun v1=>?_))))
 refine Z1 (Y5 (ab 0 (Y1 (fun fz gz m F h=>∃(k:Nat) (zs:LI) (u:Value),(k<=s.args.length)/\(zs.length<=k)/\(∀z∈zs,z∈s.args)/\F=sF [2,3,4,5] fz [(9,Y6 zs u),(10,.i k)]/\h=[Zi gz 1,Zi gz 2,.tail u 1]/\m=s.args.length-k) _ _ _ ⟨0,[],v1,ob,ob,(fun z hz=>by cases hz),rfl,rfl,rfl⟩ (wk [1,1,0] (fr (Ya fl))) ?_)))
 rintro m F h ⟨k,zs,u,Yi,Zd,Zz,rfl,rfl,rfl⟩
 refine Yq 3 [0] (iw (Y9 s.args) (Y3 ((k:Int)<(s.args.length:Int)) (fun Z9=>?_) (fun Z9=>?_)))
 ·obtain ⟨a1,ha1⟩:=Zt s.args k om
  have har:=hf.args a1 (Y4 ha1)
  refine ak (aq (ab 1 (Zq 3 [1,0] (Zw [] (FP n s k (hnum:=hf.call)) (YW 13 [2,3,4,5,9,10] [(31,.b (UU n s.op s.num k&&(decide (a1∈os))))] (fun gz=>gz) ?_ (fun hj1=>?_))))))
  ·refine Xi [2,3,4,5,9,10] [(41,.b ((UU n s.op s.num k&&(decide (a1∈os)))&&(!(decide (a1∈ls)))))] (fun gz=>gz) ?_ ?_
   ·refine Z0 1 (ib (b:=(UU n s.op s.num k&&(decide (a1∈os)))) 32 (fun Zb=>?_) (fun Zb=>?_))
    ·exact ZB 4 [0] (Zp (Ze none (k:Int) 1 (Y7 ha1)) (Z0 1 (Zw [] (UK ls a1) (Z1 (Zs 3 (Zj (!(decide (a1∈ls))) Zb fl))))))
    exact Z1 (Zs 3 (Zj false Zb fl))
   refine ac ((UU n s.op s.num k&&(decide (a1∈os)))&&(!(decide (a1∈ls)))) (p:=((UU n s.op s.num k=true)/\(a1∈os))/\(¬(a1∈ls))) (Yo (Yo Iff.rfl dq) (Y8 dq)) (fun Zh=>?_) (fun Zh=>?_)
   ·refine az (ZB 4 [0] (Zp (Ze none (k:Int) 1 (Y7 ha1)) (Y0 1 [(42,Z4 zs)] (ic [] (EO zs a1) ?_))))
    rintro _ _ ⟨v2,rfl,rfl⟩
    exact Z1 (az (Z0 1 (ZC k (Z1 (ZE ⟨k+1,(Ub zs a1),v2,ob,(by first|omega|(have:=DQ zs a1;omega)),(by first|exact Zz|exact (fun z hz=>(EY.1 hz).elim (Zz z) (fun e=>e▸Y4 ha1))),rfl,rfl,rfl⟩ (wk [1,1,0] (fr (ZI k fl))))))))
   exact ak (az (Z0 1 (ZC k (Z1 (ZE ⟨k+1,zs,u,ob,(by first|omega|(have:=DQ zs a1;omega)),(by first|exact Zz|exact (fun z hz=>(EY.1 hz).elim (Zz z) (fun e=>e▸Y4 ha1))),rfl,rfl,rfl⟩ (Zs 3 (fr (ZI k fl))))))))
  refine Z0 1 (ib (b:=UU n s.op s.num k) 23 (fun Zy=>?_) (fun Zy=>?_))
  ·exact ZB 4 [0] (Zp (Ze none (k:Int) 1 (Y7 ha1)) (Z0 1 (Zw [] (UK os a1) (Z0 1 (ZZ (Zs 3 (Zj (decide (a1∈os)) Zy fl)) hj1)))))
  exact Z0 8 (ZZ (Zs 3 (Zj false Zy fl)) hj1)
 exact ax 0 (ar (Zk (r2 [] [Y6 zs u] ⟨zs,rfl,rfl,⟨by omega,Zz⟩⟩ (Zl.forget _ _))))
end Go.Abs
