/-
  A part of the proofs of several laws (see the last file): no condition.
-/
import Derived.Test.YtamhpednblociaaGreatYcC
set_option linter.all false
set_option linter.unusedVariables false
set_option linter.unusedSimpArgs false
set_option linter.unusedSectionVars false
set_option maxRecDepth 10000
set_option maxHeartbeats 4000000
namespace Go.Abs
open Go.Proofs
theorem ID (a:Nat) (n:Nat) (ha:a<=1000000:=by exact ob) (hn:n<=1000000:=by exact ob):Zo 109 [.i a,.i n] [] (fun r h=>∃(xs:LI),r=Z3 xs/\h=[]/\xs.length=n/\∀i∈xs,(a:Int)<=i/\i<(a:Int)+n):=by
 refine ZE 20 Tryz.func109 (Y1 (ar (iL (Z6 []) 0 1 fun v1=>?_)))
 refine Z1 (Y6 (ab 0 (Y5 (fun fz gz m F h=>∃(k:Nat) (ys:LI) (u:Value),(k<=n)/\(ys.length=k)/\(∀i∈ys,(a:Int)<=i/\i<(a:Int)+n)/\F=sF [0,1] fz [(5,ZG ys u),(6,.i k)]/\h=[.tail u 1]/\m=n-k) _ _ _ ⟨0,[],v1,ob,ob,(fun i hi=>by cases hi),rfl,rfl,rfl⟩ (wk [0] (fr (Ye fl))) ?_)))
 rintro m F h ⟨k,ys,u,Yl,Zj,ZD,rfl,rfl,rfl⟩
 refine Xa (Y0 ((k:Int)<(n:Int)) (fun Z9=>?_) (fun Z9=>?_))
 ·exact ak (aq (ab 1 (az (Z0 3 (ia (((a+k:Nat):Int)) (((a:Int))+((k:Int))) (iL (Z6 [((a+k:Nat):Int)]) 1 1 fun v2=>ZU 0 [(17,Z3 [((a+k:Nat):Int)])] (ip 1 (Z6 (ys++[((a+k:Nat):Int)])) (Z6 ys) (Z6 [((a+k:Nat):Int)]) u none 1 (YE _) (YE _) (W2 _) (by simp<;>omega) (by simp [W6,Z6]) fun v3=>Z1 (az (Z0 1 (ZK k (Z1 (ZM ⟨k+1,(ys++[((a+k:Nat):Int)]),v3,ob,ob,(XD ZD om),rfl,rfl,rfl⟩ (wk [0] (fr (ZW k fl)))))))))))))))
 exact ax 0 (ar (Zm (r2 [] [ZG ys u] ⟨ys,rfl,rfl,⟨by omega,ZD⟩⟩ (Zc.forget _ _))))
theorem Oa (l:Nat) (xs:List Z5) (w:Value) (q:Nat) (s:Z5) (hl:xs.length<=4000000000:=by exact ob) (hq:q<=1000000:=by exact ob):Zo 239 [.p l 0,X4 s] [.obj l [Xh xs w,.i q],.tail w 5] (fun r h=>∃(w2:Value),r=.i q/\h=[.obj l [Xh (xs++[s]) w2,.i (((q+1):Nat):Int)],.tail w2 5]):=by
 exact ZE 28 Tryz.func239 (ar (iA (Wb s) fun b1=>Z1 (aD 11 (ZY 5 11 [0,1,2,3,4,5] [1,0] (Z8 6 (Wz 6 [1] [l] [X4 s] (ZT [s]) (VV [s]).symm 1 5 fun v1=>Yv 4 4 [] [(11,Vj [s])] (Z8 7 (dp 7 3 [] [] (ZT (xs++[s])) (ZT xs) (ZT [s]) w none 5 (XE _) (XE _) (Ua _) (by simp<;>omega) (by simp [Vo,ZT]) fun v2=>Zs 1 3 [8,9] (Z8 10 (YT 10 3 [] [] l [Xh (xs++[s]) v2,.i q] (de (Zp 5 [0] (ZK q (Z0 2 (Zz 0 l [Xh (xs++[s]) v2,.i (q+1:Nat)] (ie (Zp 4 [0] (ia ((((q+1:Nat):Int)-1)) ((((q+1:Nat):Int))-(1)) (Zm (r2 [0,0] [.i (((q+1:Nat):Int)-1)] ⟨v2,rfl,rfl⟩ li))))))))))))))))))))
theorem Ok (g:W4) (e:Z2) (us:LI) (q:Nat) (bb:Nat) (he:eW g.decls g.funcs.length us.length e:=by exact ob) (hu:∀a∈us,0<=a/\a<(q:Int)) (hul:us.length+4*e.sz<=100000:=by exact ob) (hql:q+6*e.sz<=100000:=by exact ob) (hb:e.sz<bb:=by exact ob) (ih:∀(l:Nat) (e2:Z2) (us2:LI) (xs2:List Z5) (w2:Value) (q2:Nat),(eW g.decls g.funcs.length us2.length e2)->(∀a∈us2,0<=a/\a<(q2:Int))->(us2.length+4*e2.sz<=100000)->(xs2.length+6*e2.sz<=100000)->(q2+6*e2.sz<=100000)->(e2.sz<bb)->Zo 207 [.p l 0,Ap g,Y8 e2,Z3 us2] [.obj l [Xh xs2 w2,.i q2],.tail w2 5] (fun r h=>∃(ys:List Z5) (v:Int) (w2:Value),r=.i v/\h=[.obj l [Xh (xs2++ys) w2,.i (((q2+Yt ys):Nat):Int)],.tail w2 5]/\LW g.decls g.funcs.length q2 e2 ys v)):Zo 179 [Ap g,Y8 e,Z3 us,.i q] [] (fun r h=>∃(b:Z7),r=Yn b/\h=[]/\LB g.decls g.funcs.length q e b):=by
 refine ZE 26 Tryz.func179 (ar (iA (La g) fun b1=>iA (YZ e) fun b2=>iA [nl,.i 0] fun b3=>ie (ar (iL (ZT []) 0 5 fun v1=>Z0 2 (iA [Xh [] v1,.i q] fun b4=>Z1 (Zp 4 [4,3] (ic [0,0] (ih b4 e us [] v1 q he hu ob ob ob ob) ?_)))))))
 rintro _ _ ⟨ys1,v2,w21,rfl,rfl,Y3⟩
 have hlw:=Y3
 exact Z1 (Zp 6 [0] (Zz 2 b3 [Xh ([]++ys1) w21,.i v2] (ie (at_ (r3 [] [.agg [Xh ([]++ys1) w21,.i v2]] [0] [(b3,b3)] ⟨(Z7.mk ([]++ys1) v2),rfl,rfl,(by rw [CK];exact hlw.block)⟩ (Zc.agg (.cons (Zc.forget _ _) (.cons (lr _) .nil))))))))
theorem Z73 (l:Nat) (g:W4) (e:Z2) (us:LI) (xs:List Z5) (w:Value) (q:Nat) (hd:GD g.decls) (he:eW g.decls g.funcs.length us.length e) (hu:∀a∈us,0<=a/\a<(q:Int)) (hul:us.length+4*e.sz<=100000) (hxl:xs.length+6*e.sz<=100000) (hql:q+6*e.sz<=100000) (ih:∀(l:Nat) (e2:Z2) (us2:LI) (xs2:List Z5) (w2:Value) (q2:Nat),(eW g.decls g.funcs.length us2.length e2)->(∀a∈us2,0<=a/\a<(q2:Int))->(us2.length+4*e2.sz<=100000)->(xs2.length+6*e2.sz<=100000)->(q2+6*e2.sz<=100000)->(e2.sz<e.sz)->Zo 207 [.p l 0,Ap g,Y8 e2,Z3 us2] [.obj l [Xh xs2 w2,.i q2],.tail w2 5] (fun r h=>∃(ys:List Z5) (v:Int) (w2:Value),r=.i v/\h=[.obj l [Xh (xs2++ys) w2,.i (((q2+Yt ys):Nat):Int)],.tail w2 5]/\LW g.decls g.funcs.length q2 e2 ys v)):Zo 207 [.p l 0,Ap g,Y8 e,Z3 us] [.obj l [Xh xs w,.i q],.tail w 5] (fun r h=>∃(ys:List Z5) (v:Int) (w2:Value),r=.i v/\h=[.obj l [Xh (xs++ys) w2,.i (((q+Yt ys):Nat):Int)],.tail w2 5]/\LW g.decls g.funcs.length q e ys v):=by
 have Xo:=hd.ok
 obtain ⟨ho,h12,h13,h7,h8,h9,hnum,hkl,hks⟩:=(Z44 e).1 he
 have hez:=e.sz_eq
 refine ZE 148 Tryz.func207 (ar (iA (La g) fun b1=>iA (YZ e) fun b2=>Z1 (Xa (WI [0] (ab 0 (ar (Yz (e.op==12) Zb (fun Z9=>?_) (fun Z9=>?_))))))))
 ·refine Zp 3 [0] ?_
  obtain ⟨x1,Z4⟩:=Zv us e.num.toNat (by have:=h12 om;omega)
  have huv:=hu _ (Y4 Z4)
  exact Zq (Zk none e.num 1 (Y7 Z4)) (Zm (r1 [2,2] ⟨[],x1,w,rfl,rfl,(LW.var huv)⟩ (eq:=(ro (ls:=[Xh xs w,.i q]) (by simp [Yt]) (rc rz)))))
 refine ar (Yz (e.op==13) Zb (fun Zh=>?_) (fun Zh=>?_))
 ·refine aD 9 (ZY 5 9 [0,1,2,3] [1,0] ?_)
  obtain ⟨x2,Zy⟩:=Zv e.kids 0 (by have:=h13 om;omega)
  have hekx2:=D8 hks Zy
  have hszx2:=Cf Zy
  have htzx2:=Bi Zy
  rw [Wk] at hekx2
  rw [S0 om] at hekx2
  refine dx 4 (Zk none 0 3 (D0 Zy)) (Zs 2 4 [5,6] (Z8 7 (dc 7 [2,2] [] [] (ih l x2 us xs w q (by first|assumption|(rw [Ys];assumption)) (by first|assumption|exact F5 hu hlwhp1.v|exact Hk hu) (by first|omega|(simp only [Ys,Yx,X7];omega)) (by first|omega|(simp only [Ys,Yx,X7];omega)) ob ob) ?_)))
  rintro _ _ ⟨ys1,v1,w21,rfl,rfl,Y3⟩
  have hlwhp1:=Y3
  have hldhp1:=Y3.dn
  refine Zs 0 1 [8] (de (aD 12 (ZY 8 12 [0,1,2,3] [3,2] ?_)))
  obtain ⟨x3,YX⟩:=Zv e.kids 1 (by have:=h13 om;omega)
  have hz2:=NC Zy YX
  have hz3:=x2.sz_eq
  have hekx3:=D8 hks YX
  have hszx3:=Cf YX
  have htzx3:=Bi YX
  rw [Wk] at hekx3
  rw [S0 om] at hekx3
  refine dx 4 (Zk none 1 3 (D0 YX)) (Zs 4 7 [5,6,7] (Z8 8 (dL 8 [1,2] [b2,b1] (Z6 [v1]) 1 1 fun v2=>Yv 3 3 [] [(45,Z3 [v1])] (Z8 9 (dc 9 [] [1,2] [b2,b1] (Tt us [v1]) ?_)))))
  rintro _ _ ⟨v3,rfl,rfl⟩
  refine Yv 2 2 [] [(46,Z3 (us++[v1]))] (Z8 10 (dc 10 [2,2] [] [] (ih l x3 (us++[v1]) (xs++ys1) w21 (q+Yt ys1) (by first|assumption|(rw [Ys];assumption)) (by first|assumption|exact F5 hu hlwhp1.v|exact Hk hu) (by first|omega|(simp only [Ys,Yx,X7];omega)) (by first|omega|(simp only [Ys,Yx,X7];omega)) ob ob) ?_))
  rintro _ _ ⟨ys2,v4,w22,rfl,rfl,Yq⟩
  have hlwhp2:=Yq
  have hldhp2:=Yq.dn
  exact Zs 0 1 [11] (de (at_ (r1 [0,0] ⟨(ys1++ys2),v4,w22,rfl,rfl,(LW.let_ hlwhp1 hlwhp2 (by have:=NC Zy YX;omega))⟩ (eq:=(ro (ls:=[Xh ((xs++ys1)++ys2) w22,.i ((((q+Yt ys1)+Yt ys2):Nat):Int)]) (by rw [UX,<-Aj,VP]) (rc rz))))))
 refine Y6 (Xu (fun fz gz F h=>F=sF [0,3,5,6] fz [(48,.b ((e.op==7)||(e.op==8)))]/\h=gz) ?_ ?_)
 ·refine ac (e.op==7) Zb (fun ZC=>?_) (fun ZC=>?_)
  ·exact ak (ZH ⟨rfl,rfl⟩ (Zw 4 (fc (x:=.b (e.op==7)) (lb (by first|rfl|(rw [Zl ZC])|(rw [Zd ZC])|(simp [ZC];done)|(rw [Yb];simp [ZC];done)|omega)) fl)))
  exact Vq (ZH ⟨rfl,rfl⟩ (Zw 4 (fc (x:=.b (e.op==8)) (lb (by first|rfl|(rw [Zl ZC])|(rw [Zd ZC])|(simp [ZC];done)|(rw [Yb];simp [ZC];done)|omega)) fl)))
 rintro F h ⟨rfl,rfl⟩
 refine ac ((e.op==7)||(e.op==8)) (p:=(e.op=7)∨(e.op=8)) (ZB Zb Zb) (fun Yh=>?_) (fun Yh=>?_)
 ·refine aD 9 (ZY 5 9 [0,1,2,3] [1,0] ?_)
  obtain ⟨x4,Uz⟩:=Zv e.kids 0 om
  have hekx4:=D8 hks Uz
  have hszx4:=Cf Uz
  have htzx4:=Bi Uz
  rw [Wk] at hekx4
  rw [Zd4 om] at hekx4
  refine dx 4 (Zk none 0 3 (D0 Uz)) (Zs 2 4 [5,6] (Z8 7 (dc 7 [2,2] [] [] (ih l x4 us xs w q (by first|assumption|(rw [Ys];assumption)) (by first|assumption|exact F5 hu hlwhp1.v|exact Hk hu) (by first|omega|(simp only [Ys,Yx,X7];omega)) (by first|omega|(simp only [Ys,Yx,X7];omega)) ob ob) ?_)))
  rintro _ _ ⟨ys3,v5,w23,rfl,rfl,YR⟩
  have hlwhp3:=YR
  have hldhp3:=YR.dn
  refine Zs 0 1 [8] (de (ar (iL (XP []) 0 2 fun v6=>Z1 (Zp 4 [4,3] (ic [] (KR g.decls e.num) ?_)))))
  rintro _ _ ⟨v7,rfl,rfl⟩
  refine Z1 (Y6 (ab 1 (Y5 (fun fz gz m F h=>∃(k:Nat) (cs:List Z7) (u:Value),(1<=k/\k<=e.kids.length)/\(cs.length+1=k)/\(VW g.decls g.funcs.length (WQ g.decls e.op e.num (q+Yt ys3)) 0 cs)/\(YW cs+6*x4.sz<=cs.length+6*Xz (e.kids.take k))/\(QO WJ cs)/\F=sF [0,3,5,6,10] fz [(11,Q9 cs u),(12,Z3 (ZX g.decls e.num)),(13,.i k)]/\h=[Zi gz 2,Zi gz 4,Zi gz 5,.tail u 2,Zi gz 3]/\m=e.kids.length-k) _ _ _ ⟨1,[],v6,ob,ob,True.intro,(by have h:Xz (e.kids.take 1)=Xz (e.kids.take 0)+x4.sz:=Bi Uz;simp only [YW,X7];omega),True.intro,rfl,rfl,rfl⟩ (wk [2,3,3,1,1] (fr (fc (x:=ZG (ZX g.decls e.num) v7) (Zc.forget _ _) (fc (x:=.i 1) li fl)))) ?_)))
  rintro m F h ⟨k,cs,u,Yl,Zj,ZD,YL,Wg,rfl,rfl,rfl⟩
  refine Yr 3 [1] (iw (Ib e.kids) (Y0 ((k:Int)<(e.kids.length:Int)) (fun YJ=>?_) (fun YJ=>?_)))
  ·refine ak (aq (ab 2 (Y1 (Xa (WI [1] (Xu (fun fz gz F h=>∃(mf:Nat),(WQ g.decls e.op e.num (q+Yt ys3) cs.length=(q+Yt ys3)+mf)/\(mf<=3)/\(TS g.decls e.op e.num us.length k=us.length+mf)/\F=sF [0,3,5,6,10,11,12,13] fz [(14,.i mf)]/\h=gz) ?_ ?_))))))
   ·refine ac (e.op==8) Zb (fun X2=>?_) (fun X2=>?_)
    ·refine aE 10 (ZY 6 10 [0,1,2,3] [2] (da 4 (((k-1:Nat):Int)) (((k:Int))-(1)) ?_))
     obtain ⟨x5,Tn⟩:=Zv (ZX g.decls e.num) (k-1) (by have:=h8 om;omega)
     exact dx 5 (Zk none ((k-1:Nat):Int) 1 (Y7 Tn)) (Zs 3 4 [6] (Z8 7 (YF 7 [] [] [] (Qa g.decls x5) (dn 8 (.i (((ZQ g.decls x5).length:Nat):Int)) (.i (((Z6 (ZQ g.decls x5)).length:Nat):Int)) (li (by rw [Yc])) (Zs 0 1 [9] (de (ZH ⟨(ZQ g.decls x5).length,(LR om (by rw [show cs.length=k-1 by omega];exact Tn)),(by have:=Ve Xo x5;omega),(Zd5 om (show k=(k-1)+1 by omega) Tn),rfl,rfl⟩ (Zw 5 (fc (x:=.i (((ZQ g.decls x5).length:Nat):Int)) (li (by first|rfl|(rw [Zl X2])|(rw [Zd X2])|(simp [X2];done)|(rw [Yb];simp [X2];done)|omega)) fl)))))))))
    exact ak (ZH ⟨0,(LS om),om,(S1 om),rfl,rfl⟩ (Zw 5 (fc (x:=.i 0) (li (by first|rfl|(rw [Zl X2])|(rw [Zd X2])|(simp [X2];done)|(rw [Yb];simp [X2];done)|omega)) fl)))
   rintro F h ⟨mf,Z99,Zh2,Z9a,rfl,rfl⟩
   refine aE 25 (ZY 20 25 [0,1,2,3,4] [2,1] ?_)
   obtain ⟨x6,Co⟩:=Zv e.kids k om
   have hekx6:=D8 hks Co
   have hszx6:=Cf Co
   have htzx6:=Bi Co
   rw [Wk] at hekx6
   rw [Z9a] at hekx6
   have htk:=AC (xs:=e.kids) (k+1)
   have hbl:=Fs cs
   refine dx 5 (Zk none (k:Int) 3 (D0 Co)) (ZY 7 19 [6,7,8,9,10,11,12,15,16,17,18,19] [0,0] (da 20 ((((q+Yt ys3)+mf:Nat):Int)) (((((q+Yt ys3):Nat):Int))+((mf:Int))) (Z8 13 (dc 13 [] [0,1,2] [l,b2,b1] (ID (q+Yt ys3) mf) ?_))))
   rintro _ _ ⟨xs1,rfl,rfl,X1⟩
   have hnx:=X1
   refine Z8 14 (dc 14 [] [0,1,2] [l,b2,b1] (Tt us xs1) ?_)
   rintro _ _ ⟨v8,rfl,rfl⟩
   refine Yv 4 4 [] [(98,Z3 (us++xs1))] (Z8 21 (dc 21 [] [] [] (Ok g x6 (us++xs1) ((q+Yt ys3)+mf) e.sz (he:=(by rw [Ys,hnx.1];exact hekx6)) (hu:=(Zg3 hu hnx.2)) (hul:=(by rw [Ys,hnx.1];omega)) (hql:=om) (ih:=ih)) ?_))
   rintro _ _ ⟨b3,rfl,rfl,Xe⟩
   have hlb:=Xe
   exact Z8 22 (Wz 22 [] [] [Yn b3] (XP [b3]) (QC [b3]).symm 1 2 fun v9=>Yv 2 2 [] [(106,Js [b3])] (Z8 23 (dp 23 5 [] [] (XP (cs++[b3])) (XP cs) (XP [b3]) u none 2 (Kx _) (Kx _) (FE _) (by simp<;>omega) (by simp [C8,XP]) fun v10=>Zs 0 1 [24] (de (az (Z0 1 (ZK k (Z1 (ZM ⟨k+1,(cs++[b3]),v10,ob,ob,(NF ZD (by rw [Z99];exact hlb.1)),(by have:=hlb.2;rw [Fq,Ys];simp only [YW,Yx,X7];omega),(PD Wg hlb.op),rfl,rfl,rfl⟩ (wk [3,3,3,0,2] (fw (ZW k fl))))))))))))
  refine ax 1 (Zp 6 [1,1] (iL (Z6 [v5]) 1 1 fun v11=>ZU 2 [(116,.agg [.i e.op,.i e.num,.i 0,Z3 [v5],Js cs])] (ic [1,4] (Oa l (xs++ys3) w23 (q+Yt ys3) (Z5.mk e.op e.num 0 [v5] cs) (hl:=(by first|(have h1:=KU zs;have h2:=AC (xs:=e.kids) k;have h3:=Ax zs;(try simp only [Ys]);omega)|((try simp only [Ys]);omega))) (hq:=(by first|(have h1:=KU zs;have h2:=AC (xs:=e.kids) k;have h3:=Ax zs;(try simp only [Ys]);omega)|((try simp only [Ys]);omega)))) ?_)))
  rintro _ _ ⟨w24,rfl,rfl⟩
  refine Z1 ?_
  have hcb:YN e.op=false:=by simp [YN];omega
  exact at_ (r1 [0,0] ⟨(ys3++[Z5.mk e.op e.num 0 [v5] cs]),(((q+Yt ys3):Nat):Int),w24,rfl,rfl,(LW.branch (s0:=x4.sz) (sr:=Xz (e.kids.take k)-x4.sz) om (fun h=>by have:=h7 h;omega) (fun h=>by have:=h8 h;omega) hnum hlwhp3.fs hlwhp3.v ZD om hlwhp3.sz (by have:=Fs cs;omega) (by have:=AC (xs:=e.kids) k;omega) hlwhp3.op Wg)⟩ (eq:=(ro (ls:=[Xh ((xs++ys3)++[(Z5.mk e.op e.num 0 [v5] cs)]) w24,.i ((((q+Yt ys3)+1):Nat):Int)]) (by rw [E6 (s:=Z5.mk e.op e.num 0 [v5] cs) hcb,<-Aj,VP]) (rc rz))))
 refine ak (ar (iL (Z6 []) 0 1 fun v12=>?_))
 refine Z1 (Y6 (ab 3 (Y5 (fun fz gz m F h=>∃(k:Nat) (asl:LI) (u:Value) (zs:List Z5) (w3:Value),(k<=e.kids.length)/\(asl.length=k)/\(W7 g.decls g.funcs.length q zs)/\(∀a∈asl,0<=a/\a<((q+Yt zs:Nat):Int))/\(Yu zs<=6*Xz (e.kids.take k))/\(TN WJ zs)/\F=sF [0,3,5,6] fz [(15,ZG asl u),(16,.i k)]/\h=[Zi gz 1,Zi gz 2,.obj l [Xh (xs++zs) w3,.i (((q+Yt zs):Nat):Int)],.tail u 1,.tail w3 5]/\m=e.kids.length-k) _ _ _ ⟨0,[],v12,[],w,ob,ob,True.intro,(fun a ha=>by cases ha),(by simp [Yu]),True.intro,rfl,rfl,rfl⟩ (wk [1,1,1,0,0] (fr (Ye fl)) (e:=(rc (rc (ro (ls:=[Xh xs w,.i q]) (by simp [Yt]) (rc (rc rz))))))) ?_)))
 rintro m F h ⟨k,asl,u,zs,w3,U8,Wf,W0,HS,Zgr,N0,rfl,rfl,rfl⟩
 refine Yr 3 [0] (iw (Ib e.kids) (Y0 ((k:Int)<(e.kids.length:Int)) (fun Wx=>?_) (fun Wx=>?_)))
 ·refine ak (aq (ab 4 (aD 10 (ZY 5 10 [0,1,2,3,4] [1,0] ?_))))
  obtain ⟨x7,G8⟩:=Zv e.kids k om
  have hzl:=KU zs
  have hzd:=Ax zs
  have htk:=AC (xs:=e.kids) (k+1)
  have hekx7:=D8 hks G8
  have hszx7:=Cf G8
  have htzx7:=Bi G8
  rw [Wk] at hekx7
  rw [S1 om] at hekx7
  refine dx 5 (Zk none (k:Int) 3 (D0 G8)) (Zs 2 4 [6,7] (Z8 8 (dc 8 [2,3] [] [] (ih l x7 us (xs++zs) w3 (q+Yt zs) (by first|assumption|(rw [Ys];assumption)) (by first|assumption|exact F5 hu hlwhp1.v|exact Hk hu) (by first|omega|(simp only [Ys,Yx,X7];omega)) (by first|omega|(simp only [Ys,Yx,X7];omega)) ob ob) ?_)))
  rintro _ _ ⟨ys4,v13,w25,rfl,rfl,XO⟩
  have hlwhp6:=XO
  have hldhp6:=XO.dn
  exact Zs 0 1 [9] (de (az (Z0 2 (iL (Z6 [v13]) 1 1 fun v14=>ZU 0 [(137,Z3 [v13])] (ip 5 (Z6 (asl++[v13])) (Z6 asl) (Z6 [v13]) u none 1 (YE _) (YE _) (W2 _) (by simp<;>omega) (by simp [W6,Z6]) fun v15=>Z1 (az (Z0 1 (ZK k (Z1 (ZM ⟨k+1,(asl++[v13]),v15,(zs++ys4),w25,ob,ob,(A0.2 ⟨W0,hlwhp6.fs⟩),(by rw [UX,<-Aj];exact F5 HS hlwhp6.v),(by have:=hlwhp6.sz;rw [TU];omega),(Gy.2 ⟨N0,hlwhp6.op⟩),rfl,rfl,rfl⟩ (wk [4,4,2,0,1] (fr (ZW k fl)) (e:=(rc (rc (ro (ls:=[Xh ((xs++zs)++ys4) w25,.i ((((q+Yt zs)+Yt ys4):Nat):Int)]) (by rw [UX,<-Aj,VP]) (rc (rc rz)))))))))))))))))
 refine ax 3 (Zp 6 [0,0] (iL (XP []) 0 2 fun v16=>ZU 1 [(146,.agg [.i e.op,.i e.num,.i 0,Z3 asl,Js []])] (ic [3,4] (Oa l (xs++zs) w3 (q+Yt zs) (Z5.mk e.op e.num 0 asl []) (hl:=(by first|(have h1:=KU zs;have h2:=AC (xs:=e.kids) k;have h3:=Ax zs;(try simp only [Ys]);omega)|((try simp only [Ys]);omega))) (hq:=(by first|(have h1:=KU zs;have h2:=AC (xs:=e.kids) k;have h3:=Ax zs;(try simp only [Ys]);omega)|((try simp only [Ys]);omega)))) ?_)))
 rintro _ _ ⟨w26,rfl,rfl⟩
 refine Z1 ?_
 have hcb:YN e.op=false:=by simp [YN];omega
 exact at_ (r1 [0,0] ⟨(zs++[Z5.mk e.op e.num 0 asl []]),(((q+Yt zs):Nat):Int),w26,rfl,rfl,(LW.node om h9 hnum W0 HS om (by have:=AC (xs:=e.kids) k;omega) N0)⟩ (eq:=(ro (ls:=[Xh ((xs++zs)++[(Z5.mk e.op e.num 0 asl [])]) w26,.i ((((q+Yt zs)+1):Nat):Int)]) (by rw [E6 (s:=Z5.mk e.op e.num 0 asl []) hcb,<-Aj,<-VP]) (rc rz))))
theorem Z72 (l:Nat) (g:W4) (e:Z2) (us:LI) (xs:List Z5) (w:Value) (q:Nat) (hd:GD g.decls) (he:eW g.decls g.funcs.length us.length e) (hu:∀a∈us,0<=a/\a<(q:Int)) (hul:us.length+4*e.sz<=100000) (hxl:xs.length+6*e.sz<=100000) (hql:q+6*e.sz<=100000):Zo 207 [.p l 0,Ap g,Y8 e,Z3 us] [.obj l [Xh xs w,.i q],.tail w 5] (fun r h=>∃(ys:List Z5) (v:Int) (w2:Value),r=.i v/\h=[.obj l [Xh (xs++ys) w2,.i (((q+Yt ys):Nat):Int)],.tail w2 5]/\LW g.decls g.funcs.length q e ys v):=by
 have key:∀k:Nat,∀(l:Nat) (e2:Z2) (us2:LI) (xs2:List Z5) (w2:Value) (q2:Nat),(eW g.decls g.funcs.length us2.length e2)->(∀a∈us2,0<=a/\a<(q2:Int))->(us2.length+4*e2.sz<=100000)->(xs2.length+6*e2.sz<=100000)->(q2+6*e2.sz<=100000)->(e2.sz<k)->Zo 207 [.p l 0,Ap g,Y8 e2,Z3 us2] [.obj l [Xh xs2 w2,.i q2],.tail w2 5] (fun r h=>∃(ys:List Z5) (v:Int) (w2:Value),r=.i v/\h=[.obj l [Xh (xs2++ys) w2,.i (((q2+Yt ys):Nat):Int)],.tail w2 5]/\LW g.decls g.funcs.length q2 e2 ys v):=by
  intro k
  induction k with
  | zero=>intro l e2 us2 xs2 w2 q2 h1 h2 h3 h4 h5 h6;omega
  | succ k ih=>intro l e2 us2 xs2 w2 q2 h1 h2 h3 h4 h5 h6;exact Z73 l g e2 us2 xs2 w2 q2 hd h1 h2 h3 h4 h5 fun l e3 us3 xs3 w3 q3 a1 a2 a3 a4 a5 a6=>ih l e3 us3 xs3 w3 q3 a1 a2 a3 a4 a5 om
 exact key (e.sz+1) l e us xs w q he hu hul hxl hql om
theorem IC (g:W4) (e:Z2) (us:LI) (q:Nat) (hd:GD g.decls:=by exact ob) (he:eW g.decls g.funcs.length us.length e:=by exact ob) (hu:∀a∈us,0<=a/\a<(q:Int)) (hul:us.length+4*e.sz<=100000:=by exact ob) (hql:q+6*e.sz<=100000:=by exact ob):Zo 179 [Ap g,Y8 e,Z3 us,.i q] [] (fun r h=>∃(b:Z7),r=Yn b/\h=[]/\LB g.decls g.funcs.length q e b):=(Ok g e us q (e.sz+1) he hu hul hql om (fun l e2 us2 xs2 w2 q2 h1 h2 h3 h4 h5 _=>Z72 l g e2 us2 xs2 w2 q2 hd h1 h2 h3 h4 h5))
theorem AW (ds:List Ze) (hd:Xy ds:=by exact ob):Zo 108 [Yd ds] [] (Ym (Yd ds)):=by
 have hdl:=hd.len
 refine ZE 55 Tryz.func108 (Y1 (ar (iL (YU []) 0 3 fun v1=>?_)))
 refine Z1 (Y6 (ab 0 (Y5 (fun fz gz m F h=>∃(k:Nat) (v:Value),(k<=ds.length)/\F=sF [0] fz [(3,Ke (ds.take k) v),(4,.i k)]/\h=[.tail v 3]/\m=ds.length-k) _ _ _ ⟨0,v1,ob,rfl,rfl,rfl⟩ (wk [0] (fc (x:=Ke [] v1) (Zc.slh _ (Yj YU rfl)) (Ye fl))) ?_)))
 rintro m F h ⟨k,v,Yl,rfl,rfl,rfl⟩
 refine YO 2 (iw (Us ds) (Y0 ((k:Int)<(ds.length:Int)) (fun Z9=>?_) (fun Z9=>?_)))
 ·obtain ⟨xd,hxd⟩:=Zv ds k om
  have hcl:=hd.cons_at hxd
  refine ak (aq (ab 1 (ar (iL (Wo []) 0 1 fun v2=>?_))))
  refine Z1 (Y6 (ab 2 (Y5 (fun fz gz m F h=>∃(j:Nat) (u:Value),(j<=xd.cons.length)/\F=sF [0,3,4] fz [(5,Dv (xd.cons.take j) u),(6,.i j)]/\h=[.tail u 1,Zi gz 1]/\m=xd.cons.length-j) _ _ _ ⟨0,v2,ob,rfl,rfl,rfl⟩ (wk [0,0] (fc (x:=Dv [] v2) (Zc.slh _ (Yj Wo rfl)) (Ye fl))) ?_)))
  rintro m F h ⟨j,u,U8,rfl,rfl,rfl⟩
  refine YO 3 (Zq (Zk none (k:Int) 3 (Vw hxd)) (Z0 2 (iw (UY xd.cons) (Y0 ((j:Int)<(xd.cons.length:Int)) (fun Zh=>?_) (fun Zh=>?_)))))
  ·refine ak (aq (ab 3 (az (Z0 3 (Zq (Zk none (k:Int) 3 (Vw hxd)) (Z0 3 ?_))))))
   obtain ⟨x1,Z4⟩:=Zv xd.cons j om
   have hfl:=hd.fields_at hxd Z4
   refine Zq (Zk none (j:Int) 1 (Ca Z4)) (Z0 2 (ic [] (WP x1.fields) ?_))
   rintro _ _ ⟨v3,rfl,rfl⟩
   exact ZU 1 [(36,CM x1)] (iL (Wo [x1]) 1 1 fun v4=>ZU 0 [(37,QM [x1])] (ip 2 (Wo (xd.cons.take (j+1))) (Wo (xd.cons.take j)) (Wo [x1]) u none 1 (E7 _) (E7 _) (Nl _) (by simp<;>omega) (by rw [V9 Z4];simp [Wo]) fun v5=>Z1 (az (Z0 1 (ZK j (Z1 (ZM ⟨j+1,v5,ob,rfl,rfl,rfl⟩ (wk [0,2] (fr (ZW j fl))))))))))
  exact ax 2 (aE 16 (Zs 13 16 [0,1,2] (dx 3 (Zk none (k:Int) 3 (Vw hxd)) (Zs 8 12 [4,5,6,7] (dx 8 (Zk none (k:Int) 3 (Vw hxd)) (Yv 3 7 [9,10,11,12] [(51,.agg [.i xd.frm,.i xd.to_,QM (xd.cons.take j)])] (Z8 13 (dL 13 [] [] (YU [Ze.mk xd.frm xd.to_ (xd.cons.take j)]) 1 3 fun v6=>Yv 2 2 [] [(52,Yd [Ze.mk xd.frm xd.to_ (xd.cons.take j)])] (Z8 14 (dp 14 2 [] [] (YU (ds.take (k+1))) (YU (ds.take k)) (YU [Ze.mk xd.frm xd.to_ (xd.cons.take j)]) v none 3 (K4 _) (K4 _) (E8 _) (by simp<;>omega) (by rw [V9 hxd];simp [YU,WT (show xd.cons.length<=j by omega)]) fun v7=>Zs 0 1 [15] (de (az (Z0 1 (ZK k (Z1 (ZM ⟨k+1,v7,ob,rfl,rfl,rfl⟩ (wk [0] (fr (ZW k fl)))))))))))))))))))
 exact ax 0 (ar (Zm (ZP (Ke (ds.take k) v) (Zc.sl _ (Yj YU (by rw [WT om]))))))
theorem Z7a (g:W4) (hg:Hy g:=by exact ob):Zo 165 [Ap g] [] (fun r h=>∃(n:ZF),r=YD n/\h=[]/\FO n 181 WJ):=by
 have hgl:=hg.gp.len
 have Xo:=hg.gp.decls.ok
 refine ZE 49 Tryz.func165 (ar (iA (La g) fun b1=>iA [nl,nl] fun b2=>ie (Zp 2 [1] (Zt [] (AW g.decls) (iL (X8 []) 0 5 fun v1=>Z0 1 (iA [nl,nl] fun b3=>?_))))))
 refine Zz 0 b3 [Yd g.decls,WL [] v1] (ie (Y6 (ab 0 (Y5 (fun fz gz m F h=>∃(k:Nat) (rs:List YA) (u:Value),(k<=g.funcs.length)/\(rs.length=k)/\(∀r∈rs,RN g.decls g.funcs.length r)/\F=sF [1,2,3] fz [(4,.i k)]/\h=[.obj b3 [Yd g.decls,WL rs u],Zi gz 2,Zi gz 3,.tail u 5]/\m=g.funcs.length-k) _ _ _ ⟨0,[],v1,ob,ob,(fun r hr=>by cases hr),rfl,rfl,rfl⟩ (wk [0,1,1,0] (Ye fl)) ?_))))
 rintro m F h ⟨k,rs,u,Yl,Zj,ZD,rfl,rfl,rfl⟩
 refine Yr 3 [2] (iw (D3 g.funcs) (Y0 ((k:Int)<(g.funcs.length:Int)) (fun Z9=>?_) (fun Z9=>?_)))
 ·refine ak (aq (ab 1 (Zp 3 [2] ?_)))
  obtain ⟨x1,Z4⟩:=Zv g.funcs k om
  have hso:=(hg.gp.sigs _ (Y4 Z4)).bd
  have hsi:=hg.gp.sigs _ (Y4 Z4)
  have hbo:=hg.body _ (Y4 Z4)
  refine Zq (Zk none (k:Int) 5 (FF Z4)) (Z0 1 (iA [nl,.i 0,.i 0,.i 0,nl] fun b4=>?_))
  refine Zz 0 b4 (Gh x1) (ie (Zp 2 [0] (iw (Yc x1.params) (Z1 (aD 9 (ZY 4 9 [0,1,2,3,5] [3,0] (Au (fun fz gz F h=>∃(b5:Z7) (b6:Nat) (xs1:LI),(xs1.length=x1.params.length/\∀i∈xs1,(0:Int)<=i/\i<(0:Int)+x1.params.length)/\(LB g.decls g.funcs.length x1.params.length x1.body b5)/\F=sF [1,2,3,4,5] fz [(7,.p b6 0)]/\h=[.obj b6 (XV b5),Zi gz 0,Zi gz 1,Zi gz 2,Zi gz 3,Zi gz 4]) ?_ ?_)))))))
  ·refine VK 4 7 ?_ ?_
   ·refine dc 4 [] [0,3] [b4,b1] (ID 0 x1.params.length) ?_
    rintro _ _ ⟨xs1,rfl,rfl,Y3⟩
    have hnx:=Y3
    refine VK 6 7 ?_ ?_
    ·refine dc 6 [] [] [] (IC g x1.body xs1 x1.params.length (hd:=hg.gp.decls) (he:=(by rw [hnx.1];exact hbo.1)) (hu:=(fun a ha=>by have:=hnx.2 a ha;omega))) ?_
     rintro _ _ ⟨b5,rfl,rfl,Yq⟩
     have hlb:=Yq
     exact Z8 7 (dA 7 [] [] [nl,.i 0] fun b6=>Z8 8 (YT 8 0 [] [] b6 (XV b5) (de (ZH ⟨_,b6,_,(by assumption),(by assumption),rfl,rfl⟩ (Zw 6 fl)))))
    refine dA 7 [0,3] [b4,b1] [nl,.i 0] fun b7=>Z8 6 (dc 6 [] [] [] (IC g x1.body xs1 x1.params.length (hd:=hg.gp.decls) (he:=(by rw [hnx.1];exact hbo.1)) (hu:=(fun a ha=>by have:=hnx.2 a ha;omega))) ?_)
    rintro _ _ ⟨b8,rfl,rfl,YR⟩
    have hlb:=YR
    exact Z8 8 (YT 8 0 [] [] b7 (XV b8) (de (ZH ⟨_,b7,_,(by assumption),(by assumption),rfl,rfl⟩ (Zw 6 fl))))
   refine dA 7 [0,3] [b4,b1] [nl,.i 0] fun b9=>Z8 4 (dc 4 [] [1,4] [b4,b1] (ID 0 x1.params.length) ?_)
   rintro _ _ ⟨xs2,rfl,rfl,X1⟩
   have hnx:=X1
   refine Z8 6 (dc 6 [] [] [] (IC g x1.body xs2 x1.params.length (hd:=hg.gp.decls) (he:=(by rw [hnx.1];exact hbo.1)) (hu:=(fun a ha=>by have:=hnx.2 a ha;omega))) ?_)
   rintro _ _ ⟨b10,rfl,rfl,Xe⟩
   have hlb:=Xe
   exact Z8 8 (YT 8 0 [] [] b9 (XV b10) (de (ZH ⟨_,b9,_,(by assumption),(by assumption),rfl,rfl⟩ (Zw 6 fl))))
  rintro F h ⟨b5,b6,xs1,Y3,Yq,rfl,rfl⟩
  have hnx:=Y3
  have hlb:=Yq
  refine aE 14 (ZY 7 14 [0,1,2,3,6,7,8] [2,1,1,0] (VK 4 5 ?_ ?_))
  ·refine dc 4 [] [0,1,2] [b6,b4,b3] (WP x1.params) ?_
   rintro _ _ ⟨v2,rfl,rfl⟩
   exact Z8 5 (dL 5 [0,1,2] [b6,b4,b3] (Z6 []) 0 1 fun v3=>Yv 4 5 [9] [(44,.agg [Z3 x1.params,Z3 [],.i x1.result,Vj b5.steps,.i b5.result])] (Z8 10 (dL 10 [2] [b3] (X8 [YA.mk x1.params [] x1.result (Z7.mk b5.steps b5.result)]) 1 5 fun v4=>Yv 3 3 [] [(45,Jt [YA.mk x1.params [] x1.result (Z7.mk b5.steps b5.result)])] (Z8 11 (dp 11 8 [] [] (X8 (rs++[YA.mk x1.params [] x1.result (Z7.mk b5.steps b5.result)])) (X8 rs) (X8 [YA.mk x1.params [] x1.result (Z7.mk b5.steps b5.result)]) u none 5 (T0 _) (T0 _) (Bh _) (by simp<;>omega) (by simp [D6,X8]) fun v5=>Zs 1 2 [12] (Z8 13 (YT 13 6 [] [] b3 [Yd g.decls,WL (rs++[YA.mk x1.params [] x1.result (Z7.mk b5.steps b5.result)]) v5] (de (az (Z0 1 (ZK k (Z1 (ZM ⟨k+1,(rs++[YA.mk x1.params [] x1.result (Z7.mk b5.steps b5.result)]),v5,ob,ob,(XD ZD (RN.of hsi hlb hbo.2)),rfl,rfl,rfl⟩ (wk [0,6,6,0] (ZW k fl)))))))))))))))
  refine dL 5 [0,1,1,2] [b6,b4,b4,b3] (Z6 []) 0 1 fun v6=>Z8 4 (dc 4 [] [0,1,2] [b6,b4,b3] (WP x1.params) ?_)
  rintro _ _ ⟨v7,rfl,rfl⟩
  exact Yv 4 5 [9] [(44,.agg [Z3 x1.params,Z3 [],.i x1.result,Vj b5.steps,.i b5.result])] (Z8 10 (dL 10 [2] [b3] (X8 [YA.mk x1.params [] x1.result (Z7.mk b5.steps b5.result)]) 1 5 fun v8=>Yv 3 3 [] [(45,Jt [YA.mk x1.params [] x1.result (Z7.mk b5.steps b5.result)])] (Z8 11 (dp 11 8 [] [] (X8 (rs++[YA.mk x1.params [] x1.result (Z7.mk b5.steps b5.result)])) (X8 rs) (X8 [YA.mk x1.params [] x1.result (Z7.mk b5.steps b5.result)]) u none 5 (T0 _) (T0 _) (Bh _) (by simp<;>omega) (by simp [D6,X8]) fun v9=>Zs 1 2 [12] (Z8 13 (YT 13 6 [] [] b3 [Yd g.decls,WL (rs++[YA.mk x1.params [] x1.result (Z7.mk b5.steps b5.result)]) v9] (de (az (Z0 1 (ZK k (Z1 (ZM ⟨k+1,(rs++[YA.mk x1.params [] x1.result (Z7.mk b5.steps b5.result)]),v9,ob,ob,(XD ZD (RN.of hsi hlb hbo.2)),rfl,rfl,rfl⟩ (wk [0,6,6,0] (ZW k fl))))))))))))))
 exact ax 0 (Zp 1 [0] (Zz 1 b2 [Yd g.decls,WL rs u] (ie (at_ (r3 [] [.agg [Yd g.decls,WL rs u]] [0] [(b2,b2)] ⟨(ZF.mk g.decls rs),rfl,rfl,(RN.all hg.gp.decls (by show 1<=rs.length/\rs.length<=4;omega) (by show ∀r∈rs,RN g.decls rs.length r;rw [show rs.length=g.funcs.length by omega];exact ZD) om)⟩ (Zc.agg (.cons (lr _) (.cons (Zc.forget _ _) .nil))))))))
theorem Zex (n:ZF) (hz:JF n:=by exact ob):Zo 171 [YD n] [] (Ym (.b (QW n))):=by
 have hzl:=hz.len
 refine ZE 35 Tryz.func171 (ar (iA (X6 n) fun b1=>Z1 (Yr 1 [0] (Zt [] (Zew n (hz:=hz.decls) (hr:=(fun r hr=>⟨hz.params r hr,hz.lent r hr⟩))) (Yz (!A6 n) (p:=¬(A6 n=true)) (Yg Iff.rfl) (fun Z9=>?_) (fun Z9=>?_))))))
 ·exact ar (Zm (ZP (.b false) (lb (by first|rfl|omega|grind [QW]))))
 have hok:=Pr hz (by simpa using Z9)
 refine ak (Y6 (ab 0 (Y5 (fun fz gz m F h=>∃(k:Nat),(k<=n.routines.length)/\(AU n (n.routines.drop k)=AU n n.routines)/\F=sF [1] fz [(3,.i k)]/\h=gz/\m=n.routines.length-k) _ _ _ ⟨0,ob,ob,rfl,rfl,rfl⟩ (wk [0] (Ye fl)) ?_)))
 rintro m F h ⟨k,Yl,Zj,rfl,rfl,rfl⟩
 refine Yr 3 [0] (iw (TJ n.routines) (Y0 ((k:Int)<(n.routines.length:Int)) (fun Zh=>?_) (fun Zh=>?_)))
 ·refine ak (aq (ab 1 (Zp 3 [0] ?_)))
  obtain ⟨x1,Z4⟩:=Zv n.routines k om
  have ZL:=hz.body _ (Y4 Z4)
  have hps:=hok.params_at Z4
  refine Zq (Zk none (k:Int) 5 (VD Z4)) (Z0 1 (iA [nl,nl,.i 0,nl,.i 0] fun b2=>Zz 0 b2 (Jo x1) (ie (aD 15 (ZY 13 15 [0,1] [0] (Z8 2 (YF 2 [] [] [] (Zen x1.body) (C3 [1,3] [(34,.b ((decide ((AZ x1.body)<0))||((W1 n x1.params x1.body) != x1.result)))] (fun gz=>gz) ?_ ?_))))))))
  ·refine Zs 10 12 [3,4] (db (b:=(decide ((AZ x1.body)<0))) 24 (fun Za=>?_) (fun Za=>?_))
   ·exact Zs 0 10 [5,6,7,8,9,10,11,12,13,14] (de (wk [0,0] (Zf true Za fl)))
   exact ZY 3 10 [5,6,7,8,9,11,12] [1,0,0,0] (Z8 10 (YF 10 [] [0] [b2] (Sl n x1.params x1.body ob ob) (Zs 0 2 [13,14] (de (wk [0,0] (Zf ((W1 n x1.params x1.body) != x1.result) Za fl))))))
  refine ac ((decide ((AZ x1.body)<0))||((W1 n x1.params x1.body) != x1.result)) (p:=((AZ x1.body)<0)∨((W1 n x1.params x1.body)≠x1.result)) (ZB dq Yi) (fun ZC=>?_) (fun ZC=>?_)
  ·refine Y1 ?_
   rw [Yo Z4] at Zj
   exact at_ (ZP (.b false) (lb (by clear Z4;first|rfl|omega|grind [AU,QW])))
  refine ak (az (Z0 1 (ZK k (Z1 ?_))))
  have hdr:=Yo Z4
  exact ZM ⟨k+1,ob,(by rw [hdr] at Zj;clear hdr Z4;grind [AU]),rfl,rfl,rfl⟩ (wk [1] (ZW k fl))
 refine ax 0 (Y1 ?_)
 try rw [Xt (xs:=n.routines) (k:=k) om] at Zj
 exact at_ (ZP (.b true) (lb (by first|rfl|omega|grind [AU,QW])))
theorem So (op:Int) :Zo 238 [.i op] [] (Ym (.b (YN op))):=by
 exact ZE 5 Tryz.func238 (Y1 (Ya 1 (Zt [] (V5 op 14 17) (Zm (ZP (.b (decide (14<=op/\op<=17))) (lb (by first|rfl|omega|grind [YN])))))))
theorem Sm (op:Int) :Zo 248 [.i op] [] (Ym (.b (JT op))):=by
 refine ZE 17 Tryz.func248 (Y1 (ar (YK 6 [0] [(8,.b ((op==6)||(op==9)))] (fun gz=>gz) ?_ (fun hj1=>?_))))
 ·refine YK 10 [0] [(12,.b (((op==6)||(op==9))||(op==10)))] (fun gz=>gz) ?_ (fun hj2=>?_)
  ·refine YK 14 [] [(16,.b ((((op==6)||(op==9))||(op==10))||(op==11)))] (fun gz=>gz) ?_ (fun hj3=>?_)
   ·exact Zm (ZP (.b ((((op==6)||(op==9))||(op==10))||(op==11))) (lb (by first|rfl|omega|grind [JT])))
   refine Z0 1 (ib (b:=(((op==6)||(op==9))||(op==10))) 13 (fun Za=>?_) (fun Za=>?_))
   ·exact Z0 3 (ZJ (wk [] (Zf true Za fl)) hj3)
   exact Z0 3 (ZJ (wk [] (Zf (op==11) Za fl)) hj3)
  refine Z0 1 (ib (b:=((op==6)||(op==9))) 9 (fun ZA=>?_) (fun ZA=>?_))
  ·exact Z0 3 (ZJ (wk [] (Zf true ZA fl)) hj2)
  exact Z0 3 (ZJ (wk [] (Zf (op==10) ZA fl)) hj2)
 refine Z0 3 (ib (b:=(op==6)) 5 (fun Yf=>?_) (fun Yf=>?_))
 ·exact Z0 3 (ZJ (wk [] (Zf true Yf fl)) hj1)
 exact Z0 3 (ZJ (wk [] (Zf (op==9) Yf fl)) hj1)
theorem EY (n:ZF) (s:Z5) (i:Nat) (hn:Xs n:=by exact ob) (hnum:s.op=9->0<=s.num/\s.num<n.routines.length:=by exact ob):Zo 236 [YD n,X4 s,.i i] [] (Ym (.b (UP n s.op s.num i))):=by
 refine ZE 21 Tryz.func236 (ar (iA (X6 n) fun b1=>iA (Wb s) fun b2=>Z1 (Zp 4 [0] (ib (b:=(s.op==9)) 10 (fun Za=>?_) (fun Za=>?_)))))
 ·have Y3:s.op=9:=(Zb).1 Za
  refine Zu 4 [1,0] ?_
  obtain ⟨x1,Z4⟩:=Zv n.routines s.num.toNat om
  have hlt:=hn.lent_at Z4
  have hlr:=Za5 (n:=n) Y3 Z4
  exact Zq (Zk none s.num 5 (VD Z4)) (Z0 3 (Zt [] (UE x1.lent (i:Int)) (Zm (ZP (.b (decide ((i:Int)∈x1.lent))) (lb (by rw [UP,hlr]))))))
 have Yq:¬(s.op=9):=ZV Zb Za
 exact Zm (ZP (.b false) (lb (by rw [UP,Dq,Zd Yq];simp)))
theorem H5 (n:ZF) (us:LI) (s:Z5) (i:Nat) (a:Int) (hn:Xs n:=by exact ob) (hnum:s.op=9->0<=s.num/\s.num<n.routines.length:=by exact ob) (ha:s.args[i]? = some a:=by exact ob) (hi:0<=a/\a<us.length:=by exact ob):Zo 231 [YD n,Z3 us,X4 s,.i i] [] (Ym (.b (J7 n us s.op s.num a i))):=by
 have hal:=(Xc.1 ha).1
 refine ZE 30 Tryz.func231 (ar (iA (X6 n) fun b1=>iA (Wb s) fun b2=>Z1 (Zp 2 [0] (Zt [] (Sm s.op) (Z0 1 (ib (b:=JT s.op) 12 (fun Za=>?_) (fun Za=>?_)))))))
 ·refine Zu 4 [0] ?_
  obtain ⟨x1,Z4⟩:=Zv s.args i om
  have hxa:x1=a:=by rw [ha] at Z4;exact (Ko Z4).symm
  subst hxa
  refine Zq (Zk none (i:Int) 1 (Y7 Z4)) (Z0 1 ?_)
  obtain ⟨x2,Zy⟩:=Zv us x1.toNat om
  have hga:=T5 Zy
  refine Zq (Zk none x1 1 (Y7 Zy)) (Z0 4 (ib (b:=(x2 != 0)) 23 (fun ZA=>?_) (fun ZA=>?_)))
  ·exact Zu 3 [1,0] (Zt [] (EY n s i) (Zm (ZP (.b (!UP n s.op s.num i)) (lb (by clear Z4 Zy;first|rfl|(rw [J7];grind))))))
  exact Zm (ZP (.b false) (lb (by clear Z4 Zy;first|rfl|(rw [J7];grind))))
 exact Zm (ZP (.b false) (lb (by  first|rfl|(rw [J7];grind))))
theorem St (xs:LI) (ys:LI) (hl_xs:xs.length<=4294967296:=by exact ob) (hl_ys:ys.length<=4294967296:=by exact ob):Zo 235 [Z3 xs,Z3 ys] [] (Ym (.b (decide (xs=ys)))):=by
 refine ZE 26 Tryz.func235 (Y1 (YO 1 (iw (Yc xs) (Z0 1 (iw (Yc ys) (Yz ((xs.length:Int) != (ys.length:Int)) Yi (fun Z9=>?_) (fun Z9=>?_)))))))
 ·exact ar (Zm (ZP (.b false) (lb (eq_comm.1 (decide_eq_false (fun q=>by rw [q] at Z9;exact Z9 rfl))))))
 refine ak (Y6 (ab 0 (Y5 (fun fz gz m F h=>∃(k:Nat),(k<=xs.length)/\(xs.take k=ys.take k)/\F=sF [0,1] fz [(5,.i k)]/\h=gz/\m=xs.length-k) _ _ _ ⟨0,ob,ob,rfl,rfl,rfl⟩ (wk [] (Ye fl)) ?_)))
 rintro m F h ⟨k,Yl,Zj,rfl,rfl,rfl⟩
 refine YO 2 (iw (Yc xs) (Y0 ((k:Int)<(xs.length:Int)) (fun Zh=>?_) (fun Zh=>?_)))
 ·refine ak (aq (ab 1 (aD 9 (Zs 7 9 [0,1] ?_))))
  obtain ⟨x1,Z4⟩:=Zv xs k om
  refine dx 2 (Zk none (k:Int) 1 (Y7 Z4)) (Zs 3 6 [3,4,5] ?_)
  obtain ⟨x2,Zy⟩:=Zv ys k om
  refine dx 6 (Zk none (k:Int) 1 (Y7 Zy)) (Zs 0 2 [7,8] (de (ac (x1 != x2) Yi (fun ZC=>?_) (fun ZC=>?_))))
  ·exact ar (Zm (ZP (.b false) (lb (eq_comm.1 (decide_eq_false (fun q=>by subst q;rw [Z4] at Zy;cases Zy;exact ZC rfl))))))
  refine ak (az (Z0 1 (ZK k (Z1 ?_))))
  have hdr:=Yo Z4
  exact ZM ⟨k+1,ob,(by rw [V9 Z4,V9 Zy,Zj];have hxx:x1=x2:=om;rw [hxx]),rfl,rfl,rfl⟩ (wk [] (ZW k fl))
 exact ax 0 (ar (Zm (ZP (.b true) (lb (eq_comm.1 (decide_eq_true (by rw [WT om,WT om] at Zj;exact Zj)))))))
theorem AX (xs:LI) (hlen:xs.length<=4294967296:=by exact ob):Zo 48 [Z3 xs] [] (fun r h=>∃(v:Hd),r=.h v/\h=[rV v xs]):=by
 exact ZE 6 Tryz.func48 (Y1 (ar (iVL [] 0 fun v1=>Z0 1 (AM 0 v1 [] xs none fun v2=>Zm (r1 [0] ⟨v2,rfl,rfl⟩ (eq:=(rv (xs:=([]++xs)) ob rz)))))))
theorem Ka (b:Nat) (ga:Hd) (gb:Hd) (gc:Hd) (gd:Hd) (ge:Hd) (gf:Hd) (L:ZO) (ln:LI) (t:Int) (o:Int) (p:Int) (hlb:L.vars.length<=1000000000:=by exact ob) (hlk:Tf L:=by exact ob):Zo 194 [.p b 0,.i t,.i o,.i p] [.obj b [.h ga,.h gb,.h gc,.h gd,.h ge,.h gf,Z3 ln],rV ga L.vars,rV gb L.own,rV gc L.par,rV gd L.con,rV ge L.fst,rV gf L.tok] (fun r h=>∃(wa:Hd) (wb:Hd) (wc:Hd) (wd:Hd) (we:Hd) (wf:Hd),h=[.obj b [.h wa,.h wb,.h wc,.h wd,.h we,.h wf,Z3 ln],rV wa ((L.grow t o p).vars),rV wb ((L.grow t o p).own),rV wc ((L.grow t o p).par),rV wd ((L.grow t o p).con),rV we ((L.grow t o p).fst),rV wf ((L.grow t o p).tok)]):=by
 obtain ⟨e1,e2,e3,e4,e5⟩:=hlk
 exact ZE 65 Tryz.func194 (Zp 6 [0] (iL (Z6 [t]) 1 1 fun v1=>ZU 0 [(14,Z3 [t])] (AM 2 ga L.vars [t] none fun v2=>Z0 2 (Zz 2 b [.h v2,.h gb,.h gc,.h gd,.h ge,.h gf,Z3 ln] (ie (Zp 6 [0] (iL (Z6 [o]) 1 1 fun v3=>ZU 0 [(24,Z3 [o])] (AM 4 gb L.own [o] none fun v4=>Z0 2 (Zz 2 b [.h v2,.h v4,.h gc,.h gd,.h ge,.h gf,Z3 ln] (ie (Zp 6 [0] (iL (Z6 [p]) 1 1 fun v5=>ZU 0 [(34,Z3 [p])] (AM 6 gc L.par [p] none fun v6=>Z0 2 (Zz 2 b [.h v2,.h v4,.h v6,.h gd,.h ge,.h gf,Z3 ln] (ie (Zp 5 [0] (iL (Z6 [-1]) 1 1 fun v7=>ZU 0 [(43,Z3 [-1])] (AM 8 gd L.con [-1] none fun v8=>Z0 2 (Zz 2 b [.h v2,.h v4,.h v6,.h v8,.h ge,.h gf,Z3 ln] (ie (Zp 5 [0] (iL (Z6 [-1]) 1 1 fun v9=>ZU 0 [(52,Z3 [-1])] (AM 10 ge L.fst [-1] none fun v10=>Z0 2 (Zz 2 b [.h v2,.h v4,.h v6,.h v8,.h v10,.h gf,Z3 ln] (ie (az (Zu 5 [0] (iL (Z6 [-1]) 1 1 fun v11=>ZU 0 [(61,Z3 [-1])] (AM 12 gf L.tok [-1] none fun v12=>Z0 2 (Zz 2 b [.h v2,.h v4,.h v6,.h v8,.h v10,.h v12,Z3 ln] (ie (r2 [0,10,8,6,4,2,0] [] ⟨v2,v4,v6,v8,v10,v12,rfl⟩ (lr _) (eq:=(rc (rv (xs:=(L.vars++[t])) ob (rv (xs:=(L.own++[o])) ob (rv (xs:=(L.par++[p])) ob (rv (xs:=(L.con++[-1])) ob (rv (xs:=(L.fst++[-1])) ob (rv (xs:=(L.tok++[-1])) ob rz))))))))))))))))))))))))))))))))))))))))
theorem Z9z (b:Nat) (ga:Hd) (gb:Hd) (gc:Hd) (gd:Hd) (ge:Hd) (gf:Hd) (L:ZO) (ln:LI) (hlb:L.vars.length<=1000000000:=by exact ob) (hlk:Tf L:=by exact ob) (hln:ln.length<=4294967296:=by exact ob):Zo 254 [.p b 0] [.obj b [.h ga,.h gb,.h gc,.h gd,.h ge,.h gf,Z3 ln],rV ga L.vars,rV gb L.own,rV gc L.par,rV gd L.con,rV ge L.fst,rV gf L.tok] (fun r h=>∃(c:Nat) (wa:Hd) (wb:Hd) (wc:Hd) (wd:Hd) (we:Hd) (wf:Hd),r=.p c 0/\h=[.obj c [.h wa,.h wb,.h wc,.h wd,.h we,.h wf,Z3 ln],rV wa L.vars,rV wb L.own,rV wc L.par,rV wd L.con,rV we L.fst,rV wf L.tok,.obj b [.h ga,.h gb,.h gc,.h gd,.h ge,.h gf,Z3 ln],rV ga L.vars,rV gb L.own,rV gc L.par,rV gd L.con,rV ge L.fst,rV gf L.tok]):=by
 obtain ⟨e1,e2,e3,e4,e5⟩:=hlk
 refine ZE 40 Tryz.func254 (Y1 (aD 38 (ZY 10 38 [0,1,2,3,5,6,7,8,10,11,12,13,15,16,17,18,20,21,22,23,25,26,27,28,30,31,32,33] [0,0,0,0,0,0,0] (Z8 4 (JU 4 [1] [0,0,0,0,0,0] [b,b,b,b,b,b] [rV ga L.vars] (AX L.vars) CS (gL (v:=ga) 0 gN) (KJ A5) ?_)))))
 rintro _ _ ⟨v1,rfl,rfl⟩
 refine Z8 9 (JU 9 [3] [0,0,0,0,0] [b,b,b,b,b] [rV gb L.own] (AX L.own) CS (gL (v:=gb) 0 gN) (KJ A5) ?_)
 rintro _ _ ⟨v2,rfl,rfl⟩
 refine Z8 14 (JU 14 [5] [0,0,0,0] [b,b,b,b] [rV gc L.par] (AX L.par) CS (gL (v:=gc) 0 gN) (KJ A5) ?_)
 rintro _ _ ⟨v3,rfl,rfl⟩
 refine Z8 19 (JU 19 [7] [0,0,0] [b,b,b] [rV gd L.con] (AX L.con) CS (gL (v:=gd) 0 gN) (KJ A5) ?_)
 rintro _ _ ⟨v4,rfl,rfl⟩
 refine Z8 24 (JU 24 [9] [0,0] [b,b] [rV ge L.fst] (AX L.fst) CS (gL (v:=ge) 0 gN) (KJ A5) ?_)
 rintro _ _ ⟨v5,rfl,rfl⟩
 refine Z8 29 (JU 29 [11] [0] [b] [rV gf L.tok] (AX L.tok) CS (gL (v:=gf) 0 gN) (KJ A5) ?_)
 rintro _ _ ⟨v6,rfl,rfl⟩
 refine Z8 34 (dc 34 [] [] [] (WP ln) ?_)
 rintro _ _ ⟨v7,rfl,rfl⟩
 exact Yv 2 3 [35] [(38,.agg [.h v1,.h v2,.h v3,.h v4,.h v5,.h v6,Z3 ln])] (Z8 36 (dA 36 [] [] [.h v1,.h v2,.h v3,.h v4,.h v5,.h v6,Z3 ln] fun b1=>Zs 0 1 [37] (de (at_ (r1 [0,11,9,7,5,3,1,7,6,5,4,3,2,1] ⟨b1,v1,v2,v3,v4,v5,v6,rfl,rfl⟩)))))
theorem Gl (b:Nat) (ga:Hd) (gb:Hd) (gc:Hd) (gd:Hd) (ge:Hd) (gf:Hd) (L:ZO) (ln:LI) (i:Int) (hlk:Tf L:=by exact ob) (hi:0<=i/\i<L.vars.length:=by exact ob) (hq:∀x∈L.own,0<=x/\x<=1000000000):Zo 195 [.p b 0,.i i] [.obj b [.h ga,.h gb,.h gc,.h gd,.h ge,.h gf,Z3 ln],rV ga L.vars,rV gb L.own,rV gc L.par,rV gd L.con,rV ge L.fst,rV gf L.tok] (fun r h=>(∃(wa:Hd) (wb:Hd) (wc:Hd) (wd:Hd) (we:Hd) (wf:Hd) (L':ZO),r=.b true/\h=[.obj b [.h wa,.h wb,.h wc,.h wd,.h we,.h wf,Z3 ln],rV wa L'.vars,rV wb L'.own,rV wc L'.par,rV wd L'.con,rV we L'.fst,rV wf L'.tok]/\TV L i=some L')∨(r=.b false/\h=[]/\TV L i=none)):=by
 obtain ⟨e1,e2,e3,e4,e5⟩:=hlk
 refine ZE 27 Tryz.func195 (Y1 (Yr 5 [0] (Zq (U3 2 gb L.own i i.toNat (hq:=rfl)) ?_)))
 obtain ⟨x1,Z4⟩:=Zv L.own i.toNat om
 have hxq:=hq _ (Y4 Z4)
 have hgi:=T5 Z4
 refine U7 (Qb 2 gb L.own i.toNat x1 Z4) (Y0 (x1<1) (fun Z9=>?_) (fun Z9=>?_))
 ·exact ar (Zm (r1 [] (.inr ⟨rfl,rfl,(by rw [TV,hgi,Zl Z9])⟩)))
 exact ak (aD 15 (ZY 5 15 [0,1,2,3,4,5,6,7,8,9] [0,0] (dx 10 (U3 2 gb L.own i i.toNat (hq:=rfl)) (Ur 11 (Qb 2 gb L.own i.toNat x1 Z4) (da 12 ((x1-1)) ((x1)-(1)) (dx 13 (U3 2 gb L.own i i.toNat (hq:=rfl)) (Z8 14 (C4 14 2 [] [] gb L.own i.toNat (x1-1) (de (ar (Zm (r1 [1,1,0,0,0,0,0] (.inl ⟨ga,gb,gc,gd,ge,gf,(ZO.mk L.vars (L.own.set i.toNat (x1-1)) L.par L.con L.fst L.tok),rfl,rfl,(by rw [TV,hgi,Zd Z9])⟩) (eq:=(rc (rv (xs:=L.vars) ob (rv (xs:=(L.own.set i.toNat (x1-1))) ob (rv (xs:=L.par) ob (rv (xs:=L.con) ob (rv (xs:=L.fst) ob (rv (xs:=L.tok) ob rz))))))))))))))))))))
theorem Gk (b:Nat) (ga:Hd) (gb:Hd) (gc:Hd) (gd:Hd) (ge:Hd) (gf:Hd) (L:ZO) (ln:LI) (i:Int) (hlk:Tf L:=by exact ob) (hln:ln.length<=4294967296:=by exact ob) (hi:0<=i/\i<L.vars.length:=by exact ob) (hd:∀j:Int,0<=j->j<L.vars.length->gI L.par j<j):Zo 151 [.p b 0,.i i] [.obj b [.h ga,.h gb,.h gc,.h gd,.h ge,.h gf,Z3 ln],rV ga L.vars,rV gb L.own,rV gc L.par,rV gd L.con,rV ge L.fst,rV gf L.tok] (fun r h=>r=.b (UV L ln i)/\h=[.obj b [.h ga,.h gb,.h gc,.h gd,.h ge,.h gf,Z3 ln],rV ga L.vars,rV gb L.own,rV gc L.par,rV gd L.con,rV ge L.fst,rV gf L.tok]):=by
 obtain ⟨e1,e2,e3,e4,e5⟩:=hlk
 refine ZE 31 Tryz.func151 (Y1 (aq (ab 0 (Y5 (fun fz gz m F h=>∃(j:Int),(0<=j/\j<L.vars.length)/\(Qy L.own L.par ln (j.toNat+1) j=UV L ln i)/\F=sF [0] fz [(1,.i j)]/\h=gz/\m=j.toNat) _ _ _ ⟨i,ob,ob,rfl,rfl,rfl⟩ (Zw 7 fl) ?_))))
 rintro m F h ⟨j,Yl,Zj,rfl,rfl,rfl⟩
 refine Yr 5 [0] (Zq (U3 2 gb L.own j j.toNat (hq:=rfl)) ?_)
 obtain ⟨x1,Z4⟩:=Zv L.own j.toNat om
 have hg1:=T5 Z4
 refine U7 (Qb 2 gb L.own j.toNat x1 Z4) (Xn [0,1] [(21,.b ((decide (x1<1))&&(!(decide (j∈ln)))))] (fun gz=>gz) ?_ ?_)
 ·refine Z0 2 (ib (b:=(decide (x1<1))) 13 (fun Za=>?_) (fun Za=>?_))
  ·exact Zu 5 [0] (Zt [] (UE ln j) (Z1 (Zw 7 (Zf (!(decide (j∈ln))) Za fl))))
  exact Z1 (Zw 7 (Zf false Za fl))
 refine ac ((decide (x1<1))&&(!(decide (j∈ln)))) (p:=(x1<1)/\(¬(j∈ln))) (Y2 dq (Yg dq)) (fun Z9=>?_) (fun Z9=>?_)
 ·refine ak (ab 1 (Zp 5 [0] (Zq (U3 3 gc L.par j j.toNat (hq:=rfl)) ?_)))
  obtain ⟨x2,Zy⟩:=Zv L.par j.toNat om
  have hg2:=T5 Zy
  have hdj:=hd j om om
  rw [hg2] at hdj
  refine U7 (Qb 3 gc L.par j.toNat x2 Zy) (Z1 (ar (Y0 (x2<0) (fun Zh=>?_) (fun Zh=>?_))))
  ·exact ar (Zm (r2 [0,0,0,0,0,0,0] [.b false] ⟨rfl,rfl⟩ (lb (Z17 hg1 hg2 Z9 Zh Zj))))
  exact ak (ZM ⟨x2,om,(Z18 hg1 hg2 Yl Z9 Zh hd Zj),rfl,rfl,rfl⟩ (Zw 7 fl))
 exact ax 0 (ar (Zm (r2 [0,0,0,0,0,0,0] [.b true] ⟨rfl,rfl⟩ (lb (Z19 hg1 Z9 Zj)))))
theorem Pa (b:Nat) (ga:Hd) (gb:Hd) (gc:Hd) (gd:Hd) (ge:Hd) (gf:Hd) (L:ZO) (ln:LI) (mm:Nat) (hlk:Tf L:=by exact ob) (hlb:L.vars.length<=1000000000:=by exact ob) (hm:mm<=L.vars.length:=by exact ob):Zo 267 [.p b 0,.i mm] [.obj b [.h ga,.h gb,.h gc,.h gd,.h ge,.h gf,Z3 ln],rV ga L.vars,rV gb L.own,rV gc L.par,rV gd L.con,rV ge L.fst,rV gf L.tok] (fun r h=>(∃(wa:Hd) (wb:Hd) (wc:Hd) (wd:Hd) (we:Hd) (wf:Hd) (L':ZO),r=.b true/\h=[.obj b [.h wa,.h wb,.h wc,.h wd,.h we,.h wf,Z3 ln],rV wa L'.vars,rV wb L'.own,rV wc L'.par,rV wd L'.con,rV we L'.fst,rV wf L'.tok]/\J8 L mm=some L')∨(r=.b false/\h=[]/\J8 L mm=none)):=by
 obtain ⟨e1,e2,e3,e4,e5⟩:=hlk
 refine ZE 88 Tryz.func267 (Y1 (Y6 (ab 0 (Y5 (fun fz gz m F h=>∃(k:Nat),(mm<=k/\k<=L.vars.length)/\(BL (L.own.drop k) (L.tok.drop k)=BL (L.own.drop mm) (L.tok.drop mm))/\F=sF [0,1] fz [(5,.i k)]/\h=gz/\m=L.vars.length-k) _ _ _ ⟨mm,ob,ob,rfl,rfl,rfl⟩ (Zw 7 fl) ?_))))
 rintro m F h ⟨k,Yl,Zj,rfl,rfl,rfl⟩
 refine Yr 5 [0] (Zq (CG 1 ga L.vars) (Y0 ((k:Int)<(L.vars.length:Int)) (fun Z9=>?_) (fun Z9=>?_)))
 ·refine ak (aq (ab 1 (Zp 5 [0] (Zq (U3 2 gb L.own (k:Int) k) ?_))))
  obtain ⟨x1,Z4⟩:=Zv L.own k om
  refine U7 (Qb 2 gb L.own k x1 Z4) (Z0 2 (ib (b:=(x1 != 0)) 24 (fun Za=>?_) (fun Za=>?_)))
  ·have Y3:x1≠0:=(Yi).1 Za
   refine Z1 (Vn (Y1 ?_))
   obtain ⟨y2,hy2⟩:=Zv L.tok k om
   exact at_ (r1 [] (.inr ⟨rfl,rfl,(by rw [J8,<-Zj,Yo Z4,Yo hy2,BL,Zl (show x1≠0∨0<=y2 by omega)];rfl)⟩))
  have Yq:¬(x1≠0):=ZV Yi Za
  refine Zu 5 [0] (Zq (U3 6 gf L.tok (k:Int) k) ?_)
  obtain ⟨x2,Zy⟩:=Zv L.tok k om
  refine U7 (Qb 6 gf L.tok k x2 Zy) (Y0 (x2>=0) (fun Zh=>?_) (fun Zh=>?_))
  ·exact ar (Zm (r1 [] (.inr ⟨rfl,rfl,(by rw [J8,<-Zj,Yo Z4,Yo Zy,BL,Zl (show x1≠0∨0<=x2 by omega)];rfl)⟩)))
  exact ak (az (Z0 1 (ZK k (Z1 (ZM ⟨k+1,ob,(by rw [Yo Z4,Yo Zy,BL,Zd om] at Zj;exact Zj),rfl,rfl,rfl⟩ (Zw 7 (ZW k fl)))))))
 exact ax 0 (Zp 6 [0] (Zq (DR 1 ga L.vars mm) (Z0 2 (Xl (DO 1 mm ga L.vars) (Zz 1 b [.h (ga.cut mm),.h gb,.h gc,.h gd,.h ge,.h gf,Z3 ln] (ie (Zp 6 [0] (Zq (DR 2 gb L.own mm) (Z0 2 (Xl (DO 2 mm gb L.own) (Zz 1 b [.h (ga.cut mm),.h (gb.cut mm),.h gc,.h gd,.h ge,.h gf,Z3 ln] (ie (Zp 6 [0] (Zq (DR 3 gc L.par mm) (Z0 2 (Xl (DO 3 mm gc L.par) (Zz 1 b [.h (ga.cut mm),.h (gb.cut mm),.h (gc.cut mm),.h gd,.h ge,.h gf,Z3 ln] (ie (Zp 6 [0] (Zq (DR 4 gd L.con mm) (Z0 2 (Xl (DO 4 mm gd L.con) (Zz 1 b [.h (ga.cut mm),.h (gb.cut mm),.h (gc.cut mm),.h (gd.cut mm),.h ge,.h gf,Z3 ln] (ie (Zp 6 [0] (Zq (DR 5 ge L.fst mm) (Z0 2 (Xl (DO 5 mm ge L.fst) (Zz 1 b [.h (ga.cut mm),.h (gb.cut mm),.h (gc.cut mm),.h (gd.cut mm),.h (ge.cut mm),.h gf,Z3 ln] (ie (Zp 6 [0] (Zq (DR 6 gf L.tok mm) (Z0 2 (Xl (DO 6 mm gf L.tok) (Zz 1 b [.h (ga.cut mm),.h (gb.cut mm),.h (gc.cut mm),.h (gd.cut mm),.h (ge.cut mm),.h (gf.cut mm),Z3 ln] (ie (ar (Zm (r1 [0,5,4,3,2,1,0] (.inl ⟨(ga.cut mm),(gb.cut mm),(gc.cut mm),(gd.cut mm),(ge.cut mm),(gf.cut mm),(ZO.mk (L.vars.take mm) (L.own.take mm) (L.par.take mm) (L.con.take mm) (L.fst.take mm) (L.tok.take mm)),rfl,rfl,(by rw [J8,Zl (by rw [<-Zj,Xt om];rfl)];rfl)⟩) (eq:=(rc (rv (xs:=(L.vars.take mm)) ob (rv (xs:=(L.own.take mm)) ob (rv (xs:=(L.par.take mm)) ob (rv (xs:=(L.con.take mm)) ob (rv (xs:=(L.fst.take mm)) ob (rv (xs:=(L.tok.take mm)) ob rz)))))))))))))))))))))))))))))))))))))))))))))))
theorem Za1 (b:Nat) (ga:Hd) (gb:Hd) (gc:Hd) (gd:Hd) (ge:Hd) (gf:Hd) (n:ZF) (s:Z5) (L:ZO) (ln:LI) (q:Int) (x:Int) (hn:Xs n:=by exact ob) (hk:XH n.decls L q:=by exact ob) (hlb:L.vars.length<=1000000000:=by exact ob) (ha:s.args[0]? = some x:=by exact ob) (hx:0<=x/\x<L.vars.length:=by exact ob) (hq:0<=q/\q<=999999990:=by exact ob):Zo 196 [.p b 0,YD n,X4 s] [.obj b [.h ga,.h gb,.h gc,.h gd,.h ge,.h gf,Z3 ln],rV ga L.vars,rV gb L.own,rV gc L.par,rV gd L.con,rV ge L.fst,rV gf L.tok] (fun r h=>(∃(wa:Hd) (wb:Hd) (wc:Hd) (wd:Hd) (we:Hd) (wf:Hd) (L':ZO),r=.b true/\h=[.obj b [.h wa,.h wb,.h wc,.h wd,.h we,.h wf,Z3 ln],rV wa L'.vars,rV wb L'.own,rV wc L'.par,rV wd L'.con,rV we L'.fst,rV wf L'.tok]/\A7 n.decls L s.op x=some L')∨(r=.b false/\h=[]/\A7 n.decls L s.op x=none)):=by
 obtain ⟨e1,e2,e3,e4,e5⟩:=hk.len
 have Xo:=hn.decls
 have hal:=(Xc.1 ha).1
 obtain ⟨xcon,hxcon⟩:=Zv L.con ((x).toNat) om
 have hgcon:=T5 hxcon
 obtain ⟨xtok,hxtok⟩:=Zv L.tok ((x).toNat) om
 have hgtok:=T5 hxtok
 obtain ⟨xfst,hxfst⟩:=Zv L.fst ((x).toNat) om
 have hgfst:=T5 hxfst
 have hfl:=Ve Xo xcon
 have har:=hk.arm x om om
 rw [hgcon,hgfst] at har
 refine ZE 105 Tryz.func196 (ar (iA (X6 n) fun b1=>iA (Wb s) fun b2=>Z1 (Zp 2 [0] (Zq (Zk none 0 1 (Y7 ha)) (Z1 (Yr 5 [2] (Zq (U3 6 gd L.con x x.toNat (hq:=rfl)) (U7 (Qb 6 gd L.con x.toNat xcon hxcon) (YK 23 [0,4,5,7] [(36,.b ((decide (xcon<0))||((s.op==17)&&(decide (xtok>=0)))))] (fun gz=>gz) ?_ (fun hj1=>?_))))))))))
 ·refine Z0 1 (ib (b:=((decide (xcon<0))||((s.op==17)&&(decide (xtok>=0))))) 37 (fun Za=>?_) (fun Za=>?_))
  ·have Y3:(xcon<0)∨((s.op=17)/\(xtok>=0)):=((ZB dq (Y2 Zb dq))).1 Za
   exact Z1 (Vn (ar (Zm (r1 [] (.inr ⟨rfl,rfl,(by rw [A7,hgcon,hgtok,Zl om])⟩)))))
  have Yq:¬((xcon<0)∨((s.op=17)/\(xtok>=0))):=ZV (ZB dq (Y2 Zb dq)) Za
  refine Z0 2 (ic [2,2,2,2,2,2,2] (Gl b ga gb gc gd ge gf L ln x (hlk:=hk.len) (hq:=(fun y hy=>⟨hk.nn y hy,by have:=hk.bd y hy;omega⟩))) ?_)
  rintro _ _ (⟨wa1,wb1,wc1,wd1,we1,wf1,L'1,rfl,rfl,YR⟩|⟨rfl,rfl,X1⟩)
  ·obtain ⟨t1,t2,t3,t4,t5,t6,t7⟩:=Jx YR
   have hk1:=hk.take YR
   obtain ⟨f1,f2,f3,f4,f5⟩:=hk1.len
   have hxcon1:L'1.con[x.toNat]? = some xcon:=by rw [t4];exact hxcon
   have hvl:L'1.vars.length=L.vars.length:=by rw [t2]
   have har2:=har om
   have hxfst1:L'1.fst[x.toNat]? = some xfst:=by rw [t5];exact hxfst
   refine Z1 (WW (ak (aD 11 (ZY 4 11 [0,1,2,3,4,5,6] [8,0] (dx 7 (U3 4 wd1 L'1.con x x.toNat (hq:=rfl)) (Ur 8 (Qb 4 wd1 L'1.con x.toNat xcon hxcon1) (Z8 9 (YF 9 [] [] [] (Qa n.decls xcon) (Zs 0 1 [10] (de (Y6 (ab 0 (Y5 (fun fz gz m F h=>∃(k:Nat) (o:LI),(k<=(ZQ n.decls xcon).length)/\(o.length=L.vars.length)/\(∀y∈o,0<=y/\y<=q+k)/\(Qf o (xfst+k) ((ZQ n.decls xcon).drop k)=Qf L'1.own xfst (ZQ n.decls xcon))/\F=sF [0,5,7,8] fz [(9,.i k)]/\h=[Zi gz 0,Zi gz 1,rV wb1 o,Zi gz 3,Zi gz 4,Zi gz 5,Zi gz 6,Zi gz 7]/\m=(ZQ n.decls xcon).length-k) _ _ _ ⟨0,L'1.own,ob,om,(by intro y hy;have h1:=hk1.nn y hy;have h2:=hk1.bd y hy;omega),(by rw [show xfst+((0:Nat):Int)=xfst by omega,BN]),rfl,rfl,rfl⟩ (Zw 8 (Ye fl)) ?_)))))))))))))
   rintro m F h ⟨k,o,Yl,Zj,ZD,YL,rfl,rfl,rfl⟩
   refine YO 2 (io (.i (((ZQ n.decls xcon).length:Nat):Int)) (.i (((Z6 (ZQ n.decls xcon)).length:Nat):Int)) (li (by rw [Yc])) (Y0 ((k:Int)<(((ZQ n.decls xcon).length:Nat):Int)) (fun Z9=>?_) (fun Z9=>?_)))
   ·refine ak (aq (ab 1 (Ya 2 ?_)))
    obtain ⟨x1,Z4⟩:=Zv (ZQ n.decls xcon) k om
    refine Zq (Zk none (k:Int) 1 (Y7 Z4)) (Yz (x1 != 0) Yi (fun Zh=>?_) (fun Zh=>?_))
    ·refine aE 31 (ZY 22 31 [0,1,2,3,4,5,6,7,8] [0,0] (dx 9 (U3 5 we1 L'1.fst x x.toNat (hq:=rfl)) (Ur 10 (Qb 5 we1 L'1.fst x.toNat xfst hxfst1) (Zs 19 20 [11] (da 12 ((xfst+(k:Int))) ((xfst)+((k:Int))) (ZY 9 18 [13,14,15,16,17,18,19,20,21] [0,0] (dx 22 (U3 5 we1 L'1.fst x x.toNat (hq:=rfl)) (Ur 23 (Qb 5 we1 L'1.fst x.toNat xfst hxfst1) (Zs 6 7 [24] (da 25 ((xfst+(k:Int))) ((xfst)+((k:Int))) (dx 26 (U3 2 wb1 o (xfst+(k:Int)) ((xfst+(k:Int)).toNat) (hq:=rfl)) ?_)))))))))))
     obtain ⟨x2,Zy⟩:=Zv o ((xfst+(k:Int)).toNat) om
     have hy2:=ZD _ (Y4 Zy)
     exact Ur 27 (Qb 2 wb1 o ((xfst+(k:Int)).toNat) x2 Zy) (da 28 ((x2+1)) ((x2)+(1)) (dx 29 (U3 2 wb1 o (xfst+(k:Int)) ((xfst+(k:Int)).toNat) (hq:=rfl)) (Z8 30 (C4 30 2 [] [] wb1 o ((xfst+(k:Int)).toNat) (x2+1) (de (az (Z0 1 (ZK k (Z1 (ZM ⟨k+1,(o.set (xfst+(k:Nat)).toNat (x2+1)),ob,ob,(by intro y hy;first|(rcases Jr hy with hy|rfl<;>first|(have:=ZD y hy;omega)|omega)|(have:=ZD y hy;omega)),(by rw [Yo Z4,Qf] at YL;first|(rw [Zl Zh,T5 Zy] at YL;rw [show xfst+((k+1:Nat):Int)=xfst+k+1 by omega];exact YL)|(rw [Zd Zh] at YL;rw [show xfst+((k+1:Nat):Int)=xfst+k+1 by omega];exact YL)),rfl,rfl,rfl⟩ (wk [1,1,0,0,0,0,0,0] (ZW k fl) (e:=(rc (rc (rv (xs:=(o.set ((xfst+(k:Int)).toNat) (x2+1))) ob (rc (rc (rc (rc (rc rz))))))))))))))))))))
    exact ak (az (Z0 1 (ZK k (Z1 (ZM ⟨k+1,o,ob,ob,(by intro y hy;first|(rcases Jr hy with hy|rfl<;>first|(have:=ZD y hy;omega)|omega)|(have:=ZD y hy;omega)),(by rw [Yo Z4,Qf] at YL;first|(rw [Zl Zh,T5 Zy] at YL;rw [show xfst+((k+1:Nat):Int)=xfst+k+1 by omega];exact YL)|(rw [Zd Zh] at YL;rw [show xfst+((k+1:Nat):Int)=xfst+k+1 by omega];exact YL)),rfl,rfl,rfl⟩ (Zw 8 (ZW k fl)))))))
   refine ax 0 (Xa (WI [7] (ac (s.op==17) Zb (fun ZC=>?_) (fun ZC=>?_))))
   ·refine az (Zu 6 [0] (io (.i (((ZQ n.decls xcon).length:Nat):Int)) (.i (((Z6 (ZQ n.decls xcon)).length:Nat):Int)) (li (by rw [Yc])) (Zq (U3 6 wf1 L'1.tok x x.toNat (hq:=rfl)) (IT 6 wf1 L'1.tok x.toNat (((ZQ n.decls xcon).length:Nat):Int) (ie (Y1 ?_))))))
    have hof:o=Qf L'1.own xfst (ZQ n.decls xcon):=by rw [<-YL,Xt om];rfl
    exact at_ (r1 [1,1,1,1,1,1,0] (.inl ⟨wa1,wb1,wc1,wd1,we1,wf1,(ZO.mk L'1.vars o L'1.par L'1.con L'1.fst (L'1.tok.set x.toNat (((ZQ n.decls xcon).length:Nat):Int))),rfl,rfl,(by rw [A7,hgcon,hgfst,hgtok,Zd om,YR,hof,t6];simp [ZC,t2,t3,t4,t5])⟩) (eq:=(rc (rv (xs:=L'1.vars) ob (rv (xs:=o) ob (rv (xs:=L'1.par) ob (rv (xs:=L'1.con) ob (rv (xs:=L'1.fst) ob (rv (xs:=(L'1.tok.set x.toNat (((ZQ n.decls xcon).length:Nat):Int))) ob rz)))))))))
   refine ak (Y1 ?_)
   have hof:o=Qf L'1.own xfst (ZQ n.decls xcon):=by rw [<-YL,Xt om];rfl
   exact at_ (r1 [0,0,0,0,0,0,0] (.inl ⟨wa1,wb1,wc1,wd1,we1,wf1,(ZO.mk L'1.vars o L'1.par L'1.con L'1.fst L'1.tok),rfl,rfl,(by rw [A7,hgcon,hgfst,hgtok,Zd om,YR,hof,t6];simp [ZC,t2,t3,t4,t5])⟩) (eq:=(rc (rv (xs:=L'1.vars) ob (rv (xs:=o) ob (rv (xs:=L'1.par) ob (rv (xs:=L'1.con) ob (rv (xs:=L'1.fst) ob (rv (xs:=L'1.tok) ob rz)))))))))
  exact Z1 (Vn (ar (Zm (r1 [] (.inr ⟨rfl,rfl,(by rw [A7,hgcon,hgtok,Zd om,X1])⟩)))))
 refine Z0 2 (ib (b:=(decide (xcon<0))) 22 (fun ZA=>?_) (fun ZA=>?_))
 ·have Xe:xcon<0:=(dq).1 ZA
  exact Z0 14 (ZJ (Zw 9 (Zf true ZA fl)) hj1)
 have XO:¬(xcon<0):=ZV dq ZA
 refine Zu 4 [0] (ib (b:=(s.op==17)) 26 (fun Yf=>?_) (fun Yf=>?_))
 ·have W9:s.op=17:=(Zb).1 Yf
  exact Zu 5 [2] (Zq (U3 8 gf L.tok x x.toNat (hq:=rfl)) (U7 (Qb 8 gf L.tok x.toNat xtok hxtok) (Z0 3 (ZJ (Zw 9 (Zf (decide (xtok>=0)) (And.intro ZA Yf) fl)) hj1))))
 have WB:¬(s.op=17):=ZV Zb Yf
 exact Z0 10 (ZJ (Zw 9 (Zf false (And.intro ZA Yf) fl)) hj1)
theorem Za0 (b:Nat) (ga:Hd) (gb:Hd) (gc:Hd) (gd:Hd) (ge:Hd) (gf:Hd) (n:ZF) (s:Z5) (L:ZO) (ln:LI) (q:Int) (hn:Xs n:=by exact ob) (hnum:s.op=9->0<=s.num/\s.num<n.routines.length:=by exact ob) (hk:XH n.decls L q:=by exact ob) (hlb:L.vars.length<=1000000000:=by exact ob) (hargs:∀a∈s.args,0<=a/\a<L.vars.length) (hinto:0<s.into->s.into<=L.vars.length:=by exact ob) (hal:s.args.length<=1000000000:=by exact ob) (hln:ln.length<=4294967296:=by exact ob) (hq:0<=q/\q<=999999990:=by exact ob):Zo 198 [.p b 0,YD n,X4 s] [.obj b [.h ga,.h gb,.h gc,.h gd,.h ge,.h gf,Z3 ln],rV ga L.vars,rV gb L.own,rV gc L.par,rV gd L.con,rV ge L.fst,rV gf L.tok] (fun r h=>(∃(wa:Hd) (wb:Hd) (wc:Hd) (wd:Hd) (we:Hd) (wf:Hd) (L':ZO),r=.b true/\h=[.obj b [.h wa,.h wb,.h wc,.h wd,.h we,.h wf,Z3 ln],rV wa L'.vars,rV wb L'.own,rV wc L'.par,rV wd L'.con,rV we L'.fst,rV wf L'.tok]/\Jf n ln L s.op s.num s.into s.args=some L')∨(r=.b false/\h=[]/\Jf n ln L s.op s.num s.into s.args=none)):=by
 obtain ⟨e1,e2,e3,e4,e5⟩:=hk.len
 refine ZE 79 Tryz.func198 (ar (iA (X6 n) fun b1=>iA (Wb s) fun b2=>?_))
 refine Z1 (Y6 (ab 0 (Y5 (fun fz gz m F h=>∃(k:Nat) (L2:ZO) (ka:Hd) (kb:Hd) (kc:Hd) (kd:Hd) (ke:Hd) (kf:Hd),(k<=s.args.length)/\(XH n.decls L2 q)/\(L2.vars=L.vars)/\(K7 n s.op s.num (s.args.drop k) k L2=K7 n s.op s.num s.args 0 L)/\F=sF [0,4,5] fz [(7,.i k)]/\h=[Zi gz 0,Zi gz 1,.obj b [.h ka,.h kb,.h kc,.h kd,.h ke,.h kf,Z3 ln],rV ka L2.vars,rV kb L2.own,rV kc L2.par,rV kd L2.con,rV ke L2.fst,rV kf L2.tok]/\m=s.args.length-k) _ _ _ ⟨0,L,ga,gb,gc,gd,ge,gf,ob,hk,ob,ob,rfl,rfl,rfl⟩ (Zw 9 (Ye fl)) ?_)))
 rintro m F h ⟨k,L2,ka,kb,kc,kd,ke,kf,Yl,Zj,ZD,YL,rfl,rfl,rfl⟩
 refine Yr 3 [0] (iw (Yc s.args) (Y0 ((k:Int)<(s.args.length:Int)) (fun Z9=>?_) (fun Z9=>?_)))
 ·obtain ⟨a1,ha1⟩:=Zv s.args k om
  obtain ⟨e6,e7,e8,e9,e10⟩:=Zj.len
  have hav:=hargs a1 (Y4 ha1)
  have hvl:L2.vars.length=L.vars.length:=by rw [ZD]
  refine ak (aq (ab 1 (aD 18 (ZY 11 18 [0,1,2,3,4,5,6] [1,2,0] (Z8 7 (JU 7 [3] [] [] [rV ka L2.vars] (H5 n L2.vars s k a1 (ha:=ha1)) Fy (gS (gL (v:=ka) 0 (gS (gS gN)))) (KJ A5) ?_))))))
  rintro _ _ ⟨rfl,rfl⟩
  refine Zs 9 10 [8] (db (b:=J7 n L2.vars s.op s.num a1 k) 24 (fun Za=>?_) (fun Za=>?_))
  ·have Y3:J7 n L2.vars s.op s.num a1 k=true:=(Iff.rfl).1 Za
   refine ZY 5 9 [9,10,11,12] [1] (dx 13 (Zk none (k:Int) 1 (Y7 ha1)) (Zs 3 4 [14] (Z8 15 (dc 15 [3,0,2,2,2,2,2] [] [] (Gl b ka kb kc kd ke kf L2 ln a1 (hlk:=Zj.len) (hq:=(fun y hy=>⟨Zj.nn y hy,by have:=Zj.bd y hy;omega⟩))) ?_))))
   rintro _ _ (⟨wa1,wb1,wc1,wd1,we1,wf1,L'1,rfl,rfl,Yq⟩|⟨rfl,rfl,YR⟩)
   ·obtain ⟨t1,t2,t3,t4,t5,t6,t7⟩:=Jx Yq
    have hk2:=Zj.take Yq
    exact Zs 0 2 [16,17] (de (WW (ak (az (Z0 1 (ZK k (Z1 (ZM ⟨k+1,L'1,wa1,wb1,wc1,wd1,we1,wf1,ob,hk2,(t2.trans ZD),(by rw [Yo ha1,K7,Zl Y3] at YL;simp only [Yq] at YL;exact YL),rfl,rfl,rfl⟩ (wk [7,7,0,0,0,0,0,0,0] (ZW k fl))))))))))
   exact Zs 0 2 [16,17] (de (Vn (ar (Zm (r1 [] (.inr ⟨rfl,rfl,(by rw [Jf,<-YL,Yo ha1,K7,Zl Y3,YR])⟩))))))
  have X1:¬(J7 n L2.vars s.op s.num a1 k=true):=ZV Iff.rfl Za
  exact Zs 0 9 [9,10,11,12,13,14,15,16,17] (de (WW (ak (az (Z0 1 (ZK k (Z1 (ZM ⟨k+1,L2,ka,kb,kc,kd,ke,kf,ob,Zj,ZD,(by rw [Yo ha1,K7,Zd X1] at YL;exact YL),rfl,rfl,rfl⟩ (wk [1,1,1,0,0,0,0,0,0] (ZW k fl))))))))))
 have hT:K7 n s.op s.num s.args 0 L=some L2:=by rw [<-YL,Xt om];rfl
 obtain ⟨e6,e7,e8,e9,e10⟩:=Zj.len
 have hvl:L2.vars.length=L.vars.length:=by rw [ZD]
 refine ax 0 (Y6 (ab 2 (Y5 (fun fz gz m F h=>∃(j:Nat),(j<=s.args.length)/\(Bn n s.op s.num ln L2 (s.args.drop j) j=Bn n s.op s.num ln L2 s.args 0)/\F=sF [0,4,5] fz [(8,.i j)]/\h=gz/\m=s.args.length-j) _ _ _ ⟨0,ob,ob,rfl,rfl,rfl⟩ (Zw 9 (Ye fl)) ?_)))
 rintro m F h ⟨j,U8,Wf,rfl,rfl,rfl⟩
 refine Yr 3 [0] (iw (Yc s.args) (Y0 ((j:Int)<(s.args.length:Int)) (fun Zh=>?_) (fun Zh=>?_)))
 ·obtain ⟨a2,ha2⟩:=Zv s.args j om
  have hav:=hargs a2 (Y4 ha2)
  refine ak (aq (ab 3 (Zp 3 [1,0] (Zt [] (EY n s j) (Xn [0,4,5,8] [(54,.b (UP n s.op s.num j&&(!UV L2 ln a2)))] (fun gz=>[Zi gz 2,Zi gz 3,Zi gz 4,Zi gz 5,Zi gz 6,Zi gz 7,Zi gz 8,Zi gz 0,Zi gz 1]) ?_ ?_)))))
  ·refine Z0 1 (ib (b:=UP n s.op s.num j) 45 (fun ZA=>?_) (fun ZA=>?_))
   ·exact Zu 4 [0] (Zq (Zk none (j:Int) 1 (Y7 ha2)) (Z0 1 (Zt [2,2,2,2,2,2,2] (Gk b ka kb kc kd ke kf L2 ln a2 (hlk:=Zj.len) (hd:=Zj.down)) (Z1 (Zw 9 (Zf (!UV L2 ln a2) ZA fl))))))
   exact Z1 (wk [2,2,2,2,2,2,2,0,0] (Zf false ZA fl))
  refine ac (UP n s.op s.num j&&(!UV L2 ln a2)) (p:=(UP n s.op s.num j=true)/\(¬(UV L2 ln a2=true))) (Y2 Iff.rfl (Yg Iff.rfl)) (fun ZC=>?_) (fun ZC=>?_)
  ·refine Y1 ?_
   have hA:Bn n s.op s.num ln L2 s.args 0=false:=by rw [<-Wf,Yo ha2,Bn,Zl ZC]
   exact at_ (r1 [] (.inr ⟨rfl,rfl,(by rw [Jf,hT];simp only [hA];rfl)⟩))
  exact ak (az (Z0 1 (ZK j (Z1 (ZM ⟨j+1,ob,(by rw [Yo ha2,Bn,Zd ZC] at Wf;exact Wf),rfl,rfl,rfl⟩ (wk [7,7,0,0,0,0,0,0,0] (ZW j fl)))))))
 have hA:Bn n s.op s.num ln L2 s.args 0=true:=by rw [<-Wf,Xt om];rfl
 refine ax 2 (Xa (WI [0] (WZ (s.into>0) (fun Yh=>?_) (fun Yh=>?_))))
 ·obtain ⟨xt,hxt⟩:=Zv L2.tok ((s.into-1).toNat) (by have:=hinto Yh;omega)
  have hgt:=T5 hxt
  refine aq (aD 13 (ZY 7 13 [0,1,2,3,4,5] [2,0] (da 6 ((s.into-1)) ((s.into)-(1)) (dx 7 (U3 8 kf L2.tok (s.into-1) ((s.into-1).toNat) (hq:=rfl)) (Ur 8 (Qb 8 kf L2.tok ((s.into-1).toNat) xt hxt) (ZY 2 4 [9,10] [0] (dw 11 (Yc s.args) (Zs 0 1 [12] (de (ac (xt != (s.args.length:Int)) Yi (fun YJ=>?_) (fun YJ=>?_)))))))))))
  ·exact ar (Zm (r1 [] (.inr ⟨rfl,rfl,(by rw [Jf,hT];simp only [hA,↓reduceIte];rw [Ej,Zl Yh,hgt,Zl YJ])⟩)))
  exact ak (aE 9 (ZY 3 9 [0,1,2,3,4,5] [2,0] (da 6 ((s.into-1)) ((s.into)-(1)) (dx 7 (U3 8 kf L2.tok (s.into-1) ((s.into-1).toNat) (hq:=rfl)) (Z8 8 (C4 8 8 [] [] kf L2.tok ((s.into-1).toNat) (-1) (de (ar (Zm (r1 [3,3,3,3,3,3,0] (.inl ⟨ka,kb,kc,kd,ke,kf,(ZO.mk L2.vars L2.own L2.par L2.con L2.fst (L2.tok.set ((s.into-1).toNat) (-1))),rfl,rfl,(by rw [Jf,hT];simp only [hA,↓reduceIte];rw [Ej,Zl Yh,hgt,Zd YJ])⟩) (eq:=(rc (rv (xs:=L2.vars) ob (rv (xs:=L2.own) ob (rv (xs:=L2.par) ob (rv (xs:=L2.con) ob (rv (xs:=L2.fst) ob (rv (xs:=(L2.tok.set ((s.into-1).toNat) (-1))) ob rz))))))))))))))))))
 exact ak (ar (Zm (r1 [2,2,2,2,2,2,2] (.inl ⟨ka,kb,kc,kd,ke,kf,L2,rfl,rfl,(by rw [Jf,hT];simp only [hA,↓reduceIte];rw [Ej,Zd Yh])⟩))))
theorem Z67 (b:Z7) (t:Int) (hz:b.sz<=1000000) (ih:∀(b2:Z7) (t:Int),(b2.sz<=1000000)->(b2.sz<b.sz)->Zo 247 [Yn b2,.i t] [] (fun r h=>∃(wr:Bool),r=.b wr/\h=[])):Zo 247 [Yn b,.i t] [] (fun r h=>∃(wr:Bool),r=.b wr/\h=[]):=by
 have ZL:=Un b
 have hbl:=KU b.steps
 have hbe:=b.sz_eq
 refine ZE 53 Tryz.func247 (ar (iA (XV b) fun b1=>?_))
 refine Z1 (Y6 (ab 0 (Y5 (fun fz gz m F h=>∃(k:Nat),(k<=b.steps.length)/\F=sF [1,2] fz [(5,.i k)]/\h=gz/\m=b.steps.length-k) _ _ _ ⟨0,ob,rfl,rfl,rfl⟩ (wk [0] (Ye fl)) ?_)))
 rintro m F h ⟨k,Yl,rfl,rfl,rfl⟩
 refine Yr 3 [0] (iw (Ut b.steps) (Y0 ((k:Int)<(b.steps.length:Int)) (fun Z9=>?_) (fun Z9=>?_)))
 ·refine ak (aq (ab 1 (Yr 3 [0] ?_)))
  obtain ⟨x1,Z4⟩:=Zv b.steps k om
  have hxs:=M5 (Y4 Z4)
  have hxe:=(x1).sz_eq
  have hxk:=QK x1
  refine Zq (Zk none (k:Int) 5 (V2 Z4)) (Xn [1,2,5] [(30,.b ((x1.op==10)&&(x1.num==t)))] (fun gz=>gz) ?_ ?_)
  ·refine Z0 4 (ib (b:=(x1.op==10)) 21 (fun Za=>?_) (fun Za=>?_))
   ·exact Zu 3 [0] (Zq (Zk none (k:Int) 5 (V2 Z4)) (Z1 (wk [0] (Zf (x1.num==t) Za fl))))
   exact Z1 (wk [0] (Zf false Za fl))
  refine ac ((x1.op==10)&&(x1.num==t)) (p:=(x1.op=10)/\(x1.num=t)) (Y2 Zb Zb) (fun Zh=>?_) (fun Zh=>?_)
  ·exact ar (Zm (r1 [] ⟨true,rfl,rfl⟩))
  refine ak (Y1 (ab 2 (Y5 (fun fz gz m F h=>∃(j:Nat),(j<=x1.kids.length)/\F=sF [1,2,5] fz [(6,.i j)]/\h=gz/\m=x1.kids.length-j) _ _ _ ⟨0,ob,rfl,rfl,rfl⟩ (wk [0] (Ye fl)) ?_)))
  rintro m F h ⟨j,U8,rfl,rfl,rfl⟩
  refine Yr 4 [0] (Zq (Zk none (k:Int) 5 (V2 Z4)) (Z0 2 (iw (K3 x1.kids) (Y0 ((j:Int)<(x1.kids.length:Int)) (fun ZC=>?_) (fun ZC=>?_)))))
  ·refine ak (aq (ab 3 (Zp 3 [0] (Zq (Zk none (k:Int) 5 (V2 Z4)) (Z0 3 ?_)))))
   obtain ⟨x2,Zy⟩:=Zv x1.kids j om
   have hkx:=HQ (Y4 Zy)
   refine Zq (Zk none (j:Int) 2 (UK Zy)) (Z0 2 (ic [] (ih x2 t ob ob) ?_))
   rintro _ _ ⟨wr1,rfl,rfl⟩
   refine ie (ac wr1 Iff.rfl (fun Yh=>?_) (fun Yh=>?_))
   ·exact ar (Zm (r1 [] ⟨true,rfl,rfl⟩))
   exact ak (az (Z0 1 (ZK j (Z1 (ZM ⟨j+1,ob,rfl,rfl,rfl⟩ (wk [0] (ZW j fl)))))))
  exact ax 2 (az (Z0 1 (ZK k (Z1 (ZM ⟨k+1,ob,rfl,rfl,rfl⟩ (wk [0] (ZW k fl)))))))
 exact ax 0 (ar (Zm (r1 [] ⟨false,rfl,rfl⟩)))
theorem Z66 (b:Z7) (t:Int) (hz:b.sz<=1000000:=by exact ob):Zo 247 [Yn b,.i t] [] (fun r h=>∃(wr:Bool),r=.b wr/\h=[]):=by
 have key:∀k:Nat,∀(b2:Z7) (t:Int),(b2.sz<=1000000)->(b2.sz<k)->Zo 247 [Yn b2,.i t] [] (fun r h=>∃(wr:Bool),r=.b wr/\h=[]):=by
  intro k
  induction k with
  | zero=>intro b2 t h1 h2;omega
  | succ k ih=>intro b2 t h1 h2;exact Z67 b2 t h1 fun b3 t3 q1 q2=>ih b3 t3 q1 om
 exact key (b.sz+1) b t hz om
theorem Z6r (n:ZF) (t:Int) (qz:Nat) (hn:FN n qz:=by exact ob) (hqz:qz<=100000:=by exact ob):Zo 217 [YD n,.i t] [] (fun r h=>∃(wr:Bool),r=.b wr/\h=[]):=by
 have hnl:=hn.len
 refine ZE 21 Tryz.func217 (ar (iA (X6 n) fun b1=>?_))
 refine Z1 (Y6 (ab 0 (Y5 (fun fz gz m F h=>∃(k:Nat),(k<=n.routines.length)/\F=sF [1,2] fz [(5,.i k)]/\h=gz/\m=n.routines.length-k) _ _ _ ⟨0,ob,rfl,rfl,rfl⟩ (wk [0] (Ye fl)) ?_)))
 rintro m F h ⟨k,Yl,rfl,rfl,rfl⟩
 refine Yr 3 [0] (iw (TJ n.routines) (Y0 ((k:Int)<(n.routines.length:Int)) (fun Z9=>?_) (fun Z9=>?_)))
 ·refine ak (aq (ab 1 (Zp 3 [0] ?_)))
  obtain ⟨x1,Z4⟩:=Zv n.routines k om
  have hbz:=(hn.body _ (Y4 Z4)).2
  refine Zq (Zk none (k:Int) 5 (VD Z4)) (Z0 3 (ic [] (Z66 x1.body t) ?_))
  rintro _ _ ⟨wr1,rfl,rfl⟩
  refine ie (ac wr1 Iff.rfl (fun Zh=>?_) (fun Zh=>?_))
  ·exact ar (Zm (r1 [] ⟨true,rfl,rfl⟩))
  exact ak (az (Z0 1 (ZK k (Z1 (ZM ⟨k+1,ob,rfl,rfl,rfl⟩ (wk [0] (ZW k fl)))))))
 exact ax 0 (ar (Zm (r1 [] ⟨false,rfl,rfl⟩)))
theorem Oh (fs:LI) (q:Nat) (hl:fs.length<=1000000:=by exact ob) (hq:q<=1000000:=by exact ob):Zo 146 [Z3 fs,.i q] [] (fun r h=>∃(xs:LI),r=Z3 xs/\h=[]/\xs.length<=fs.length/\∀i∈xs,(q:Int)<=i/\i<(q:Int)+fs.length):=by
 refine ZE 26 Tryz.func146 (Y1 (ar (iL (Z6 []) 0 1 fun v1=>?_)))
 refine Z1 (Y6 (ab 0 (Y5 (fun fz gz m F h=>∃(k:Nat) (ys:LI) (u:Value),(k<=fs.length)/\(ys.length<=k)/\(∀i∈ys,(q:Int)<=i/\i<(q:Int)+fs.length)/\F=sF [0,1] fz [(5,ZG ys u),(6,.i k)]/\h=[.tail u 1]/\m=fs.length-k) _ _ _ ⟨0,[],v1,ob,ob,(fun i hi=>by cases hi),rfl,rfl,rfl⟩ (wk [0] (fr (Ye fl))) ?_)))
 rintro m F h ⟨k,ys,u,Yl,Zj,ZD,rfl,rfl,rfl⟩
 refine YO 2 (iw (Yc fs) (Y0 ((k:Int)<(fs.length:Int)) (fun Z9=>?_) (fun Z9=>?_)))
 ·refine ak (aq (ab 1 (Ya 2 ?_)))
  obtain ⟨x1,Z4⟩:=Zv fs k om
  refine Zq (Zk none (k:Int) 1 (Y7 Z4)) (Yz (x1 != 0) Yi (fun Zh=>?_) (fun Zh=>?_))
  ·exact az (Z0 3 (ia (((q+k:Nat):Int)) (((q:Int))+((k:Int))) (iL (Z6 [((q+k:Nat):Int)]) 1 1 fun v2=>ZU 0 [(23,Z3 [((q+k:Nat):Int)])] (ip 1 (Z6 (ys++[((q+k:Nat):Int)])) (Z6 ys) (Z6 [((q+k:Nat):Int)]) u none 1 (YE _) (YE _) (W2 _) (by simp<;>omega) (by simp [W6,Z6]) fun v3=>Z1 (az (Z0 1 (ZK k (Z1 (ZM ⟨k+1,(ys++[((q+k:Nat):Int)]),v3,ob,ob,(XD ZD om),rfl,rfl,rfl⟩ (wk [0] (fr (ZW k fl))))))))))))
  exact ak (az (Z0 1 (ZK k (Z1 (ZM ⟨k+1,ys,u,ob,ob,ob,rfl,rfl,rfl⟩ (wk [0] (fr (ZW k fl))))))))
 exact ax 0 (ar (Zm (r2 [] [ZG ys u] ⟨ys,rfl,rfl,⟨by omega,ZD⟩⟩ (Zc.forget _ _))))
theorem Ob (n:ZF) (qz:Nat) (hn:FN n qz:=by exact ob) (hqz:qz<=100000:=by exact ob):Zo 183 [YD n] [] (fun r h=>∃(xs:List LI),r=Dr xs/\h=[]/\LC n n.routines.length xs):=by
 have hnl:=hn.len
 refine ZE 31 Tryz.func183 (ar (iA (X6 n) fun b1=>Z1 (ar (iL (Vf []) 0 1 fun v1=>?_))))
 refine Z1 (Y6 (ab 0 (Y5 (fun fz gz m F h=>∃(k:Nat) (ys:List LI) (u:Value),(k<=n.routines.length)/\(ys.length=k)/\(LC n k ys)/\F=sF [1] fz [(3,Lr ys u),(4,.i k)]/\h=[Zi gz 1,.tail u 1]/\m=n.routines.length-k) _ _ _ ⟨0,[],v1,ob,ob,LC.nil,rfl,rfl,rfl⟩ (wk [1,0] (fr (Ye fl))) ?_)))
 rintro m F h ⟨k,ys,u,Yl,Zj,ZD,rfl,rfl,rfl⟩
 refine Yr 3 [0] (iw (TJ n.routines) (Y0 ((k:Int)<(n.routines.length:Int)) (fun Z9=>?_) (fun Z9=>?_)))
 ·refine ak (aq (ab 1 (Zp 2 [0] (ic [] (Z6r n (k:Int) qz) ?_))))
  rintro _ _ ⟨wr1,rfl,rfl⟩
  refine ie (ac wr1 Iff.rfl (fun Zh=>?_) (fun Zh=>?_))
  ·exact az (Z0 1 (iL (Z6 []) 0 1 fun v2=>ZU 0 [(17,Z3 [])] (iL (Vf [[]]) 1 1 fun v3=>ZU 0 [(18,Dr [[]])] (ip 3 (Vf (ys++[[]])) (Vf ys) (Vf [[]]) u none 1 (D5 _) (D5 _) (Ie _) (by simp<;>omega) (by simp [Ic,Vf]) fun v4=>Z1 (az (Z0 1 (ZK k (Z1 (ZM ⟨k+1,(ys++[[]]),v4,ob,ob,(ZD.snoc (by simp) (fun r hr v hv=>by cases hv)),rfl,rfl,rfl⟩ (wk [3,0] (fr (ZW k fl))))))))))))
  refine az (Zu 4 [0] ?_)
  obtain ⟨x1,Z4⟩:=Zv n.routines k om
  have hrp:=(FN.ok hn).params_at Z4
  have hss:=(Th.bd (f:=⟨(x1).params,(x1).result,default⟩) (hn.sigs _ (Y4 Z4))).1
  refine Zq (Zk none (k:Int) 5 (VD Z4)) (Z0 2 (ic [] (Oh x1.params 0) ?_))
  rintro _ _ ⟨xs1,rfl,rfl,Y3⟩
  have hhf:=Y3
  exact iL (Vf [xs1]) 1 1 fun v5=>ZU 0 [(28,Dr [xs1])] (ip 2 (Vf (ys++[xs1])) (Vf ys) (Vf [xs1]) u none 1 (D5 _) (D5 _) (Ie _) (by simp<;>omega) (by simp [Ic,Vf]) fun v6=>Z1 (az (Z0 1 (ZK k (Z1 (ZM ⟨k+1,(ys++[xs1]),v6,ob,ob,(ZD.snoc om (fun r hr v hv=>by rw [Z4] at hr;cases hr;have:=hhf.2 v hv;omega)),rfl,rfl,rfl⟩ (wk [2,0] (fr (ZW k fl)))))))))
 exact ax 0 (ar (Zm (r2 [] [Lr ys u] ⟨ys,rfl,rfl,(by rw [show n.routines.length=k by omega];exact ZD)⟩ (Zc.forget _ _))))
theorem Z6a (n:ZF) (b:Z7) (t:Int) (mq:Nat) (hn:Xs n) (hf:fB n.decls n.routines.length mq b) (hz:b.sz<=1000000) (ih:∀(b2:Z7) (t:Int) (m2:Nat),(fB n.decls n.routines.length m2 b2)->(b2.sz<=1000000)->(b2.sz<b.sz)->Zo 218 [YD n,Yn b2,.i t] [] (fun r h=>∃(wr:Bool),r=.b wr/\h=[])):Zo 218 [YD n,Yn b,.i t] [] (fun r h=>∃(wr:Bool),r=.b wr/\h=[]):=by
 have hbl:=KU b.steps
 have hbe:=b.sz_eq
 refine ZE 68 Tryz.func218 (ar (iA (X6 n) fun b1=>iA (XV b) fun b2=>Z1 (Xa (WI [0] (ac (b.result==t) Zb (fun Z9=>?_) (fun Z9=>?_))))))
 ·exact ar (Zm (r1 [] ⟨true,rfl,rfl⟩))
 refine ak (Y6 (ab 0 (Y5 (fun fz gz m F h=>∃(k:Nat),(k<=b.steps.length)/\F=sF [2,3,4] fz [(7,.i k)]/\h=gz/\m=b.steps.length-k) _ _ _ ⟨0,ob,rfl,rfl,rfl⟩ (wk [0,0] (Ye fl)) ?_)))
 rintro m F h ⟨k,Yl,rfl,rfl,rfl⟩
 refine Yr 3 [0] (iw (Ut b.steps) (Y0 ((k:Int)<(b.steps.length:Int)) (fun Zh=>?_) (fun Zh=>?_)))
 ·refine ak (aq (ab 1 (Zp 3 [0] ?_)))
  obtain ⟨x1,Z4⟩:=Zv b.steps k om
  have hfs:=(AE x1).1 (Da ((Kz b).1 hf).1 Z4)
  have hxs:=M5 (Y4 Z4)
  have hxe:=(x1).sz_eq
  have hxk:=QK x1
  refine Zq (Zk none (k:Int) 5 (V2 Z4)) (Z0 1 (iA [.i 0,.i 0,.i 0,nl,nl] fun b3=>?_))
  refine Zz 0 b3 (Wb x1) (ie (Y6 (ab 2 (Y5 (fun fz gz m F h=>∃(j:Nat),(j<=x1.args.length)/\F=sF [2,3,4,7,8] fz [(9,.i j)]/\h=gz/\m=x1.args.length-j) _ _ _ ⟨0,ob,rfl,rfl,rfl⟩ (Zw 3 (Ye fl)) ?_))))
  rintro m F h ⟨j,U8,rfl,rfl,rfl⟩
  refine Yr 3 [0] (iw (Yc x1.args) (Y0 ((j:Int)<(x1.args.length:Int)) (fun ZC=>?_) (fun ZC=>?_)))
  ·refine ak (aq (ab 3 (Zp 3 [0] ?_)))
   obtain ⟨x2,Zy⟩:=Zv x1.args j om
   refine Zq (Zk none (j:Int) 1 (Y7 Zy)) (YK 12 [2,3,4,7,8,9] [(45,.b ((x2==t)&&JT x1.op))] (fun gz=>gz) ?_ (fun hj1=>?_))
   ·refine Xn [2,3,4,7,8,9] [(52,.b (((x2==t)&&JT x1.op)&&(!UP n x1.op x1.num j)))] (fun gz=>gz) ?_ ?_
    ·refine Z0 1 (ib (b:=((x2==t)&&JT x1.op)) 46 (fun Za=>?_) (fun Za=>?_))
     ·exact Zu 3 [2,0] (Zt [] (EY n x1 j (hnum:=hfs.call)) (Z1 (Zw 3 (Zf (!UP n x1.op x1.num j) Za fl))))
     exact Z1 (Zw 3 (Zf false Za fl))
    refine ac (((x2==t)&&JT x1.op)&&(!UP n x1.op x1.num j)) (p:=((x2=t)/\(JT x1.op=true))/\(¬(UP n x1.op x1.num j=true))) (Y2 (Y2 Zb Iff.rfl) (Yg Iff.rfl)) (fun Yh=>?_) (fun Yh=>?_)
    ·exact ar (Zm (r1 [] ⟨true,rfl,rfl⟩))
    exact ak (az (Z0 1 (ZK j (Z1 (ZM ⟨j+1,ob,rfl,rfl,rfl⟩ (Zw 3 (ZW j fl)))))))
   refine Z0 4 (ib (b:=(x2==t)) 41 (fun ZA=>?_) (fun ZA=>?_))
   ·exact Zu 2 [0] (Zt [] (Sm x1.op) (Z0 1 (ZJ (Zw 3 (Zf (JT x1.op) ZA fl)) hj1)))
   exact Z0 4 (ZJ (Zw 3 (Zf false ZA fl)) hj1)
  refine ax 2 (Y1 (ab 4 (Y5 (fun fz gz m F h=>∃(j:Nat),(j<=x1.kids.length)/\F=sF [2,3,4,7,8] fz [(10,.i j)]/\h=gz/\m=x1.kids.length-j) _ _ _ ⟨0,ob,rfl,rfl,rfl⟩ (Zw 3 (Ye fl)) ?_)))
  rintro m F h ⟨j,Fv,rfl,rfl,rfl⟩
  refine Yr 3 [0] (iw (K3 x1.kids) (Y0 ((j:Int)<(x1.kids.length:Int)) (fun YJ=>?_) (fun YJ=>?_)))
  ·refine ak (aq (ab 5 (aD 8 (ZY 4 8 [0,1,2,3] [2,0] ?_))))
   obtain ⟨x3,YX⟩:=Zv x1.kids j om
   have hkx:=HQ (Y4 YX)
   have hfk:=Bj hfs.kids YX
   refine dx 4 (Zk none (j:Int) 2 (UK YX)) (Zs 1 3 [5,6] (Z8 7 (dc 7 [] [] [] (ih x3 t (WQ n.decls x1.op x1.num (mq+Yt (b.steps.take k)) (0+j)) hfk ob ob) ?_)))
   rintro _ _ ⟨wr1,rfl,rfl⟩
   refine de (ac wr1 Iff.rfl (fun X2=>?_) (fun X2=>?_))
   ·exact ar (Zm (r1 [] ⟨true,rfl,rfl⟩))
   exact ak (az (Z0 1 (ZK j (Z1 (ZM ⟨j+1,ob,rfl,rfl,rfl⟩ (Zw 3 (ZW j fl)))))))
  exact ax 4 (az (Z0 1 (ZK k (Z1 (ZM ⟨k+1,ob,rfl,rfl,rfl⟩ (wk [1,1] (ZW k fl)))))))
 exact ax 0 (ar (Zm (r1 [] ⟨false,rfl,rfl⟩)))
theorem Z69 (n:ZF) (b:Z7) (t:Int) (mq:Nat) (hn:Xs n:=by exact ob) (hf:fB n.decls n.routines.length mq b:=by exact ob) (hz:b.sz<=1000000:=by exact ob):Zo 218 [YD n,Yn b,.i t] [] (fun r h=>∃(wr:Bool),r=.b wr/\h=[]):=by
 have key:∀k:Nat,∀(b2:Z7) (t:Int) (m2:Nat),(fB n.decls n.routines.length m2 b2)->(b2.sz<=1000000)->(b2.sz<k)->Zo 218 [YD n,Yn b2,.i t] [] (fun r h=>∃(wr:Bool),r=.b wr/\h=[]):=by
  intro k
  induction k with
  | zero=>intro b2 t m2 h1 h2 h3;omega
  | succ k ih=>intro b2 t m2 h1 h2 h3;exact Z6a n b2 t m2 hn h1 h2 fun b3 t3 m3 q1 q2 q3=>ih b3 t3 m3 q1 q2 om
 exact key (b.sz+1) b t mq hf hz om
theorem Z6s (n:ZF) (rt:YA) (i:Nat) (qz:Nat) (hn:FN n qz:=by exact ob) (hqz:qz<=100000:=by exact ob) (hr:n.routines[i]? = some rt:=by exact ob):Zo 184 [YD n,.i i] [] (fun r h=>∃(xs:LI),r=Z3 xs/\h=[]/\xs.length<=rt.lent.length/\∀v∈xs,v∈rt.lent):=by
 have hok:=FN.ok hn
 have hrl:=hn.lent rt (Y4 hr)
 have hrb:=hn.body rt (Y4 hr)
 obtain ⟨hil,_⟩:=Xc.1 hr
 have hnl:=hn.len
 refine ZE 50 Tryz.func184 (ar (iA (X6 n) fun b1=>Z1 (ar (iL (Z6 []) 0 1 fun v1=>?_))))
 refine Z1 (Y6 (ab 0 (Y5 (fun fz gz m F h=>∃(k:Nat) (ys:LI) (u:Value),(k<=rt.lent.length)/\(ys.length<=k)/\(∀v∈ys,v∈rt.lent)/\F=sF [1,2] fz [(5,ZG ys u),(6,.i k)]/\h=[Zi gz 1,.tail u 1]/\m=rt.lent.length-k) _ _ _ ⟨0,[],v1,ob,ob,(fun v hv=>by cases hv),rfl,rfl,rfl⟩ (wk [1,0] (fr (Ye fl))) ?_)))
 rintro m F h ⟨k,ys,u,Yl,Zj,ZD,rfl,rfl,rfl⟩
 refine Yr 4 [0] (Zq (Zk none (i:Int) 5 (VD hr)) (Z0 2 (iw (Yc rt.lent) (Y0 ((k:Int)<(rt.lent.length:Int)) (fun Z9=>?_) (fun Z9=>?_)))))
 ·refine ak (aq (ab 1 (aD 18 (ZY 14 18 [0,1,2,3] [0,0] (dx 4 (Zk none (i:Int) 5 (VD hr)) (ZY 8 13 [5,6,7,8,9] [0] (dx 10 (Zk none (i:Int) 5 (VD hr)) (Zs 4 7 [11,12,13] ?_))))))))
  obtain ⟨x1,Z4⟩:=Zv rt.lent k om
  refine dx 14 (Zk none (k:Int) 1 (Y7 Z4)) (Zs 2 3 [15] (Z8 16 (dc 16 [] [] [] (Z69 n rt.body x1 rt.params.length (hn:=hok) (hf:=hrb.1)) ?_)))
  rintro _ _ ⟨wr1,rfl,rfl⟩
  refine Zs 0 1 [17] (de (ac (!wr1) (p:=¬(wr1=true)) (Yg Iff.rfl) (fun Zh=>?_) (fun Zh=>?_)))
  ·exact az (Zu 4 [0] (Zq (Zk none (i:Int) 5 (VD hr)) (Z0 3 (Zq (Zk none (k:Int) 1 (Y7 Z4)) (Z0 1 (iL (Z6 [x1]) 1 1 fun v2=>ZU 0 [(47,Z3 [x1])] (ip 2 (Z6 (ys++[x1])) (Z6 ys) (Z6 [x1]) u none 1 (YE _) (YE _) (W2 _) (by simp<;>omega) (by simp [W6,Z6]) fun v3=>Z1 (az (Z0 1 (ZK k (Z1 (ZM ⟨k+1,(ys++[x1]),v3,ob,ob,(XD ZD (Y4 Z4)),rfl,rfl,rfl⟩ (wk [2,0] (fr (ZW k fl)))))))))))))))
  exact ak (az (Z0 1 (ZK k (Z1 (ZM ⟨k+1,ys,u,ob,ob,ob,rfl,rfl,rfl⟩ (wk [0,0] (fr (ZW k fl))))))))
 exact ax 0 (ar (Zm (r2 [] [ZG ys u] ⟨ys,rfl,rfl,⟨by omega,ZD⟩⟩ (Zc.forget _ _))))
theorem Zdv (s:Z5) (ih:∀(b2:Z7),(b2.sz<s.sz)->(b2.sz<=1000000000)->Zo 216 [Yn b2] [] (Ym (Yn b2))) (hz:s.sz<=1000000000):Zo 246 [X4 s] [] (Ym (X4 s)):=by
 have hkz:=QK s
 have haz:=J6 s
 refine ZE 33 Tryz.func246 (ar (iA (Wb s) fun b1=>iA [.i 0,.i 0,.i 0,nl,nl] fun b2=>ie (ar (iL (XP []) 0 2 fun v1=>?_))))
 refine Z1 (Y6 (ab 0 (Y5 (fun fz gz m F h=>∃(k:Nat) (v:Value),(k<=s.kids.length)/\F=sF [1,2] fz [(3,Q9 (s.kids.take k) v),(4,.i k)]/\h=[Zi gz 1,Zi gz 2,.tail v 2]/\m=s.kids.length-k) _ _ _ ⟨0,v1,ob,rfl,rfl,rfl⟩ (wk [1,1,0] (fc (x:=Q9 [] v1) (Zc.slh _ (Yj XP rfl)) (Ye fl))) ?_)))
 rintro m F h ⟨k,v,Yl,rfl,rfl,rfl⟩
 refine Yr 3 [1] (iw (K3 s.kids) (Y0 ((k:Int)<(s.kids.length:Int)) (fun Z9=>?_) (fun Z9=>?_)))
 ·refine ak (aq (ab 1 (az (Zu 4 [1] ?_))))
  obtain ⟨x1,Z4⟩:=Zv s.kids k om
  have hks:=Q7 Z4
  exact Zq (Zk none (k:Int) 2 (UK Z4)) (Z0 1 (Zt [] (ih x1 ob ob) (iL [Yn x1] 1 2 fun v2=>ZU 0 [(20,.sl [Yn x1] none)] (ip 3 (XP (s.kids.take (k+1))) (XP (s.kids.take k)) [Yn x1] v none 2 (Kx _) (KI rfl) rfl (by simp<;>omega) (by rw [V9 Z4];simp [QC]) fun v3=>Z1 (az (Z0 1 (ZK k (Z1 (ZM ⟨k+1,v3,ob,rfl,rfl,rfl⟩ (wk [2,2,0] (fr (ZW k fl))))))))))))
 refine ax 0 (aD 12 (ZY 3 12 [0,1,2,3,4,5,6,7,9] [1,1,1,1] (Z8 8 (dc 8 [] [1,1,1] [b1,b1,b1] (WP s.args) ?_))))
 rintro _ _ ⟨v4,rfl,rfl⟩
 exact Zs 1 2 [10] (Z8 11 (YT 11 1 [] [] b2 [.i s.op,.i s.num,.i s.into,ZG s.args v4,Q9 (s.kids.take k) v] (de (at_ (r3 [] [.agg [.i s.op,.i s.num,.i s.into,ZG s.args v4,Q9 (s.kids.take k) v]] [0] [(b2,b2)] ⟨rfl,rfl⟩ (Zc.agg (.cons (lr _) (.cons (lr _) (.cons (lr _) (.cons (Zc.forget _ _) (.cons (Zc.sl _ (Yj XP (by rw [WT om]))) .nil)))))))))))
theorem Zds (b:Z7) (ih:∀(s2:Z5),(s2.sz<b.sz)->(s2.sz<=1000000000)->Zo 246 [X4 s2] [] (Ym (X4 s2))) (hz:b.sz<=1000000000):Zo 216 [Yn b] [] (Ym (Yn b)):=by
 have hbz:=Un b
 refine ZE 28 Tryz.func216 (ar (iA (XV b) fun b1=>iA [nl,.i 0] fun b2=>ie (ar (iL (ZT []) 0 5 fun v1=>Zu 3 [2] (iA [nl,.i 0] fun b3=>?_)))))
 refine Zz 0 b3 [Xh [] v1,.i b.result] (ie (Y6 (ab 0 (Y5 (fun fz gz m F h=>∃(k:Nat) (v:Value),(k<=b.steps.length)/\F=sF [1,2,3] fz [(4,.i k)]/\h=[.obj b3 [Xh (b.steps.take k) v,.i b.result],Zi gz 2,Zi gz 3,.tail v 5]/\m=b.steps.length-k) _ _ _ ⟨0,v1,ob,rfl,rfl,rfl⟩ (wk [0,1,1,0] (Ye fl)) ?_))))
 rintro m F h ⟨k,v,Yl,rfl,rfl,rfl⟩
 refine Yr 3 [2] (iw (Ut b.steps) (Y0 ((k:Int)<(b.steps.length:Int)) (fun Z9=>?_) (fun Z9=>?_)))
 ·refine ak (aq (ab 1 (aE 12 (ZY 7 12 [0,1,2,3,4] [0,2] ?_))))
  obtain ⟨x1,Z4⟩:=Zv b.steps k om
  have hss:=DM Z4
  exact dx 5 (Zk none (k:Int) 5 (V2 Z4)) (Zs 5 6 [6] (Z8 7 (YF 7 [] [0] [b3] (ih x1 ob ob) (Z8 8 (dL 8 [0] [b3] [X4 x1] 1 5 fun v2=>Yv 3 3 [] [(24,.sl [X4 x1] none)] (Z8 9 (dp 9 4 [] [] (ZT (b.steps.take (k+1))) (ZT (b.steps.take k)) [X4 x1] v none 5 (XE _) (KI rfl) rfl (by simp<;>omega) (by rw [V9 Z4];simp [VV]) fun v3=>Zs 1 2 [10] (Z8 11 (YT 11 2 [] [] b3 [Xh (b.steps.take (k+1)) v3,.i b.result] (de (az (Z0 1 (ZK k (Z1 (ZM ⟨k+1,v3,ob,rfl,rfl,rfl⟩ (wk [0,2,2,0] (ZW k fl)))))))))))))))))
 exact ax 0 (Zp 1 [0] (Zz 1 b2 [Xh (b.steps.take k) v,.i b.result] (ie (at_ (r3 [] [.agg [Xh (b.steps.take k) v,.i b.result]] [0] [(b2,b2)] ⟨rfl,rfl⟩ (Zc.agg (.cons (Zc.sl _ (Yj ZT (by rw [WT om]))) (.cons (lr _) .nil))))))))
theorem Sn (k:Nat):(∀(s:Z5),(s.sz<=k)->(s.sz<=1000000000)->Zo 246 [X4 s] [] (Ym (X4 s)))/\(∀(b:Z7),(b.sz<=k)->(b.sz<=1000000000)->Zo 216 [Yn b] [] (Ym (Yn b))):=by
 induction k with
 | zero=>exact ⟨fun s h=>by have:=s.sz_pos;omega,fun s h=>by have:=s.sz_pos;omega⟩
 | succ k ih=>exact ⟨fun s h hz=>Zdv s (fun b2 h2 h3=>ih.2 b2 om h3) hz,fun b h hz=>Zds b (fun s2 h2 h3=>ih.1 s2 om h3) hz⟩
theorem Zdu (s:Z5) (hz:s.sz<=1000000000:=by exact ob):Zo 246 [X4 s] [] (Ym (X4 s)):=(Sn s.sz).1 s (X9 _) hz
theorem Zdr (b:Z7) (hz:b.sz<=1000000000:=by exact ob):Zo 216 [Yn b] [] (Ym (Yn b)):=(Sn b.sz).2 b (X9 _) hz
theorem FZ (n:ZF) (ls:List LI) (qz:Nat) (hn:FO n qz WJ:=by exact ob) (hqz:qz<=100000:=by exact ob) (hls:LC n n.routines.length ls:=by exact ob):Zo 182 [YD n,Dr ls] [] (fun r h=>∃(n2:ZF),r=YD n2/\h=[]/\FO n2 qz WJ/\n2.routines.length=n.routines.length):=by
 have hnl:=hn.fn.len
 have Xo:=hn.fn.decls.ok
 have hll:=hls.len
 refine ZE 45 Tryz.func182 (ar (iA (X6 n) fun b1=>iA [nl,nl] fun b2=>ie (Zp 2 [1] (Zt [] (AW n.decls) (iL (X8 []) 0 5 fun v1=>Z0 1 (iA [nl,nl] fun b3=>?_))))))
 refine Zz 0 b3 [Yd n.decls,WL [] v1] (ie (Y6 (ab 0 (Y5 (fun fz gz m F h=>∃(k:Nat) (rs:List YA) (u:Value),(k<=n.routines.length)/\(rs.length=k)/\(∀r∈rs,RF n.decls n.routines.length qz WJ r)/\F=sF [1,2,4,5] fz [(6,.i k)]/\h=[.obj b3 [Yd n.decls,WL rs u],Zi gz 2,Zi gz 3,.tail u 5]/\m=n.routines.length-k) _ _ _ ⟨0,[],v1,ob,ob,(fun r hr=>by cases hr),rfl,rfl,rfl⟩ (wk [0,1,1,0] (Ye fl)) ?_))))
 rintro m F h ⟨k,rs,u,Yl,Zj,ZD,rfl,rfl,rfl⟩
 refine Yr 3 [2] (iw (TJ n.routines) (Y0 ((k:Int)<(n.routines.length:Int)) (fun Z9=>?_) (fun Z9=>?_)))
 ·refine ak (aq (ab 1 (Zp 3 [2] ?_)))
  obtain ⟨x1,Z4⟩:=Zv n.routines k om
  have hrf:=hn.rf (Y4 Z4)
  have hrp:=hn.fn.ok.params_at Z4
  have hrz:=hrf.body.2
  refine Zq (Zk none (k:Int) 5 (VD Z4)) (Z0 1 (iA [nl,nl,.i 0,nl,.i 0] fun b4=>Zz 0 b4 (Jo x1) (ie (aE 20 (ZY 14 20 [0,1,2,3,5,6] [1,0] ?_)))))
  obtain ⟨x2,Zy⟩:=Zv ls k om
  have hlc:=hls.at Zy Z4
  refine dx 7 (Zk none (k:Int) 1 (Z3z Zy)) (ZY 8 13 [8,10,11,12,13] [0,0] (Z8 4 (dc 4 [] [0,0,1] [b4,b4,b3] (WP x1.params) ?_)))
  rintro _ _ ⟨v2,rfl,rfl⟩
  refine Z8 9 (dc 9 [] [0,0,1] [b4,b4,b3] (WP x2) ?_)
  rintro _ _ ⟨v3,rfl,rfl⟩
  exact Z8 14 (YF 14 [] [0,1] [b4,b3] (Zdr x1.body) (Yv 4 5 [15] [(40,.agg [Z3 x1.params,Z3 x2,.i x1.result,Vj x1.body.steps,.i x1.body.result])] (Z8 16 (dL 16 [1] [b3] (X8 [YA.mk x1.params x2 x1.result (Z7.mk x1.body.steps x1.body.result)]) 1 5 fun v4=>Yv 3 3 [] [(41,Jt [YA.mk x1.params x2 x1.result (Z7.mk x1.body.steps x1.body.result)])] (Z8 17 (dp 17 7 [] [] (X8 (rs++[YA.mk x1.params x2 x1.result (Z7.mk x1.body.steps x1.body.result)])) (X8 rs) (X8 [YA.mk x1.params x2 x1.result (Z7.mk x1.body.steps x1.body.result)]) u none 5 (T0 _) (T0 _) (Bh _) (by simp<;>omega) (by simp [D6,X8]) fun v5=>Zs 1 2 [18] (Z8 19 (YT 19 5 [] [] b3 [Yd n.decls,WL (rs++[YA.mk x1.params x2 x1.result (Z7.mk x1.body.steps x1.body.result)]) v5] (de (az (Z0 1 (ZK k (Z1 (ZM ⟨k+1,(rs++[YA.mk x1.params x2 x1.result (Z7.mk x1.body.steps x1.body.result)]),v5,ob,ob,(XD ZD (by rw [Z7.eta];exact hrf.lend hlc.1 hlc.2)),rfl,rfl,rfl⟩ (wk [0,5,5,0] (ZW k fl))))))))))))))))
 exact ax 0 (Zp 1 [0] (Zz 1 b2 [Yd n.decls,WL rs u] (ie (at_ (r3 [] [.agg [Yd n.decls,WL rs u]] [0] [(b2,b2)] ⟨(ZF.mk n.decls rs),rfl,rfl,(FO.fin hn.fn om ZD)⟩ (Zc.agg (.cons (lr _) (.cons (Zc.forget _ _) .nil))))))))
theorem Z70 (n:ZF) (qz:Nat) (hn:FO n qz WJ:=by exact ob) (hqz:qz<=100000:=by exact ob):Zo 167 [YD n] [] (fun r h=>∃(n2:ZF),r=YD n2/\h=[]/\FO n2 qz WJ):=by
 refine ZE 33 Tryz.func167 (ar (iA (X6 n) fun b1=>iA [nl,nl] fun b2=>?_))
 refine ie (aD 6 (ZY 4 6 [0,1] [1,1] (Au (fun fz gz F h=>∃(n21:ZF) (b3:Nat) (xs1:List LI),(LC n n.routines.length xs1)/\(FO n21 qz WJ/\n21.routines.length=n.routines.length)/\F=sF [2] fz [(3,.p b3 0)]/\h=[.obj b3 (X6 n21),Zi gz 0,Zi gz 1]) ?_ ?_)))
 ·refine VK 2 4 ?_ ?_
  ·refine dc 2 [] [1] [b1] (Ob n qz (hn:=hn.fn)) ?_
   rintro _ _ ⟨xs1,rfl,rfl,Y3⟩
   refine VK 3 4 ?_ ?_
   ·refine dc 3 [] [] [] (FZ n xs1 qz (hls:=(by first|assumption|(rw [<-hjl];exact Wf)))) ?_
    rintro _ _ ⟨n21,rfl,rfl,Yq⟩
    have hwl:=Yq
    exact Z8 4 (dA 4 [] [] [nl,nl] fun b3=>Z8 5 (YT 5 0 [] [] b3 (X6 n21) (de (ZH ⟨_,b3,_,(by assumption),(by assumption),rfl,rfl⟩ (Zw 3 fl)))))
   refine dA 4 [1] [b1] [nl,nl] fun b4=>Z8 3 (dc 3 [] [] [] (FZ n xs1 qz (hls:=(by first|assumption|(rw [<-hjl];exact Wf)))) ?_)
   rintro _ _ ⟨n22,rfl,rfl,YR⟩
   have hwl:=YR
   exact Z8 5 (YT 5 0 [] [] b4 (X6 n22) (de (ZH ⟨_,b4,_,(by assumption),(by assumption),rfl,rfl⟩ (Zw 3 fl))))
  refine dA 4 [1,1] [b1,b1] [nl,nl] fun b5=>Z8 2 (dc 2 [] [2] [b1] (Ob n qz (hn:=hn.fn)) ?_)
  rintro _ _ ⟨xs2,rfl,rfl,X1⟩
  refine Z8 3 (dc 3 [] [] [] (FZ n xs2 qz (hls:=(by first|assumption|(rw [<-hjl];exact Wf)))) ?_)
  rintro _ _ ⟨n23,rfl,rfl,Xe⟩
  have hwl:=Xe
  exact Z8 5 (YT 5 0 [] [] b5 (X6 n23) (de (ZH ⟨_,b5,_,(by assumption),(by assumption),rfl,rfl⟩ (Zw 3 fl))))
 rintro F h ⟨n21,b3,xs1,Y3,Yq,rfl,rfl⟩
 have hwl:=Yq
 refine Y6 (ab 0 (Y5 (fun fz gz m F h=>∃(k:Nat) (nn:ZF),(k<=13)/\(FO nn qz WJ)/\F=sF [2,3] fz [(4,.i k)]/\h=[.obj b3 (X6 nn),Zi gz 1]/\m=13-k) _ _ _ ⟨0,n21,ob,hwl.1,rfl,rfl,rfl⟩ (wk [0,0] (Ye fl)) ?_))
 rintro m F h ⟨k,nn,Yl,Zj,rfl,rfl,rfl⟩
 refine Xa (Y0 ((k:Int)<=12) (fun Z9=>?_) (fun Z9=>?_))
 ·refine ak (aq (ab 1 (ar (iL (Vf []) 0 1 fun v1=>?_))))
  refine Z1 (Y6 (ab 2 (Y5 (fun fz gz m F h=>∃(j:Nat) (ls:List LI) (u:Value),(j<=nn.routines.length)/\(LC nn j ls)/\(ls.length=j)/\F=sF [2,3,4] fz [(5,Lr ls u),(6,.i j)]/\h=[Zi gz 1,Zi gz 2,.tail u 1]/\m=nn.routines.length-j) _ _ _ ⟨0,[],v1,ob,LC.nil,ob,rfl,rfl,rfl⟩ (wk [1,1,0] (fr (Ye fl))) ?_)))
  rintro m F h ⟨j,ls,u,U8,Wf,W0,rfl,rfl,rfl⟩
  refine Yr 3 [0] (iw (TJ nn.routines) (Y0 ((j:Int)<(nn.routines.length:Int)) (fun Zh=>?_) (fun Zh=>?_)))
  ·obtain ⟨rt,hrt⟩:=Zv nn.routines j om
   have hrl:=(Zj.rf (Y4 hrt)).lent
   have hnl4:=Zj.fn.len
   refine ak (aq (ab 3 (az (Zu 3 [0] (ic [] (Z6s nn rt j qz (hn:=Zj.fn) (hr:=hrt)) ?_)))))
   rintro _ _ ⟨xs3,rfl,rfl,XO⟩
   have hkl:=XO
   exact iL (Vf [xs3]) 1 1 fun v2=>ZU 0 [(27,Dr [xs3])] (ip 3 (Vf (ls++[xs3])) (Vf ls) (Vf [xs3]) u none 1 (D5 _) (D5 _) (Ie _) (by simp<;>omega) (by simp [Ic,Vf]) fun v3=>Z1 (az (Z0 1 (ZK j (Z1 (ZM ⟨j+1,(ls++[xs3]),v3,ob,(Wf.snoc om (fun r hr v hv=>by rw [hrt] at hr;cases hr;exact hrl.2 v (hkl.2 v hv))),ob,rfl,rfl,rfl⟩ (wk [2,2,0] (fr (ZW j fl)))))))))
  have hjl:j=nn.routines.length:=by omega
  refine ax 2 (az (Kg 2 [(30,Dr ls)] [0] (ic [] (FZ nn ls qz (hls:=(by first|assumption|(rw [<-hjl];exact Wf)))) ?_)))
  rintro _ _ ⟨n24,rfl,rfl,W9⟩
  have hwl:=W9
  exact Zz 0 b3 (X6 n24) (ie (az (Z0 1 (ZK k (Z1 (ZM ⟨k+1,n24,ob,hwl.1,rfl,rfl,rfl⟩ (wk [0,0] (ZW k fl))))))))
 exact ax 0 (Zp 1 [0] (Zz 1 b2 (X6 nn) (ie (at_ (r3 [] [YD nn] [0] [(b2,b2)] ⟨nn,rfl,rfl,(by first|exact Zj|exact hwl.1)⟩ (lr _))))))
theorem Eh (xs:LI) (y:Int) (hl:xs.length<=1000000000:=by exact ob):Zo 129 [Z3 xs,.i y] [] (fun r h=>∃(v:Value),r=ZG (U6 xs y) v/\h=[.tail v 1]):=by
 refine ZE 49 Tryz.func129 (Y1 (ar (iL (Z6 []) 0 1 fun v1=>?_)))
 refine Z1 (Y1 (Y6 (ab 0 (Y5 (fun fz gz m F h=>∃(k:Nat) (acc:LI) (d:Bool) (v:Value),(k<=xs.length)/\(acc.length<=k+(if d=true then 1 else 0))/\(acc++Q5 d (xs.drop k) y=U6 xs y)/\F=sF [0,1] fz [(5,ZG acc v),(6,.b d),(7,.i k)]/\h=[.tail v 1]/\m=xs.length-k) _ _ _ ⟨0,[],false,v1,ob,(by simp),rfl,rfl,rfl,rfl⟩ (wk [0] (fw (Ye fl))) ?_))))
 rintro m F h ⟨k,acc,d,v,Yl,Zj,ZD,rfl,rfl,rfl⟩
 refine YO 2 (iw (Yc xs) (Y0 ((k:Int)<(xs.length:Int)) (fun Z9=>?_) (fun Z9=>?_)))
 ·obtain ⟨x1,Z4⟩:=Zv xs k om
  have hil:acc.length<=k+1:=Vb Zj (by split<;>omega)
  refine ak (aq (ab 1 (Xa (Xn [0,1,5,6,7] [(24,.b ((!d)&&(decide (x1>=y))))] (fun gz=>gz) ?_ ?_))))
  ·refine Z0 3 (ib (b:=(!d)) 17 (fun Za=>?_) (fun Za=>?_))
   ·exact Z0 2 (Zq (Zk none (k:Int) 1 (Y7 Z4)) (Z1 (wk [0] (Zf (decide (x1>=y)) Za fl))))
   exact Z1 (wk [0] (Zf false Za fl))
  refine Xu (fun fz gz F h=>∃(acc2:LI) (d2:Bool) (w:Value),((acc2=acc/\d2=d/\(d=true∨¬x1>=y))∨(acc2=acc++[y]/\d2=true/\¬d=true/\x1>y)∨(acc2=acc/\d2=true/\¬d=true/\x1=y))/\(acc2.length<=k+(if d2=true then 1 else 0))/\(acc2.length<=k+1)/\F=sF [0,1,7] fz [(5,ZG acc2 w),(6,.b d2)]/\h=[.tail w 1]) ?_ ?_
  ·refine ac ((!d)&&(decide (x1>=y))) (p:=(¬(d=true))/\(x1>=y)) (Y2 (Yg Iff.rfl) dq) (fun Zh=>?_) (fun Zh=>?_)
   ·refine YO 2 (Zq (Zk none (k:Int) 1 (Y7 Z4)) (Z1 (Xu (fun fz gz F h=>∃(w3:Value),F=sF [0,1,7] fz [(5,ZG (if x1>y then (acc++[y]) else acc) w3)]/\h=[.tail w3 1]) ?_ ?_)))
    ·refine WZ (x1>y) (fun ZC=>?_) (fun ZC=>?_)
     ·exact az (Z0 2 (iL (Z6 [y]) 1 1 fun v2=>ZU 0 [(33,Z3 [y])] (ip 1 (Z6 (acc++[y])) (Z6 acc) (Z6 [y]) v none 1 (YE _) (YE _) (W2 _) (by simp<;>omega) (by simp [W6,Z6]) fun v3=>Z1 (ZH ⟨v3,rfl,rfl⟩ (wk [0] (fc (x:=ZG (acc++[y]) v3) (Zc.slh _ (Yj Z6 (by first|rfl|(rw [Zl ZC])|(rw [Zd ZC])|(simp [ZC];done)|(rw [Yb];simp [ZC];done)|omega))) fl))))))
     exact ak (ZH ⟨v,rfl,rfl⟩ (wk [0] (fc (x:=ZG acc v) (Zc.slh _ (Yj Z6 (by first|rfl|(rw [Zl ZC])|(rw [Zd ZC])|(simp [ZC];done)|(rw [Yb];simp [ZC];done)|omega))) fl)))
    rintro F h ⟨w3,rfl,rfl⟩
    exact Vq (ZH ⟨(if x1>y then (acc++[y]) else acc),true,w3,(if h:x1>y then (by rw [Zl h];exact .inr (.inl ⟨rfl,rfl,Zh.1,h⟩)) else (by rw [Zd h];exact .inr (.inr ⟨rfl,rfl,Zh.1,by have:=Zh.2;omega⟩))),(by have h1:=Zj;rw [Zd Zh.1] at h1;split<;>(simp<;>omega)),(by have h1:=Zj;rw [Zd Zh.1] at h1;split<;>(simp<;>omega)),rfl,rfl⟩ (wk [0] fl))
   exact ak (ZH ⟨acc,d,v,(.inl ⟨rfl,rfl,by by_cases q:d=true;exact .inl q;exact .inr (fun z=>Zh ⟨q,z⟩)⟩),Zj,hil,rfl,rfl⟩ (wk [0] fl))
  rintro F h ⟨acc2,d2,w,Vy,AN,L0,rfl,rfl⟩
  exact az (Z0 3 (Zq (Zk none (k:Int) 1 (Y7 Z4)) (Z0 1 (iL (Z6 [x1]) 1 1 fun v4=>ZU 0 [(40,Z3 [x1])] (ip 1 (Z6 (acc2++[x1])) (Z6 acc2) (Z6 [x1]) w none 1 (YE _) (YE _) (W2 _) (by simp<;>omega) (by simp [W6,Z6]) fun v5=>Z1 (az (Z0 1 (ZK k (Z1 (ZM ⟨k+1,(acc2++[x1]),d2,v5,ob,(by simp only [Ys,Yx,X7];omega),(Z90 Z4 ZD Vy),rfl,rfl,rfl⟩ (wk [0] (fw (ZW k fl)))))))))))))
 have hil:acc.length<=k+1:=Vb Zj (by split<;>omega)
 refine ax 0 (Y6 (Xu (fun fz gz F h=>∃(w4:Value),F=sF [] fz [(5,ZG (if d=true then acc else (acc++[y])) w4)]/\h=[.tail w4 1]) ?_ ?_))
 ·refine ac (!d) (p:=¬(d=true)) (Yg Iff.rfl) (fun Yh=>?_) (fun Yh=>?_)
  ·exact az (Z0 2 (iL (Z6 [y]) 1 1 fun v6=>ZU 0 [(46,Z3 [y])] (ip 1 (Z6 (acc++[y])) (Z6 acc) (Z6 [y]) v none 1 (YE _) (YE _) (W2 _) (by simp<;>omega) (by simp [W6,Z6]) fun v7=>Z1 (ZH ⟨v7,rfl,rfl⟩ (wk [0] (fc (x:=ZG (acc++[y]) v7) (Zc.slh _ (Yj Z6 (by first|rfl|(rw [Zl Yh])|(rw [Zd Yh])|(simp [Yh];done)|(rw [Yb];simp [Yh];done)|omega))) fl))))))
  exact ak (ZH ⟨v,rfl,rfl⟩ (wk [0] (fc (x:=ZG acc v) (Zc.slh _ (Yj Z6 (by first|rfl|(rw [Zl Yh])|(rw [Zd Yh])|(simp [Yh];done)|(rw [Yb];simp [Yh];done)|omega))) fl)))
 rintro F h ⟨w4,rfl,rfl⟩
 exact ar (Zm (r2 [0] [ZG (if d=true then acc else (acc++[y])) w4] ⟨w4,rfl,rfl⟩ (Zc.slh _ (Yj Z6 (Z8z om ZD)))))
theorem Ot (xs:LI) (y:Int) (hl:xs.length<=1000000000:=by exact ob):Zo 88 [Z3 xs,.i y] [] (fun r h=>∃(v:Value),r=ZG (TO xs y) v/\h=[.tail v 1]):=by
 refine ZE 28 Tryz.func88 (Y1 (ar (iL (Z6 []) 0 1 fun v1=>?_)))
 refine Z1 (Y6 (ab 0 (Y5 (fun fz gz m F h=>∃(k:Nat) (acc:LI) (v:Value),(k<=xs.length)/\(acc.length<=k)/\(acc++TO (xs.drop k) y=TO xs y)/\F=sF [0,1] fz [(5,ZG acc v),(6,.i k)]/\h=[.tail v 1]/\m=xs.length-k) _ _ _ ⟨0,[],v1,ob,ob,rfl,rfl,rfl,rfl⟩ (wk [0] (fr (Ye fl))) ?_)))
 rintro m F h ⟨k,acc,v,Yl,Zj,ZD,rfl,rfl,rfl⟩
 refine YO 2 (iw (Yc xs) (Y0 ((k:Int)<(xs.length:Int)) (fun Z9=>?_) (fun Z9=>?_)))
 ·refine ak (aq (ab 1 (Ya 2 ?_)))
  obtain ⟨x1,Z4⟩:=Zv xs k om
  refine Zq (Zk none (k:Int) 1 (Y7 Z4)) (Z1 (At (fun fz gz F h=>∃(w:Value),F=sF [0,1,6] fz [(5,ZG (if x1≠y then (acc++[x1]) else acc) w)]/\h=[.tail w 1]) (fun _ _=>rfl) ?_ ?_))
  ·refine ac (x1 != y) Yi (fun Zh=>?_) (fun Zh=>?_)
   ·exact az (Z0 3 (Zq (Zk none (k:Int) 1 (Y7 Z4)) (Z0 1 (iL (Z6 [x1]) 1 1 fun v2=>ZU 0 [(25,Z3 [x1])] (ip 1 (Z6 (acc++[x1])) (Z6 acc) (Z6 [x1]) v none 1 (YE _) (YE _) (W2 _) (by simp<;>omega) (by simp [W6,Z6]) fun v3=>Z1 (ZH ⟨v3,rfl,rfl⟩ (wk [0] (fc (x:=ZG (acc++[x1]) v3) (Zc.slh _ (Yj Z6 (by first|rfl|(rw [Zl Zh])|(rw [Zd Zh])|(simp [Zh];done)|(rw [Yb];simp [Zh];done)|omega))) fl))))))))
   exact ak (ZH ⟨v,rfl,rfl⟩ (wk [0] (fc (x:=ZG acc v) (Zc.slh _ (Yj Z6 (by first|rfl|(rw [Zl Zh])|(rw [Zd Zh])|(simp [Zh];done)|(rw [Yb];simp [Zh];done)|omega))) fl)))
  rintro F h ⟨w,rfl,rfl⟩
  exact az (Z0 1 (ZK k (Z1 (ZM ⟨k+1,(if x1≠y then (acc++[x1]) else acc),w,ob,(by split<;>(try simp)<;>omega),(Zbh Z4 ZD),rfl,rfl,rfl⟩ (wk [0] (fr (ZW k fl)))))))
 exact ax 0 (ar (Zm (r2 [0] [ZG acc v] ⟨v,rfl,rfl⟩ (Zc.slh _ (Yj Z6 (Zbg om ZD))))))
theorem Zdl (s:Z5) (q:Int) (xs:LI) (ih:∀(b2:Z7) (q:Int) (k2:Nat) (xs2:LI),(b2.sz<s.sz)->(k2<=b2.steps.length)->(xs2.length+b2.sz<=1000000000)->Zo 219 [Yn b2,.i q,.i k2,Z3 xs2] [] (Ym (Z3 (UF q (UR q (b2.steps.drop k2) xs2) b2.result)))) (hz:xs.length+s.sz<=1000000000):Zo 249 [X4 s,.i q,Z3 xs] [] (Ym (Z3 (Jy q s xs))):=by
 have hkz:=QK s
 have haz:=J6 s
 have hse:=s.sz_eq
 refine ZE 58 Tryz.func249 (ar (iA (Wb s) fun b1=>Z1 (Yr 2 [0] (Zt [] (So s.op) (ie (ac (YN s.op) Iff.rfl (fun Z9=>?_) (fun Z9=>?_)))))))
 ·exact ar (Zm (ZP (Z3 xs) (Zc.sl _ (Yj Z6 (by rw [Z08,Zl (by assumption)])))))
 refine ak (Y6 (ab 0 (Y5 (fun fz gz m F h=>∃(j:Nat) (ys:LI),(j<=s.args.length)/\(ys.length<=xs.length+j)/\(Qq q (s.args.drop j) ys=Qq q s.args xs)/\F=sF [1,3] fz [(2,Z3 ys),(7,.i j)]/\h=gz/\m=s.args.length-j) _ _ _ ⟨0,xs,ob,ob,rfl,rfl,rfl,rfl⟩ (wk [0] (fr (Ye fl))) ?_)))
 rintro m F h ⟨j,ys,Yl,Zj,ZD,rfl,rfl,rfl⟩
 refine Yr 3 [0] (iw (Yc s.args) (Y0 ((j:Int)<(s.args.length:Int)) (fun Zh=>?_) (fun Zh=>?_)))
 ·refine ak (aq (ab 1 (Zp 3 [0] ?_)))
  obtain ⟨x1,Z4⟩:=Zv s.args j om
  refine Zq (Zk none (j:Int) 1 (Y7 Z4)) (Xn [1,2,3,7] [(34,.b ((decide (x1>=0))&&(decide (x1<q))))] (fun gz=>gz) ?_ ?_)
  ·refine Z0 3 (ib (b:=(decide (x1>=0))) 26 (fun Za=>?_) (fun Za=>?_))
   ·exact Zu 3 [0] (Zq (Zk none (j:Int) 1 (Y7 Z4)) (Z1 (wk [0] (Zf (decide (x1<q)) Za fl))))
   exact Z1 (wk [0] (Zf false Za fl))
  refine At (fun fz gz F h=>F=sF [1,3,7] fz [(2,Z3 (UF q ys x1))]/\h=gz) (fun _ _=>rfl) ?_ ?_
  ·refine ac ((decide (x1>=0))&&(decide (x1<q))) (p:=(x1>=0)/\(x1<q)) (Y2 dq dq) (fun ZC=>?_) (fun ZC=>?_)
   ·refine az (Zu 4 [0] (Zq (Zk none (j:Int) 1 (Y7 Z4)) (Z0 1 (ic [] (Eh ys x1) ?_))))
    rintro _ _ ⟨v1,rfl,rfl⟩
    exact Z1 (ZH ⟨rfl,rfl⟩ (wk [1] (fc (x:=ZG (U6 ys x1) v1) (Zc.sl _ (Yj Z6 (by rw [UF,Zl (by assumption)]))) fl)))
   exact ak (ZH ⟨rfl,rfl⟩ (wk [0] (fc (x:=Z3 ys) (Zc.sl _ (Yj Z6 (by rw [UF,Zd (by assumption)]))) fl)))
  rintro F h ⟨rfl,rfl⟩
  exact az (Z0 1 (ZK j (Z1 (ZM ⟨j+1,(UF q ys x1),ob,(by have:=Hh (n:=q) ys x1;omega),(Zfy Z4 ZD),rfl,rfl,rfl⟩ (wk [0] (fr (ZW j fl)))))))
 have hA:Qq q s.args xs=ys:=(Zfx om ZD).symm
 refine ax 0 (Y6 (ab 2 (Y5 (fun fz gz m F h=>∃(j:Nat) (zs:LI),(j<=s.kids.length)/\(zs.length<=xs.length+s.args.length+YW (s.kids.take j))/\(KW q (s.kids.drop j) zs=KW q s.kids (Qq q s.args xs))/\F=sF [1,3] fz [(2,Z3 zs),(8,.i j)]/\h=gz/\m=s.kids.length-j) _ _ _ ⟨0,ys,ob,(by rw [List.take_zero,YW];omega),(by rw [hA];rfl),rfl,rfl,rfl⟩ (wk [0] (fr (Ye fl))) ?_)))
 rintro m F h ⟨j,zs,U8,Wf,W0,rfl,rfl,rfl⟩
 refine Yr 3 [0] (iw (K3 s.kids) (Y0 ((j:Int)<(s.kids.length:Int)) (fun Yh=>?_) (fun Yh=>?_)))
 ·refine ak (aq (ab 3 (az (Zu 3 [0] ?_))))
  obtain ⟨x2,Zy⟩:=Zv s.kids j om
  have hks:=Q7 Zy
  have hbt:=Fu Zy
  have hbx:=Ft Zy
  have hul:=Hg (n:=q) x2 zs
  exact Zq (Zk none (j:Int) 2 (UK Zy)) (Z0 3 (Zt [] (ih x2 q 0 zs ob ob ob) (Z1 (az (Z0 1 (ZK j (Z1 (ZM ⟨j+1,(UQ q x2 zs),ob,om,(Zg0 Zy W0),rfl,rfl,rfl⟩ (wk [0] (fc (x:=Z3 (UF q (UR q (x2.steps.drop 0) zs) x2.result)) (Zc.sl _ (Yj Z6 (by rw [Z06];rfl))) (ZW j fl)))))))))))
 exact ax 2 (ar (Zm (ZP (Z3 zs) (Zc.sl _ (Yj Z6 (by rw [Z08,Zd (by assumption)];exact (Zfz om W0)))))))
theorem Zdm (b:Z7) (q:Int) (k0:Nat) (xs:LI) (ih:∀(s2:Z5) (q:Int) (xs2:LI),(s2.sz<b.sz)->(xs2.length+s2.sz<=1000000000)->Zo 249 [X4 s2,.i q,Z3 xs2] [] (Ym (Z3 (Jy q s2 xs2)))) (hk:k0<=b.steps.length) (hz:xs.length+b.sz<=1000000000):Zo 219 [Yn b,.i q,.i k0,Z3 xs] [] (Ym (Z3 (UF q (UR q (b.steps.drop k0) xs) b.result))):=by
 have hbz:=Un b
 have hbe:=b.sz_eq
 have hsd:=SF b.steps k0
 refine ZE 40 Tryz.func219 (ar (iA (XV b) fun b1=>?_))
 refine Z1 (Y6 (ab 0 (Y5 (fun fz gz m F h=>∃(k:Nat) (ys:LI),(k<=b.steps.length)/\(ys.length+Yu (b.steps.drop k)<=xs.length+Yu (b.steps.drop k0))/\(UR q (b.steps.drop k) ys=UR q (b.steps.drop k0) xs)/\F=sF [1,4] fz [(3,Z3 ys),(9,.i k)]/\h=gz/\m=b.steps.length-k) _ _ _ ⟨k0,xs,ob,(X9 _),rfl,rfl,rfl,rfl⟩ (wk [0] fl) ?_)))
 rintro m F h ⟨k,ys,Yl,Zj,ZD,rfl,rfl,rfl⟩
 refine Yr 3 [0] (iw (Ut b.steps) (Y0 ((k:Int)<(b.steps.length:Int)) (fun Z9=>?_) (fun Z9=>?_)))
 ·refine ak (aq (ab 1 (az (Zu 3 [0] ?_))))
  obtain ⟨x1,Z4⟩:=Zv b.steps k om
  have hss:=DM Z4
  have hsd1:=SD Z4
  have hul:=Z09 (n:=q) x1 ys
  exact Zq (Zk none (k:Int) 5 (V2 Z4)) (Z0 3 (Zt [] (ih x1 q ys ob ob) (Z1 (az (Z0 1 (ZK k (Z1 (ZM ⟨k+1,(Jy q x1 ys),ob,ob,(Zg2 Z4 ZD),rfl,rfl,rfl⟩ (wk [0] (fr (ZW k fl)))))))))))
 refine ax 0 (Xa (Xn [3,4] [(34,.b ((decide (b.result>=0))&&(decide (b.result<q))))] (fun gz=>gz) ?_ ?_))
 ·refine Zu 4 [0] (ib (b:=(decide (b.result>=0))) 29 (fun Za=>?_) (fun Za=>?_))
  ·exact WI [0] (wk [0] (Zf (decide (b.result<q)) Za fl))
  exact Z1 (wk [0] (Zf false Za fl))
 refine Xu (fun fz gz F h=>F=sF [] fz [(3,Z3 (UF q ys b.result))]/\h=[]) ?_ ?_
 ·refine ac ((decide (b.result>=0))&&(decide (b.result<q))) (p:=(b.result>=0)/\(b.result<q)) (Y2 dq dq) (fun Zh=>?_) (fun Zh=>?_)
  ·refine az (Zu 3 [0] (ic [] (Eh ys b.result) ?_))
   rintro _ _ ⟨v1,rfl,rfl⟩
   exact Z1 (ZH ⟨rfl,rfl⟩ (wk [] (fc (x:=ZG (U6 ys b.result) v1) (Zc.sl _ (Yj Z6 (by rw [UF,Zl (by assumption)]))) fl)))
  exact ak (ZH ⟨rfl,rfl⟩ (wk [] (fc (x:=Z3 ys) (Zc.sl _ (Yj Z6 (by rw [UF,Zd (by assumption)]))) fl)))
 rintro F h ⟨rfl,rfl⟩
 exact ar (Zm (ZP (Z3 (UF q ys b.result)) (Zc.sl _ (Yj Z6 (by rw [Zg1 om ZD])))))
theorem Zeq (k:Nat):(∀(s:Z5) (q:Int) (xs:LI),(s.sz<=k)->(xs.length+s.sz<=1000000000)->Zo 249 [X4 s,.i q,Z3 xs] [] (Ym (Z3 (Jy q s xs))))/\(∀(b:Z7) (q:Int) (k0:Nat) (xs:LI),(b.sz<=k)->(k0<=b.steps.length)->(xs.length+b.sz<=1000000000)->Zo 219 [Yn b,.i q,.i k0,Z3 xs] [] (Ym (Z3 (UF q (UR q (b.steps.drop k0) xs) b.result)))):=by
 induction k with
 | zero=>exact ⟨fun s q xs h=>by have:=s.sz_pos;omega,fun b q k0 xs h=>by have:=b.sz_pos;omega⟩
 | succ k ih=>exact ⟨fun s q xs h hz=>Zdl s q xs (fun b2 q k2 xs2 h2 hk h3=>ih.2 b2 q k2 xs2 om hk h3) hz,fun b q k0 xs h hk hz=>Zdm b q k0 xs (fun s2 q xs2 h2 h3=>ih.1 s2 q xs2 om h3) hk hz⟩
theorem Sh (b:Z7) (q:Int) (k0:Nat) (xs:LI) (hk:k0<=b.steps.length:=by exact ob) (hz:xs.length+b.sz<=1000000000:=by exact ob):Zo 219 [Yn b,.i q,.i k0,Z3 xs] [] (Ym (Z3 (UF q (UR q (b.steps.drop k0) xs) b.result))):=(Zeq b.sz).2 b q k0 xs (X9 _) hk hz
theorem Sx (b:Z7) (q:Int) (hz:b.sz<=100000000:=by exact ob):Zo 185 [Yn b,.i q] [] (Ym (Z3 (UQ q b []))):=by
 exact ZE 9 Tryz.func185 (ar (iA (XV b) fun b1=>Z1 (Zp 2 [0] (iL (Z6 []) 0 1 fun v1=>ZU 0 [(7,Z3 [])] (Zt [] (Sh b q 0 [] (hk:=(Te _))) (Zm (ZP (Z3 (UF q (UR q (b.steps.drop 0) []) b.result)) (Zc.sl _ (Yj Z6 (by rw [Z06];rfl))))))))))
theorem Z7n (xs:LI) (ys:LI) (hz:xs.length+ys.length<=100000000:=by exact ob):Zo 86 [Z3 xs,Z3 ys] [] (fun r h=>∃(zs:LI),r=Z3 zs/\h=[]/\zs.length<=xs.length+ys.length):=by
 refine ZE 22 Tryz.func86 (Y1 (Ya 1 (ic [] (WP xs) ?_)))
 rintro _ _ ⟨v1,rfl,rfl⟩
 refine Z1 (Y6 (ab 0 (Y5 (fun fz gz m F h=>∃(k:Nat) (zs:LI),(k<=ys.length)/\(zs.length<=xs.length+k)/\F=sF [1] fz [(5,Z3 zs),(6,.i k)]/\h=[]/\m=ys.length-k) _ _ _ ⟨0,xs,ob,ob,rfl,rfl,rfl⟩ (wk [] (fc (x:=ZG xs v1) (Zc.forget _ _) (Ye fl))) ?_)))
 rintro m F h ⟨k,zs,Yl,Zj,rfl,rfl,rfl⟩
 refine YO 2 (iw (Yc ys) (Y0 ((k:Int)<(ys.length:Int)) (fun Z9=>?_) (fun Z9=>?_)))
 ·refine ak (aq (ab 1 (az (Z0 3 ?_))))
  obtain ⟨x1,Z4⟩:=Zv ys k om
  refine Zq (Zk none (k:Int) 1 (Y7 Z4)) (Z0 1 (ic [] (Eh zs x1) ?_))
  rintro _ _ ⟨v2,rfl,rfl⟩
  exact Z1 (az (Z0 1 (ZK k (Z1 (ZM ⟨k+1,(U6 zs x1),ob,(by have:=Dk zs x1;omega),rfl,rfl,rfl⟩ (wk [] (fc (x:=ZG (U6 zs x1) v2) (Zc.forget _ _) (ZW k fl))))))))
 exact ax 0 (ar (Zm (r1 [] ⟨zs,rfl,rfl,ob⟩)))
theorem Od (xs:LI) (ys:LI) (hz:xs.length<=100000000:=by exact ob) (hy:ys.length<=100000000:=by exact ob):Zo 252 [Z3 xs,Z3 ys] [] (fun r h=>∃(zs:LI) (v:Value),r=ZG zs v/\h=[.tail v 1]/\zs.length<=xs.length/\∀z∈zs,z∈xs):=by
 refine ZE 28 Tryz.func252 (Y1 (ar (iL (Z6 []) 0 1 fun v1=>?_)))
 refine Z1 (Y6 (ab 0 (Y5 (fun fz gz m F h=>∃(k:Nat) (zs:LI) (u:Value),(k<=xs.length)/\(zs.length<=k)/\(∀z∈zs,z∈xs)/\F=sF [0,1] fz [(5,ZG zs u),(6,.i k)]/\h=[.tail u 1]/\m=xs.length-k) _ _ _ ⟨0,[],v1,ob,ob,(fun z hz=>by cases hz),rfl,rfl,rfl⟩ (wk [0] (fr (Ye fl))) ?_)))
 rintro m F h ⟨k,zs,u,Yl,Zj,ZD,rfl,rfl,rfl⟩
 refine YO 2 (iw (Yc xs) (Y0 ((k:Int)<(xs.length:Int)) (fun Z9=>?_) (fun Z9=>?_)))
 ·refine ak (aq (ab 1 (Ya 3 ?_)))
  obtain ⟨x1,Z4⟩:=Zv xs k om
  refine Zq (Zk none (k:Int) 1 (Y7 Z4)) (Z0 1 (Zt [] (UE ys x1) (ie (WZ (x1∈ys) (fun Zh=>?_) (fun Zh=>?_)))))
  ·exact az (Z0 3 (Zq (Zk none (k:Int) 1 (Y7 Z4)) (Z0 1 (iL (Z6 [x1]) 1 1 fun v2=>ZU 0 [(25,Z3 [x1])] (ip 1 (Z6 (zs++[x1])) (Z6 zs) (Z6 [x1]) u none 1 (YE _) (YE _) (W2 _) (by simp<;>omega) (by simp [W6,Z6]) fun v3=>Z1 (az (Z0 1 (ZK k (Z1 (ZM ⟨k+1,(zs++[x1]),v3,ob,ob,(by first|exact ZD|exact XD ZD (Y4 Z4)),rfl,rfl,rfl⟩ (wk [0] (fr (ZW k fl)))))))))))))
  exact ak (az (Z0 1 (ZK k (Z1 (ZM ⟨k+1,zs,u,ob,ob,(by first|exact ZD|exact XD ZD (Y4 Z4)),rfl,rfl,rfl⟩ (wk [0] (fr (ZW k fl))))))))
 exact ax 0 (ar (Zm (r1 [0] ⟨zs,u,rfl,rfl,⟨by omega,ZD⟩⟩)))
theorem IA (xs:LI) (q:Int) (hz:xs.length<=100000000:=by exact ob):Zo 266 [Z3 xs,.i q] [] (fun r h=>∃(zs:LI) (v:Value),r=ZG zs v/\h=[.tail v 1]/\zs.length<=xs.length/\∀z∈zs,z∈xs):=by
 refine ZE 28 Tryz.func266 (Y1 (ar (iL (Z6 []) 0 1 fun v1=>?_)))
 refine Z1 (Y6 (ab 0 (Y5 (fun fz gz m F h=>∃(k:Nat) (zs:LI) (u:Value),(k<=xs.length)/\(zs.length<=k)/\(∀z∈zs,z∈xs)/\F=sF [0,1] fz [(5,ZG zs u),(6,.i k)]/\h=[.tail u 1]/\m=xs.length-k) _ _ _ ⟨0,[],v1,ob,ob,(fun z hz=>by cases hz),rfl,rfl,rfl⟩ (wk [0] (fr (Ye fl))) ?_)))
 rintro m F h ⟨k,zs,u,Yl,Zj,ZD,rfl,rfl,rfl⟩
 refine YO 2 (iw (Yc xs) (Y0 ((k:Int)<(xs.length:Int)) (fun Z9=>?_) (fun Z9=>?_)))
 ·refine ak (aq (ab 1 (Ya 2 ?_)))
  obtain ⟨x1,Z4⟩:=Zv xs k om
  refine Zq (Zk none (k:Int) 1 (Y7 Z4)) (Y0 (x1<q) (fun Zh=>?_) (fun Zh=>?_))
  ·exact az (Z0 3 (Zq (Zk none (k:Int) 1 (Y7 Z4)) (Z0 1 (iL (Z6 [x1]) 1 1 fun v2=>ZU 0 [(25,Z3 [x1])] (ip 1 (Z6 (zs++[x1])) (Z6 zs) (Z6 [x1]) u none 1 (YE _) (YE _) (W2 _) (by simp<;>omega) (by simp [W6,Z6]) fun v3=>Z1 (az (Z0 1 (ZK k (Z1 (ZM ⟨k+1,(zs++[x1]),v3,ob,ob,(by first|exact ZD|exact XD ZD (Y4 Z4)),rfl,rfl,rfl⟩ (wk [0] (fr (ZW k fl)))))))))))))
  exact ak (az (Z0 1 (ZK k (Z1 (ZM ⟨k+1,zs,u,ob,ob,(by first|exact ZD|exact XD ZD (Y4 Z4)),rfl,rfl,rfl⟩ (wk [0] (fr (ZW k fl))))))))
 exact ax 0 (ar (Zm (r1 [0] ⟨zs,u,rfl,rfl,⟨by omega,ZD⟩⟩)))
theorem BH (op:Int) (v:Int) :Zo 153 [.i op,.i v] [] (Ym (X4 (Zx op v))):=by
 exact ZE 10 Tryz.func153 (ar (iA [.i 0,.i 0,.i 0,nl,nl] fun b1=>ie (Ya 2 (iL (Z6 [v]) 1 1 fun v1=>iL (XP []) 0 2 fun v2=>Z0 1 (Zz 2 b1 [.i op,.i 0,.i 0,ZG [v] v1,Q9 [] v2] (ie (at_ (r3 [] [.agg [.i op,.i 0,.i 0,ZG [v] v1,Q9 [] v2]] [0] [(b1,b1)] ⟨rfl,rfl⟩ (Zc.agg (.cons li (.cons li (.cons li (.cons (Zc.sl _ (Yj Z6 rfl)) (.cons (Zc.sl _ (Yj XP rfl)) .nil))))))))))))))
theorem Kj (op:Int) (xs:LI) (hl:xs.length<=1000000000:=by exact ob):Zo 187 [.i op,Z3 xs] [] (fun r h=>∃(v:Value),r=Xh (xs.map (Zx op)) v/\h=[.tail v 5]):=by
 refine ZE 24 Tryz.func187 (Y1 (ar (iL (ZT []) 0 5 fun v1=>?_)))
 refine Z1 (Y6 (ab 0 (Y5 (fun fz gz m F h=>∃(k:Nat) (v:Value),(k<=xs.length)/\F=sF [0,1] fz [(5,Xh ((xs.take k).map (Zx op)) v),(6,.i k)]/\h=[.tail v 5]/\m=xs.length-k) _ _ _ ⟨0,v1,ob,rfl,rfl,rfl⟩ (wk [0] (fc (x:=Xh [] v1) (Zc.slh _ (Yj ZT rfl)) (Ye fl))) ?_)))
 rintro m F h ⟨k,v,Yl,rfl,rfl,rfl⟩
 refine YO 2 (iw (Yc xs) (Y0 ((k:Int)<(xs.length:Int)) (fun Z9=>?_) (fun Z9=>?_)))
 ·refine ak (aq (ab 1 (az (Z0 4 ?_))))
  obtain ⟨x1,Z4⟩:=Zv xs k om
  exact Zq (Zk none (k:Int) 1 (Y7 Z4)) (Z0 1 (Zt [] (BH op x1) (iL [X4 (Zx op x1)] 1 5 fun v2=>ZU 0 [(21,.sl [X4 (Zx op x1)] none)] (ip 1 (ZT ((xs.take (k+1)).map (Zx op))) (ZT ((xs.take k).map (Zx op))) [X4 (Zx op x1)] v none 5 (XE _) (KI rfl) rfl (by simp<;>omega) (by rw [V9 Z4];simp [VV]) fun v3=>Z1 (az (Z0 1 (ZK k (Z1 (ZM ⟨k+1,v3,ob,rfl,rfl,rfl⟩ (wk [0] (fr (ZW k fl))))))))))))
 exact ax 0 (ar (Zm (r2 [0] [Xh ((xs.take k).map (Zx op)) v] ⟨v,rfl,rfl⟩ (Zc.slh _ (Yj ZT (by rw [WT om]))))))
theorem Z75 (n:ZF) (s:Z5) (i:Nat) (mm:Nat) (hn:Xs n:=by exact ob) (hf:FS n.decls n.routines.length mm s:=by exact ob) (hi:i<s.args.length:=by exact ob):Zo 265 [YD n,X4 s,.i i] [] (fun r h=>∃(wr:Bool),r=.b wr/\h=[]):=by
 have hal:=hf.alen
 refine ZE 42 Tryz.func265 (ar (iA (X6 n) fun b1=>iA (Wb s) fun b2=>?_))
 refine Z1 (Y6 (ab 0 (Y5 (fun fz gz m F h=>∃(k:Nat),(k<=s.args.length)/\F=sF [2,3,4] fz [(7,.i k)]/\h=gz/\m=s.args.length-k) _ _ _ ⟨0,ob,rfl,rfl,rfl⟩ (wk [0,0] (Ye fl)) ?_)))
 rintro m F h ⟨k,Yl,rfl,rfl,rfl⟩
 refine Yr 3 [0] (iw (Yc s.args) (Y0 ((k:Int)<(s.args.length:Int)) (fun Z9=>?_) (fun Z9=>?_)))
 ·refine ak (aq (ab 1 (aD 27 (Zs 23 27 [0,1,2,3] (db (b:=((k:Int) != (i:Int))) 18 (fun Za=>?_) (fun Za=>?_))))))
  ·refine ZY 20 23 [4,5,6] [0] ?_
   obtain ⟨x1,Z4⟩:=Zv s.args k om
   refine dx 7 (Zk none (k:Int) 1 (Y7 Z4)) (ZY 15 19 [8,9,10,11] [0] ?_)
   obtain ⟨x2,Zy⟩:=Zv s.args i om
   refine dx 12 (Zk none (i:Int) 1 (Y7 Zy)) (Zs 10 14 [13,14,15,16] (db (b:=(x1==x2)) 31 (fun ZA=>?_) (fun ZA=>?_)))
   ·refine Zs 6 10 [17,18,19,20] (db (b:=(decide ((k:Int)>(i:Int)))) 35 (fun Yf=>?_) (fun Yf=>?_))
    ·exact Zs 0 6 [21,22,23,24,25,26] (de (Vn (ar (Zm (r1 [] ⟨true,rfl,rfl⟩)))))
    refine ZY 3 6 [21,22,23] [1,0] (Z8 24 (YF 24 [] [] [] (EY n s k (hnum:=hf.call)) (Zs 0 2 [25,26] (de (ac (UP n s.op s.num k) Iff.rfl (fun Zh=>?_) (fun Zh=>?_))))))
    ·exact ar (Zm (r1 [] ⟨true,rfl,rfl⟩))
    exact ak (az (Z0 1 (ZK k (Z1 (ZM ⟨k+1,ob,rfl,rfl,rfl⟩ (wk [0,0] (ZW k fl)))))))
   exact Zs 0 10 [17,18,19,20,21,22,23,24,25,26] (de (WW (ak (az (Z0 1 (ZK k (Z1 (ZM ⟨k+1,ob,rfl,rfl,rfl⟩ (wk [0,0] (ZW k fl))))))))))
  exact Zs 0 23 [4,5,6,7,8,9,10,11,12,13,14,15,16,17,18,19,20,21,22,23,24,25,26] (de (WW (ak (az (Z0 1 (ZK k (Z1 (ZM ⟨k+1,ob,rfl,rfl,rfl⟩ (wk [0,0] (ZW k fl))))))))))
 exact ax 0 (ar (Zm (r1 [] ⟨false,rfl,rfl⟩)))
theorem Oj (n:ZF) (s:Z5) (i:Nat) (mm:Nat) (os:LI) (ls:LI) (hn:Xs n:=by exact ob) (hf:FS n.decls n.routines.length mm s:=by exact ob) (hi:i<s.args.length:=by exact ob) (ho:os.length<=100000000:=by exact ob) (hl:ls.length<=100000000:=by exact ob):Zo 250 [YD n,X4 s,.i i,Z3 os,Z3 ls] [] (fun r h=>∃(wr:Bool),r=.b wr/\h=[]):=by
 refine ZE 34 Tryz.func250 (ar (iA (X6 n) fun b1=>iA (Wb s) fun b2=>Z1 (Zp 4 [0] ?_)))
 obtain ⟨x1,Z4⟩:=Zv s.args i om
 refine Zq (Zk none (i:Int) 1 (Y7 Z4)) (Z0 1 (Zt [] (UE ls x1) (Z0 1 (ib (b:=(decide (x1∈ls))) 18 (fun Za=>?_) (fun Za=>?_)))))
 ·exact Zm (r1 [] ⟨true,rfl,rfl⟩)
 refine Zu 4 [0] (Zq (Zk none (i:Int) 1 (Y7 Z4)) (Z0 1 (Zt [] (UE os x1) (Z0 3 (ib (b:=(!(decide (x1∈os)))) 28 (fun ZA=>?_) (fun ZA=>?_))))))
 ·exact Zm (r1 [] ⟨true,rfl,rfl⟩)
 refine Zu 3 [1,0] (ic [] (Z75 n s i mm) ?_)
 rintro _ _ ⟨wr1,rfl,rfl⟩
 exact Zm (r1 [] ⟨wr1,rfl,rfl⟩)
theorem Z6j (n:ZF) (us:LI) (s:Z5) (os:LI) (ls:LI) (mm:Nat) (hn:Xs n:=by exact ob) (hf:FS n.decls n.routines.length mm s:=by exact ob) (hvl:us.length=mm:=by exact ob) (hm:mm<=100000000:=by exact ob) (ho:os.length<=100000000:=by exact ob) (hl:ls.length<=100000000:=by exact ob):Zo 220 [YD n,Z3 us,X4 s,Z3 os,Z3 ls] [] (fun r h=>∃(zs:LI),r=Z3 zs/\h=[]/\zs.length<=s.args.length/\∀z∈zs,z∈s.args):=by
 have hal:=hf.alen
 refine ZE 43 Tryz.func220 (ar (iA (X6 n) fun b1=>iA (Wb s) fun b2=>Z1 (ar (iL (Z6 []) 0 1 fun v1=>?_))))
 refine Z1 (Y6 (ab 0 (Y5 (fun fz gz m F h=>∃(k:Nat) (zs:LI) (u:Value),(k<=s.args.length)/\(zs.length<=k)/\(∀z∈zs,z∈s.args)/\F=sF [1,3,4,5,7] fz [(11,ZG zs u),(12,.i k)]/\h=[Zi gz 1,Zi gz 2,.tail u 1]/\m=s.args.length-k) _ _ _ ⟨0,[],v1,ob,ob,(fun z hz=>by cases hz),rfl,rfl,rfl⟩ (wk [1,1,0] (fr (Ye fl))) ?_)))
 rintro m F h ⟨k,zs,u,Yl,Zj,ZD,rfl,rfl,rfl⟩
 refine Yr 3 [0] (iw (Yc s.args) (Y0 ((k:Int)<(s.args.length:Int)) (fun Z9=>?_) (fun Z9=>?_)))
 ·obtain ⟨a1,ha1⟩:=Zv s.args k om
  have har:=hf.args a1 (Y4 ha1)
  refine ak (aq (ab 1 (Zp 4 [1,0] (Zt [] (H5 n us s k a1 (hnum:=hf.call) (ha:=ha1)) (Z0 1 (ib (b:=J7 n us s.op s.num a1 k) 26 (fun Za=>?_) (fun Za=>?_)))))))
  ·refine Zu 5 [1,0] (ic [] (Oj n s k mm os ls) ?_)
   rintro _ _ ⟨wr1,rfl,rfl⟩
   refine Yz wr1 Iff.rfl (fun Zh=>?_) (fun Zh=>?_)
   ·exact az (Zu 4 [0] (Zq (Zk none (k:Int) 1 (Y7 ha1)) (Z0 1 (iL (Z6 [a1]) 1 1 fun v2=>ZU 0 [(40,Z3 [a1])] (ip 3 (Z6 (zs++[a1])) (Z6 zs) (Z6 [a1]) u none 1 (YE _) (YE _) (W2 _) (by simp<;>omega) (by simp [W6,Z6]) fun v3=>Z1 (az (Z0 1 (ZK k (Z1 (ZM ⟨k+1,(zs++[a1]),v3,ob,ob,(by first|exact ZD|exact XD ZD (Y4 ha1)),rfl,rfl,rfl⟩ (wk [2,2,0] (fr (ZW k fl)))))))))))))
   exact ak (az (Z0 1 (ZK k (Z1 (ZM ⟨k+1,zs,u,ob,ob,(by first|exact ZD|exact XD ZD (Y4 ha1)),rfl,rfl,rfl⟩ (Zw 3 (fr (ZW k fl))))))))
  exact Z1 (WW (ak (az (Z0 1 (ZK k (Z1 (ZM ⟨k+1,zs,u,ob,ob,(by first|exact ZD|exact XD ZD (Y4 ha1)),rfl,rfl,rfl⟩ (Zw 3 (fr (ZW k fl))))))))))
 exact ax 0 (ar (Zm (r2 [] [ZG zs u] ⟨zs,rfl,rfl,⟨by omega,ZD⟩⟩ (Zc.forget _ _))))
theorem Z6y (n:ZF) (us:LI) (s:Z5) (os:LI) (ls:LI) (mm:Nat) (hn:Xs n:=by exact ob) (hf:FS n.decls n.routines.length mm s:=by exact ob) (hvl:us.length=mm:=by exact ob) (hm:mm<=100000000:=by exact ob) (ho:os.length<=100000000:=by exact ob) (hl:ls.length<=100000000:=by exact ob):Zo 222 [YD n,Z3 us,X4 s,Z3 os,Z3 ls] [] (fun r h=>∃(zs:LI) (v:Value),r=ZG zs v/\h=[.tail v 1]/\zs.length<=os.length/\∀z∈zs,z∈os):=by
 have hal:=hf.alen
 refine ZE 55 Tryz.func222 (ar (iA (X6 n) fun b1=>iA (Wb s) fun b2=>Z1 (Yr 4 [0] (ib (b:=(s.op==7)) 16 (fun Za=>?_) (fun Za=>?_)))))
 ·refine Z1 (Vn (Ya 2 (ic [] (Od os ls) ?_)))
  rintro _ _ ⟨zs1,v1,rfl,rfl,Yq⟩
  have hco:=Yq
  exact Zm (r1 [0] ⟨zs1,v1,rfl,rfl,(by first|exact hco|exact ⟨by omega,ZD⟩)⟩)
 refine WI [0] (ac (s.op==8) Zb (fun Z9=>?_) (fun Z9=>?_))
 ·refine Ya 2 (ic [] (Od os ls) ?_)
  rintro _ _ ⟨zs2,v2,rfl,rfl,X1⟩
  have hco:=X1
  exact Zm (r1 [0] ⟨zs2,v2,rfl,rfl,(by first|exact hco|exact ⟨by omega,ZD⟩)⟩)
 refine ak (Ya 1 (ic [] (WP os) ?_))
 rintro _ _ ⟨v3,rfl,rfl⟩
 refine Z1 (Y6 (ab 0 (Y5 (fun fz gz m F h=>∃(k:Nat) (zs:LI) (u:Value),(k<=s.args.length)/\(zs.length<=os.length)/\(∀z∈zs,z∈os)/\F=sF [1,3,4,5,7] fz [(11,ZG zs u),(12,.i k)]/\h=[Zi gz 1,Zi gz 2,.tail u 1]/\m=s.args.length-k) _ _ _ ⟨0,os,v3,ob,ob,(fun z hz=>hz),rfl,rfl,rfl⟩ (wk [1,1,0] (fr (Ye fl))) ?_)))
 rintro m F h ⟨k,zs,u,Yl,Zj,ZD,rfl,rfl,rfl⟩
 refine Yr 3 [0] (iw (Yc s.args) (Y0 ((k:Int)<(s.args.length:Int)) (fun Zh=>?_) (fun Zh=>?_)))
 ·obtain ⟨a1,ha1⟩:=Zv s.args k om
  have har:=hf.args a1 (Y4 ha1)
  refine ak (aq (ab 1 (Zp 4 [1,0] (Zt [] (H5 n us s k a1 (hnum:=hf.call) (ha:=ha1)) (Z0 1 (ib (b:=J7 n us s.op s.num a1 k) 38 (fun ZA=>?_) (fun ZA=>?_)))))))
  ·refine Zu 5 [1,0] (ic [] (Oj n s k mm os ls) ?_)
   rintro _ _ ⟨wr1,rfl,rfl⟩
   refine Yz (!wr1) (p:=¬(wr1=true)) (Yg Iff.rfl) (fun ZC=>?_) (fun ZC=>?_)
   ·refine az (Zu 4 [0] (Zq (Zk none (k:Int) 1 (Y7 ha1)) (ZU 1 [(47,Z3 zs)] (ic [] (Ot zs a1) ?_))))
    rintro _ _ ⟨v4,rfl,rfl⟩
    exact Z1 (az (Z0 1 (ZK k (Z1 (ZM ⟨k+1,(TO zs a1),v4,ob,(by first|exact Zj|exact Vb (EJ _ _) Zj),(by first|exact ZD|exact (fun z hz=>ZD z (Dy hz))),rfl,rfl,rfl⟩ (wk [1,1,0] (fr (ZW k fl))))))))
   exact ak (az (Z0 1 (ZK k (Z1 (ZM ⟨k+1,zs,u,ob,(by first|exact Zj|exact Vb (EJ _ _) Zj),(by first|exact ZD|exact (fun z hz=>ZD z (Dy hz))),rfl,rfl,rfl⟩ (Zw 3 (fr (ZW k fl))))))))
  exact Z1 (WW (ak (az (Z0 1 (ZK k (Z1 (ZM ⟨k+1,zs,u,ob,(by first|exact Zj|exact Vb (EJ _ _) Zj),(by first|exact ZD|exact (fun z hz=>ZD z (Dy hz))),rfl,rfl,rfl⟩ (Zw 3 (fr (ZW k fl))))))))))
 exact ax 0 (ar (Zm (r1 [2] ⟨zs,u,rfl,rfl,(by first|exact hco|exact ⟨by omega,ZD⟩)⟩)))
theorem Z6z (n:ZF) (s:Z5) (os:LI) (ls:LI) (mm:Nat) (hn:Xs n:=by exact ob) (hf:FS n.decls n.routines.length mm s:=by exact ob) (ho:os.length<=100000000:=by exact ob) (hl:ls.length<=100000000:=by exact ob):Zo 223 [YD n,X4 s,Z3 os,Z3 ls] [] (fun r h=>∃(zs:LI),r=Z3 zs/\h=[]/\zs.length<=s.args.length/\∀z∈zs,z∈s.args):=by
 have hal:=hf.alen
 refine ZE 50 Tryz.func223 (ar (iA (X6 n) fun b1=>iA (Wb s) fun b2=>Z1 (ar (iL (Z6 []) 0 1 fun v1=>?_))))
 refine Z1 (Y6 (ab 0 (Y5 (fun fz gz m F h=>∃(k:Nat) (zs:LI) (u:Value),(k<=s.args.length)/\(zs.length<=k)/\(∀z∈zs,z∈s.args)/\F=sF [2,3,4,5] fz [(9,ZG zs u),(10,.i k)]/\h=[Zi gz 1,Zi gz 2,.tail u 1]/\m=s.args.length-k) _ _ _ ⟨0,[],v1,ob,ob,(fun z hz=>by cases hz),rfl,rfl,rfl⟩ (wk [1,1,0] (fr (Ye fl))) ?_)))
 rintro m F h ⟨k,zs,u,Yl,Zj,ZD,rfl,rfl,rfl⟩
 refine Yr 3 [0] (iw (Yc s.args) (Y0 ((k:Int)<(s.args.length:Int)) (fun Z9=>?_) (fun Z9=>?_)))
 ·obtain ⟨a1,ha1⟩:=Zv s.args k om
  have har:=hf.args a1 (Y4 ha1)
  refine ak (aq (ab 1 (Zp 3 [1,0] (Zt [] (EY n s k (hnum:=hf.call)) (YK 13 [2,3,4,5,9,10] [(31,.b (UP n s.op s.num k&&(decide (a1∈os))))] (fun gz=>gz) ?_ (fun hj1=>?_))))))
  ·refine Xn [2,3,4,5,9,10] [(41,.b ((UP n s.op s.num k&&(decide (a1∈os)))&&(!(decide (a1∈ls)))))] (fun gz=>gz) ?_ ?_
   ·refine Z0 1 (ib (b:=(UP n s.op s.num k&&(decide (a1∈os)))) 32 (fun Za=>?_) (fun Za=>?_))
    ·exact Zu 4 [0] (Zq (Zk none (k:Int) 1 (Y7 ha1)) (Z0 1 (Zt [] (UE ls a1) (Z1 (Zw 3 (Zf (!(decide (a1∈ls))) Za fl))))))
    exact Z1 (Zw 3 (Zf false Za fl))
   refine ac ((UP n s.op s.num k&&(decide (a1∈os)))&&(!(decide (a1∈ls)))) (p:=((UP n s.op s.num k=true)/\(a1∈os))/\(¬(a1∈ls))) (Y2 (Y2 Iff.rfl dq) (Yg dq)) (fun Zh=>?_) (fun Zh=>?_)
   ·refine az (Zu 4 [0] (Zq (Zk none (k:Int) 1 (Y7 ha1)) (ZU 1 [(42,Z3 zs)] (ic [] (Eh zs a1) ?_))))
    rintro _ _ ⟨v2,rfl,rfl⟩
    exact Z1 (az (Z0 1 (ZK k (Z1 (ZM ⟨k+1,(U6 zs a1),v2,ob,(by first|omega|(have:=Dk zs a1;omega)),(by first|exact ZD|exact (fun z hz=>(Ev.1 hz).elim (ZD z) (fun e=>e▸Y4 ha1))),rfl,rfl,rfl⟩ (wk [1,1,0] (fr (ZW k fl))))))))
   exact ak (az (Z0 1 (ZK k (Z1 (ZM ⟨k+1,zs,u,ob,(by first|omega|(have:=Dk zs a1;omega)),(by first|exact ZD|exact (fun z hz=>(Ev.1 hz).elim (ZD z) (fun e=>e▸Y4 ha1))),rfl,rfl,rfl⟩ (Zw 3 (fr (ZW k fl))))))))
  refine Z0 1 (ib (b:=UP n s.op s.num k) 23 (fun ZA=>?_) (fun ZA=>?_))
  ·exact Zu 4 [0] (Zq (Zk none (k:Int) 1 (Y7 ha1)) (Z0 1 (Zt [] (UE os a1) (Z0 1 (ZJ (Zw 3 (Zf (decide (a1∈os)) ZA fl)) hj1)))))
  exact Z0 8 (ZJ (Zw 3 (Zf false ZA fl)) hj1)
 exact ax 0 (ar (Zm (r2 [] [ZG zs u] ⟨zs,rfl,rfl,⟨by omega,ZD⟩⟩ (Zc.forget _ _))))
theorem DI (rt:YA) (b:Z7) (hp:rt.params.length<=4294967296:=by exact ob) (hl:rt.lent.length<=4294967296:=by exact ob):Zo 155 [JI rt,Yn b] [] (Ym (JI (YA.mk rt.params rt.lent rt.result b))):=by
 refine ZE 15 Tryz.func155 (ar (iA (Jo rt) fun b1=>iA (XV b) fun b2=>iA [nl,nl,.i 0,nl,.i 0] fun b3=>ie (aD 11 (ZY 4 11 [0,1,3,4,6,7,8] [2,2,2,1] (Z8 2 (dc 2 [] [1,2,2] [b2,b1,b1] (WP rt.params) ?_))))))
 rintro _ _ ⟨v1,rfl,rfl⟩
 refine Z8 5 (dc 5 [] [1,2] [b2,b1] (WP rt.lent) ?_)
 rintro _ _ ⟨v2,rfl,rfl⟩
 exact Zs 1 2 [9] (Z8 10 (YT 10 2 [] [] b3 [ZG rt.params v1,ZG rt.lent v2,.i rt.result,Vj b.steps,.i b.result] (de (at_ (r3 [] [.agg [ZG rt.params v1,ZG rt.lent v2,.i rt.result,Vj b.steps,.i b.result]] [0] [(b3,b3)] ⟨rfl,rfl⟩ (Zc.agg (.cons (Zc.sl _ (Yj Z6 ob)) (.cons (Zc.sl _ (Yj Z6 ob)) (.cons li (.cons (Zc.sl _ (Yj ZT ob)) (.cons li .nil)))))))))))
theorem Z6e (n:ZF) (us:LI) (fds:LI) (kd:Z7) (os:LI) (ls:LI) (mm:Nat) (bb:Nat) (hn:Xs n:=by exact ob) (hf:fB n.decls n.routines.length (mm+fds.length) kd:=by exact ob) (hop:Vk WJ kd:=by exact ob) (hul:us.length=mm:=by exact ob) (hfl:fds.length<=3:=by exact ob) (hm:mm+3+4*kd.sz<=100000:=by exact ob) (hor:∀v∈os,0<=v/\v<(mm:Int)) (hol:os.length+3+4*kd.sz<=730:=by exact ob) (hal:ls.length+2000*kd.sz<=1000000:=by exact ob) (hbz:kd.sz<=500:=by exact ob) (hb:kd.sz<bb:=by exact ob) (ih:∀(us2:LI) (b2:Z7) (os2:LI) (as2:LI) (m2:Nat),(fB n.decls n.routines.length m2 b2)->(Vk WJ b2)->(us2.length=m2)->(m2+4*b2.sz<=100000)->(∀v∈os2,0<=v/\v<(m2:Int))->(os2.length+4*b2.sz<=730)->(as2.length+2000*b2.sz<=1000000)->(b2.sz<=500)->(b2.sz<bb)->Zo 186 [YD n,Z3 us2,Yn b2,Z3 os2,Z3 as2] [] (fun r h=>∃(y:Z7),r=Yn y/\h=[]/\KB n.decls n.routines.length m2 y (4500*b2.sz))):Zo 251 [YD n,Z3 us,Z3 fds,Yn kd,Z3 os,Z3 ls] [] (fun r h=>∃(y:Z7),r=Yn y/\h=[]/\KB n.decls n.routines.length (mm+fds.length) y (4500*kd.sz+1470)):=by
 refine ZE 115 Tryz.func251 (ar (iA (X6 n) fun b1=>iA (XV kd) fun b2=>iA [nl,.i 0] fun b3=>ie (Ya 1 (iw (Yc us) (Z1 (Ya 2 (ic [] (Tt us fds) ?_)))))))
 rintro _ _ ⟨v1,rfl,rfl⟩
 refine Z1 (Zp 2 [2] (io (.i (((us++fds).length:Nat):Int)) (.i (((Z6 (us++fds)).length:Nat):Int)) (li (by rw [Yc])) (Zt [] (Sx kd (((us++fds).length:Nat):Int)) ?_)))
 have hub:=Hg (n:=(((us++fds).length:Nat):Int)) kd []
 simp only [X7,Wk] at hub
 refine Z1 (ar (iL (Z6 []) 0 1 fun v2=>Z1 (ar (iL (Z6 []) 0 1 fun v3=>?_))))
 refine Z1 (Y6 (ab 0 (Y5 (fun fz gz m F h=>∃(k:Nat) (ms:LI) (u:Value) (dr:LI) (w:Value),(k<=os.length)/\(ms.length<=k)/\(dr.length<=k)/\(∀v∈ms,0<=v/\v<(mm:Int))/\(∀v∈dr,0<=v/\v<(mm:Int))/\F=sF [2,4,5,6,9,12,13,15] fz [(14,Z3 (us++fds)),(16,ZG ms u),(17,ZG dr w),(18,.i k)]/\h=[Zi gz 3,Zi gz 4,Zi gz 5,.tail u 1,.tail w 1]/\m=os.length-k) _ _ _ ⟨0,[],v2,[],v3,ob,ob,ob,(fun v hv=>by cases hv),(fun v hv=>by cases hv),rfl,rfl,rfl⟩ (wk [3,3,3,1,0] (fc (x:=ZG (us++fds) v1) (Zc.forget _ _) (fw (Ye fl)))) ?_)))
 rintro m F h ⟨k,ms,u,dr,w,Yl,Zj,ZD,YL,Wg,rfl,rfl,rfl⟩
 refine YO 2 (iw (Yc os) (Y0 ((k:Int)<(os.length:Int)) (fun Z9=>?_) (fun Z9=>?_)))
 ·obtain ⟨o1,ho1⟩:=Zv os k om
  have hor1:=hor o1 (Y4 ho1)
  refine ak (aq (ab 1 (Ya 3 (Zq (Zk none (k:Int) 1 (Y7 ho1)) (Z0 1 (Zt [] (UE (UQ (((us++fds).length:Nat):Int) kd []) o1) (Xn [2,4,5,6,9,12,13,14,15,16,17,18] [(53,.b ((decide (o1∈(UQ (((us++fds).length:Nat):Int) kd [])))||(decide (o1∈ls))))] (fun gz=>gz) ?_ ?_)))))))
  ·refine Z0 1 (ib (b:=(decide (o1∈(UQ (((us++fds).length:Nat):Int) kd [])))) 46 (fun Za=>?_) (fun Za=>?_))
   ·exact Z1 (Zw 5 (Zf true Za fl))
   exact Z0 3 (Zq (Zk none (k:Int) 1 (Y7 ho1)) (Z0 1 (Zt [] (UE ls o1) (Z1 (Zw 5 (Zf (decide (o1∈ls)) Za fl))))))
  refine ac ((decide (o1∈(UQ (((us++fds).length:Nat):Int) kd [])))||(decide (o1∈ls))) (p:=(o1∈(UQ (((us++fds).length:Nat):Int) kd []))∨(o1∈ls)) (ZB dq dq) (fun Zh=>?_) (fun Zh=>?_)
  ·exact az (Z0 3 (Zq (Zk none (k:Int) 1 (Y7 ho1)) (Z0 1 (iL (Z6 [o1]) 1 1 fun v4=>ZU 0 [(59,Z3 [o1])] (ip 4 (Z6 (ms++[o1])) (Z6 ms) (Z6 [o1]) u none 1 (YE _) (YE _) (W2 _) (by simp<;>omega) (by simp [W6,Z6]) fun v5=>Z1 (az (Z0 1 (ZK k (Z1 (ZM ⟨k+1,(ms++[o1]),v5,dr,w,ob,ob,ob,(by first|exact YL|exact XD YL hor1),(by first|exact Wg|exact XD Wg hor1),rfl,rfl,rfl⟩ (wk [2,2,2,0,1] (fw (fr (ZW k fl))))))))))))))
  exact az (Z0 3 (Zq (Zk none (k:Int) 1 (Y7 ho1)) (Z0 1 (iL (Z6 [o1]) 1 1 fun v6=>ZU 0 [(66,Z3 [o1])] (ip 5 (Z6 (dr++[o1])) (Z6 dr) (Z6 [o1]) w none 1 (YE _) (YE _) (W2 _) (by simp<;>omega) (by simp [W6,Z6]) fun v7=>Z1 (az (Z0 1 (ZK k (Z1 (ZM ⟨k+1,ms,u,(dr++[o1]),v7,ob,ob,ob,(by first|exact YL|exact XD YL hor1),(by first|exact Wg|exact XD Wg hor1),rfl,rfl,rfl⟩ (wk [2,2,2,2,0] (fw (fr (ZW k fl))))))))))))))
 refine ax 0 (ar (iL (Z6 []) 0 1 fun v8=>?_))
 refine Z1 (Y6 (ab 2 (Y5 (fun fz gz m F h=>∃(k:Nat) (ps:LI) (w2:Value),(k<=fds.length)/\(ps.length<=k)/\(∀v∈ps,(mm:Int)<=v/\v<((mm+fds.length:Nat):Int))/\F=sF [2,5,6,9,12,13,14,15,16,17] fz [(19,ZG ps w2),(20,.i k)]/\h=[Zi gz 1,Zi gz 2,Zi gz 3,Zi gz 4,Zi gz 5,.tail w2 1]/\m=fds.length-k) _ _ _ ⟨0,[],v8,ob,ob,(fun v hv=>by cases hv),rfl,rfl,rfl⟩ (wk [1,1,1,1,1,0] (fr (Ye fl))) ?_)))
 rintro m F h ⟨k,ps,w2,U8,Wf,W0,rfl,rfl,rfl⟩
 refine YO 2 (iw (Yc fds) (Y0 ((k:Int)<(fds.length:Int)) (fun ZC=>?_) (fun ZC=>?_)))
 ·refine ak (aq (ab 3 (Ya 2 ?_)))
  obtain ⟨x1,Z4⟩:=Zv fds k om
  refine Zq (Zk none (k:Int) 1 (Y7 Z4)) (Xn [2,5,6,9,12,13,14,15,16,17,19,20] [(86,.b ((x1 != 0)&&(decide (((us.length+k:Nat):Int)∈(UQ (((us++fds).length:Nat):Int) kd [])))))] (fun gz=>gz) ?_ ?_)
  ·refine Z0 3 (ib (b:=(x1 != 0)) 80 (fun ZA=>?_) (fun ZA=>?_))
   ·exact Z0 3 (ia (((us.length+k:Nat):Int)) (((us.length:Int))+((k:Int))) (Zt [] (UE (UQ (((us++fds).length:Nat):Int) kd []) ((us.length+k:Nat):Int)) (Z1 (Zw 6 (Zf (decide (((us.length+k:Nat):Int)∈(UQ (((us++fds).length:Nat):Int) kd []))) ZA fl)))))
   exact Z1 (Zw 6 (Zf false ZA fl))
  refine ac ((x1 != 0)&&(decide (((us.length+k:Nat):Int)∈(UQ (((us++fds).length:Nat):Int) kd [])))) (p:=(x1≠0)/\(((us.length+k:Nat):Int)∈(UQ (((us++fds).length:Nat):Int) kd []))) (Y2 Yi dq) (fun Yh=>?_) (fun Yh=>?_)
  ·exact az (Z0 3 (ia (((us.length+k:Nat):Int)) (((us.length:Int))+((k:Int))) (iL (Z6 [((us.length+k:Nat):Int)]) 1 1 fun v9=>ZU 0 [(91,Z3 [((us.length+k:Nat):Int)])] (ip 6 (Z6 (ps++[((us.length+k:Nat):Int)])) (Z6 ps) (Z6 [((us.length+k:Nat):Int)]) w2 none 1 (YE _) (YE _) (W2 _) (by simp<;>omega) (by simp [W6,Z6]) fun v10=>Z1 (az (Z0 1 (ZK k (Z1 (ZM ⟨k+1,(ps++[((us.length+k:Nat):Int)]),v10,ob,ob,(by first|exact W0|exact XD W0 om),rfl,rfl,rfl⟩ (wk [2,2,2,2,2,0] (fr (ZW k fl))))))))))))
  exact ak (az (Z0 1 (ZK k (Z1 (ZM ⟨k+1,ps,w2,ob,ob,(by first|exact W0|exact XD W0 om),rfl,rfl,rfl⟩ (Zw 6 (fr (ZW k fl))))))))
 refine ax 2 (ar (ZU 1 [(93,Z3 ps)] (ic [] (Kj 14 ps) ?_)))
 rintro _ _ ⟨v11,rfl,rfl⟩
 refine ZU 1 [(95,Z3 dr)] (ic [] (Kj 15 dr) ?_)
 rintro _ _ ⟨v12,rfl,rfl⟩
 refine ZU 0 [(96,Vj (dr.map (Zx 15)))] (ip 1 (ZT ((ps.map (Zx 14))++(dr.map (Zx 15)))) (ZT (ps.map (Zx 14))) (ZT (dr.map (Zx 15))) v11 none 5 (XE _) (XE _) (Ua _) (by simp<;>omega) (by simp [Vo,ZT]) fun v13=>?_)
 refine Z1 (aD 12 (ZY 5 12 [0,1,2,3,4,6,7] [4,3] (Au (fun fz gz F h=>∃(y1:Z7) (b4:Nat) (zs1:LI),(zs1.length<=ls.length/\∀z∈zs1,z∈ls)/\(KB n.decls n.routines.length (mm+fds.length) y1 (4500*kd.sz))/\F=sF [12,21] fz [(22,.p b4 0)]/\h=[.obj b4 (XV y1),Zi gz 0,Zi gz 1,Zi gz 2,Zi gz 3,Zi gz 4,Zi gz 6,Zi gz 7]) ?_ ?_)))
 ·refine VK 5 10 ?_ ?_
  ·refine dp 5 5 [1,2] [b2,b1] (Z6 (ms++ps)) (Z6 ms) (Z6 ps) u (some w2) 1 (YE _) (YE _) (W2 _) (by simp<;>omega) (by simp [W6,Z6]) fun v14=>VK 8 10 ?_ ?_
   ·refine dc 8 [] [1,2] [b2,b1] (IA ls (us.length:Int)) ?_
    rintro _ _ ⟨zs1,v15,rfl,rfl,Xe⟩
    have hbl:=Xe
    refine Yv 3 3 [] [(103,Z3 (ms++ps)),(106,Z3 zs1)] (VK 9 10 ?_ ?_)
    ·refine dc 9 [] [] [] (ih (us++fds) kd (ms++ps) zs1 (mm+fds.length) hf hop (by rw [Ys,hul]) ob (fun v hv=>by rcases Xm.1 hv with h|h;exact (by have:=YL v h;omega);exact (by have:=W0 v h;omega)) (by rw [Ys];omega) ob ob ob) ?_
     rintro _ _ ⟨y1,rfl,rfl,XO⟩
     have hkb:=XO
     have hkl:=hkb.len
     exact Z8 10 (dA 10 [] [] [nl,.i 0] fun b4=>Z8 11 (YT 11 0 [] [] b4 (XV y1) (de (ZH ⟨_,b4,_,(by assumption),(by assumption),rfl,rfl⟩ (wk [0,2,2,2,2,2,2,2] fl)))))
    refine dA 10 [1,2] [b2,b1] [nl,.i 0] fun b5=>Z8 9 (dc 9 [] [] [] (ih (us++fds) kd (ms++ps) zs1 (mm+fds.length) hf hop (by rw [Ys,hul]) ob (fun v hv=>by rcases Xm.1 hv with h|h;exact (by have:=YL v h;omega);exact (by have:=W0 v h;omega)) (by rw [Ys];omega) ob ob ob) ?_)
    rintro _ _ ⟨y2,rfl,rfl,W9⟩
    have hkb:=W9
    have hkl:=hkb.len
    exact Z8 11 (YT 11 0 [] [] b5 (XV y2) (de (ZH ⟨_,b5,_,(by assumption),(by assumption),rfl,rfl⟩ (wk [0,2,2,2,2,2,2,2] fl))))
   refine dA 10 [1,2] [b2,b1] [nl,.i 0] fun b6=>Z8 8 (dc 8 [] [2,3] [b2,b1] (IA ls (us.length:Int)) ?_)
   rintro _ _ ⟨zs2,v16,rfl,rfl,WB⟩
   have hbl:=WB
   refine Yv 2 2 [] [(103,Z3 (ms++ps)),(106,Z3 zs2)] (Z8 9 (dc 9 [] [] [] (ih (us++fds) kd (ms++ps) zs2 (mm+fds.length) hf hop (by rw [Ys,hul]) ob (fun v hv=>by rcases Xm.1 hv with h|h;exact (by have:=YL v h;omega);exact (by have:=W0 v h;omega)) (by rw [Ys];omega) ob ob ob) ?_))
   rintro _ _ ⟨y3,rfl,rfl,WY⟩
   have hkb:=WY
   have hkl:=hkb.len
   exact Z8 11 (YT 11 1 [] [] b6 (XV y3) (de (ZH ⟨_,b6,_,(by assumption),(by assumption),rfl,rfl⟩ (wk [0,2,2,2,2,2,2,2] fl))))
  refine dA 10 [1,2] [b2,b1] [nl,.i 0] fun b7=>Yv 4 4 [] [(102,Z3 ps)] (Z8 5 (dp 5 6 [2,3] [b2,b1] (Z6 (ms++ps)) (Z6 ms) (Z6 ps) u none 1 (YE _) (YE _) (W2 _) (by simp<;>omega) (by simp [W6,Z6]) fun v17=>Z8 8 (dc 8 [] [2,3] [b2,b1] (IA ls (us.length:Int)) ?_)))
  rintro _ _ ⟨zs3,v18,rfl,rfl,U5⟩
  have hbl:=U5
  refine Yv 2 2 [] [(103,Z3 (ms++ps)),(106,Z3 zs3)] (Z8 9 (dc 9 [] [] [] (ih (us++fds) kd (ms++ps) zs3 (mm+fds.length) hf hop (by rw [Ys,hul]) ob (fun v hv=>by rcases Xm.1 hv with h|h;exact (by have:=YL v h;omega);exact (by have:=W0 v h;omega)) (by rw [Ys];omega) ob ob ob) ?_))
  rintro _ _ ⟨y4,rfl,rfl,Uy⟩
  have hkb:=Uy
  have hkl:=hkb.len
  exact Z8 11 (YT 11 2 [] [] b7 (XV y4) (de (ZH ⟨_,b7,_,(by assumption),(by assumption),rfl,rfl⟩ (wk [0,2,2,2,2,2,2,2] fl))))
 rintro F h ⟨y1,b4,zs1,Xe,XO,rfl,rfl⟩
 have hbl:=Xe
 have hkb:=XO
 have hkl:=hkb.len
 exact aD 8 (ZY 3 8 [0,1,2,4,5] [0,0] (Z8 3 (dp 3 1 [0] [b4] (ZT (((ps.map (Zx 14))++(dr.map (Zx 15)))++y1.steps)) (ZT ((ps.map (Zx 14))++(dr.map (Zx 15)))) (ZT y1.steps) v13 none 5 (XE _) (XE _) (Ua _) (by simp<;>omega) (by simp [Vo,ZT]) fun v19=>Zs 1 2 [6] (Z8 7 (YT 7 3 [] [] b3 [Xh (((ps.map (Zx 14))++(dr.map (Zx 15)))++y1.steps) v19,.i y1.result] (de (at_ (r3 [] [.agg [Xh (((ps.map (Zx 14))++(dr.map (Zx 15)))++y1.steps) v19,.i y1.result]] [0] [(b3,b3)] ⟨(Z7.mk (((ps.map (Zx 14))++(dr.map (Zx 15)))++y1.steps) y1.result),rfl,rfl,((hkb.put (fun v hv=>by have:=W0 v hv;omega) (fun v hv=>by have:=Wg v hv;omega)).le om)⟩ (Zc.agg (.cons (Zc.forget _ _) (.cons (lr _) .nil)))))))))))
theorem Z6f (n:ZF) (us:LI) (s:Z5) (os:LI) (ls:LI) (mm:Nat) (bb:Nat) (hn:Xs n:=by exact ob) (hf:FS n.decls n.routines.length mm s:=by exact ob) (h11:s.op<=11:=by exact ob) (hop:QO WJ s.kids:=by exact ob) (hul:us.length=mm:=by exact ob) (hm:mm+4*s.sz<=100000:=by exact ob) (hor:∀v∈os,0<=v/\v<(mm:Int)) (hol:os.length+4*s.sz<=730:=by exact ob) (hal:ls.length+2000*s.sz<=1000000:=by exact ob) (hbz:s.sz<=500:=by exact ob) (hb:s.sz<=bb:=by exact ob) (ih:∀(us2:LI) (b2:Z7) (os2:LI) (as2:LI) (m2:Nat),(fB n.decls n.routines.length m2 b2)->(Vk WJ b2)->(us2.length=m2)->(m2+4*b2.sz<=100000)->(∀v∈os2,0<=v/\v<(m2:Int))->(os2.length+4*b2.sz<=730)->(as2.length+2000*b2.sz<=1000000)->(b2.sz<=500)->(b2.sz<bb)->Zo 186 [YD n,Z3 us2,Yn b2,Z3 os2,Z3 as2] [] (fun r h=>∃(y:Z7),r=Yn y/\h=[]/\KB n.decls n.routines.length m2 y (4500*b2.sz))):Zo 221 [YD n,Z3 us,X4 s,Z3 os,Z3 ls] [] (fun r h=>∃(y:Z5),r=X4 y/\h=[]/\KT n.decls n.routines.length mm y (4500*YW s.kids+4420)):=by
 have Xo:=hn.decls
 have hkf:=hf.few Xo
 have hsa:=hf.alen
 refine ZE 62 Tryz.func221 (ar (iA (X6 n) fun b1=>iA (Wb s) fun b2=>iA [.i 0,.i 0,.i 0,nl,nl] fun b3=>ie (ar (iL (XP []) 0 2 fun v1=>Z1 (Zp 4 [3,2] (ic [] (KR n.decls s.num) ?_))))))
 rintro _ _ ⟨v2,rfl,rfl⟩
 refine Z1 (Y6 (ab 0 (Y5 (fun fz gz m F h=>∃(k:Nat) (ks:List Z7) (u:Value),(k<=s.kids.length)/\(ks.length=k)/\(KK n.decls n.routines.length (WQ n.decls s.op s.num mm) ks (4500*YW (s.kids.take k)+1470*k))/\F=sF [1,3,4,5,7,10] fz [(11,Q9 ks u),(12,Z3 (ZX n.decls s.num)),(13,.i k)]/\h=[Zi gz 2,Zi gz 3,Zi gz 4,.tail u 2]/\m=s.kids.length-k) _ _ _ ⟨0,[],v1,ob,ob,(KK.nil.le (Te _)),rfl,rfl,rfl⟩ (wk [2,2,2,1] (fr (fc (x:=ZG (ZX n.decls s.num) v2) (Zc.forget _ _) (Ye fl)))) ?_)))
 rintro m F h ⟨k,ks,u,Yl,Zj,ZD,rfl,rfl,rfl⟩
 refine Yr 3 [1] (iw (K3 s.kids) (Y0 ((k:Int)<(s.kids.length:Int)) (fun Z9=>?_) (fun Z9=>?_)))
 ·refine ak (aq (ab 1 (ar (iL (Z6 []) 0 1 fun v3=>?_))))
  refine Z1 (Xa (WI [2] (Xu (fun fz gz F h=>∃(fds:LI),(WQ n.decls s.op s.num mm k=mm+fds.length)/\(fds.length<=3)/\F=sF [1,3,4,5,7,10,11,12,13] fz [(14,Z3 fds)]/\h=[Zi gz 1,Zi gz 2,Zi gz 3,Zi gz 4]) ?_ ?_)))
  ·refine ac (s.op==8) Zb (fun Zh=>?_) (fun Zh=>?_)
   ·refine aE 8 (ZY 4 8 [0,1,2,3] [3] ?_)
    obtain ⟨x1,Z4⟩:=Zv (ZX n.decls s.num) k (by have:=hf.k8 (by assumption);omega)
    have hcf:=Ve Xo x1
    exact dx 4 (Zk none (k:Int) 1 (Y7 Z4)) (Zs 2 3 [5] (Z8 6 (YF 6 [] [] [] (Qa n.decls x1) (Zs 0 1 [7] (de (ZH ⟨ZQ n.decls x1,(LR (by assumption) Z4),ob,rfl,rfl⟩ (wk [1,1,1,1] fl)))))))
   exact ak (ZH ⟨[],(by rw [LS (by assumption)];rfl),ob,rfl,rfl⟩ (wk [1,1,1,1] fl))
  rintro F h ⟨fds,Vy,AN,rfl,rfl⟩
  refine aE 15 (ZY 8 15 [0,1,2,3,4,5,6] [2,1] ?_)
  obtain ⟨x2,Zy⟩:=Zv s.kids k om
  have hkz:=Q7 Zy
  have hfk:=Bj hf.kids Zy
  rw [Wk,Vy] at hfk
  have hok:=Dw.1 hop x2 (Y4 Zy)
  have hbt:=Ft Zy
  have hba:=Fu Zy
  refine dx 7 (Zk none (k:Int) 2 (UK Zy)) (Zs 4 7 [8,9,10] (Z8 11 (dc 11 [] [] [] (Z6e n us fds x2 os ls mm bb (hf:=hfk) (hop:=hok) (hor:=hor) (ih:=ih)) ?_)))
  rintro _ _ ⟨y1,rfl,rfl,Y3⟩
  have hkb:=Y3
  exact Z8 12 (Wz 12 [] [] [Yn y1] (XP [y1]) (QC [y1]).symm 1 2 fun v4=>Yv 2 2 [] [(51,Js [y1])] (Z8 13 (dp 13 4 [] [] (XP (ks++[y1])) (XP ks) (XP [y1]) u none 2 (Kx _) (Kx _) (FE _) (by simp<;>omega) (by simp [C8,XP]) fun v5=>Zs 0 1 [14] (de (az (Z0 1 (ZK k (Z1 (ZM ⟨k+1,(ks++[y1]),v5,ob,ob,((ZD.snoc Zj (by rw [Vy];exact hkb)).le om),rfl,rfl,rfl⟩ (wk [2,2,2,0] (fw (ZW k fl))))))))))))
 refine ax 0 (aD 10 (ZY 3 10 [0,1,2,3,4,5,7] [1,1,1] (Z8 6 (dc 6 [] [1,1] [b2,b2] (WP s.args) ?_))))
 rintro _ _ ⟨v6,rfl,rfl⟩
 exact Zs 1 2 [8] (Z8 9 (YT 9 1 [] [] b3 [.i s.op,.i s.num,.i 0,ZG s.args v6,Q9 ks u] (de (at_ (r3 [] [.agg [.i s.op,.i s.num,.i 0,ZG s.args v6,Q9 ks u]] [0] [(b3,b3)] ⟨(Z5.mk s.op s.num 0 s.args ks),rfl,rfl,((KT.of (into:=0) hf h11 om om ZD).le (by have:=HR (xs:=s.kids) (k:=k) om;omega))⟩ (Zc.agg (.cons (lr _) (.cons (lr _) (.cons (lr _) (.cons (Zc.forget _ _) (.cons (Zc.forget _ _) .nil)))))))))))
theorem Z6c (n:ZF) (us:LI) (b:Z7) (os:LI) (ls:LI) (mm:Nat) (hn:Xs n) (hf:fB n.decls n.routines.length mm b) (hop:Vk WJ b) (hul:us.length=mm) (hm:mm+4*b.sz<=100000) (hor:∀v∈os,0<=v/\v<(mm:Int)) (hol:os.length+4*b.sz<=730) (hal:ls.length+2000*b.sz<=1000000) (hbz:b.sz<=500) (ih:∀(us2:LI) (b2:Z7) (os2:LI) (as2:LI) (m2:Nat),(fB n.decls n.routines.length m2 b2)->(Vk WJ b2)->(us2.length=m2)->(m2+4*b2.sz<=100000)->(∀v∈os2,0<=v/\v<(m2:Int))->(os2.length+4*b2.sz<=730)->(as2.length+2000*b2.sz<=1000000)->(b2.sz<=500)->(b2.sz<b.sz)->Zo 186 [YD n,Z3 us2,Yn b2,Z3 os2,Z3 as2] [] (fun r h=>∃(y:Z7),r=Yn y/\h=[]/\KB n.decls n.routines.length m2 y (4500*b2.sz))):Zo 186 [YD n,Z3 us,Yn b,Z3 os,Z3 ls] [] (fun r h=>∃(y:Z7),r=Yn y/\h=[]/\KB n.decls n.routines.length mm y (4500*b.sz)):=by
 have Xo:=hn.decls
 have hbe:=b.sz_eq
 have ZL:=Un b
 obtain ⟨hfs,hr1,hr2⟩:=(Kz b).1 hf
 have hos:=Cy.1 ((Gx b).1 hop)
 have hdn:=I2 hos
 have hdl:=hdn b.steps.length (X9 _)
 rw [Uk] at hdl
 refine ZE 149 Tryz.func186 (ar (iA (X6 n) fun b1=>iA (XV b) fun b2=>iA [nl,.i 0] fun b3=>ie (ar (iL (ZT []) 0 5 fun v1=>Z1 (Ya 1 (ic [] (WP us) ?_))))))
 rintro _ _ ⟨v2,rfl,rfl⟩
 refine Z1 (Ya 1 (ic [] (WP os) ?_))
 rintro _ _ ⟨v3,rfl,rfl⟩
 refine Z1 (Y6 (ab 0 (Y5 (fun fz gz m F h=>∃(k:Nat) (vs:LI) (w:Value) (ms:LI) (u:Value) (xs:List Z5) (v:Value),(k<=b.steps.length)/\(vs.length=mm+k)/\(CL n.decls n.routines.length mm xs k (4500*Yu (b.steps.take k)))/\(ms.length<=os.length+k)/\(∀v∈ms,0<=v/\v<((mm+k:Nat):Int))/\F=sF [4,5,7,10] fz [(11,Xh xs v),(12,ZG vs w),(13,ZG ms u),(14,.i k)]/\h=[Zi gz 3,Zi gz 4,Zi gz 5,.tail u 1,.tail v 5,.tail w 1]/\m=b.steps.length-k) _ _ _ ⟨0,us,v2,os,v3,[],v1,ob,ob,CL.nil,ob,hor,rfl,rfl,rfl⟩ (wk [3,3,3,0,1,0] (fw (fr (Ye fl)))) ?_)))
 rintro m F h ⟨k,vs,w,ms,u,xs,v,Yl,Zj,ZD,YL,Wg,rfl,rfl,rfl⟩
 refine Yr 3 [1] (iw (Ut b.steps) (Y0 ((k:Int)<(b.steps.length:Int)) (fun Z9=>?_) (fun Z9=>?_)))
 ·refine ak (aq (ab 1 (Zp 3 [1] ?_)))
  obtain ⟨x1,Z4⟩:=Zv b.steps k om
  have Xx:=CE Z4
  have hfS:=(AE x1).1 (Da hfs Z4)
  rw [hdn k om] at hfS
  have hoS:=(EI x1).1 (hos x1 (Y4 Z4))
  have htk:=H8 Z4
  have hse:=(x1).sz_eq
  have hal4:=hfS.alen
  have hxl:=ZD.len
  have htl:=Kl b.steps (k+1)
  have hsd:=SF b.steps (k+1)
  have hul2:=Mh (n:=((vs.length+1:Nat):Int)) (b.steps.drop (k+1)) []
  have hul3:=Hh (n:=((vs.length+1:Nat):Int)) (UR ((vs.length+1:Nat):Int) (b.steps.drop (k+1)) []) b.result
  simp only [X7,Wk] at hul2
  refine Zq (Zk none (k:Int) 5 (V2 Z4)) (Z0 1 (iA [.i 0,.i 0,.i 0,nl,nl] fun b4=>Zz 0 b4 (Wb x1) (ie (Ya 1 (iw (Yc vs) (Z1 (ar (Kg 3 [(41,Z3 vs)] [3,0] (Zt [] (M2 n vs x1 ob ob) (Z1 (Zp 2 [2] (ia (((vs.length+1:Nat):Int)) (((vs.length:Int))+(1)) (Z0 1 (ZK k (iL (Z6 []) 0 1 fun v4=>ZU 0 [(49,Z3 [])] (Zt [] (Sh b ((vs.length+1:Nat):Int) (k+1) [] (hk:=om) (hz:=(by simp only [X7];omega))) (Z0 1 (ic [] (Z7n (UF ((vs.length+1:Nat):Int) (UR ((vs.length+1:Nat):Int) (b.steps.drop (k+1)) []) b.result) ls) ?_))))))))))))))))))
  rintro _ _ ⟨zs1,rfl,rfl,Y3⟩
  have hun:=Y3
  refine Z1 (ar (Kg 6 [(55,Z3 vs),(57,Z3 ms)] [4,1] (ic [] (Z6j n vs x1 ms zs1 (mm+k) (hf:=hfS)) ?_)))
  rintro _ _ ⟨zs2,rfl,rfl,Yq⟩
  have hdu:=Yq
  have hq1:=ZD.cnts (op:=14) (.inl rfl) (vs:=zs2) (fun v hv=>hfS.args v (hdu.2 v hv))
  have hl1:=hq1.len
  refine ic [] (Kj 14 zs2) ?_
  rintro _ _ ⟨v5,rfl,rfl⟩
  refine ZU 0 [(60,Vj (zs2.map (Zx 14)))] (ip 7 (ZT (xs++(zs2.map (Zx 14)))) (ZT xs) (ZT (zs2.map (Zx 14))) v none 5 (XE _) (XE _) (Ua _) (by simp<;>omega) (by simp [Vo,ZT]) fun v6=>Z1 (ar (Kg 6 [(64,Z3 vs),(66,Z3 ms)] [6,3] (ic [] (Z6f n vs x1 ms zs1 (mm+k) b.sz (hf:=hfS) (h11:=hoS.1) (hop:=hoS.2) (hor:=Wg) (ih:=ih)) ?_))))
  rintro _ _ ⟨y1,rfl,rfl,YR⟩
  have hkt:=YR
  have hq2:=hq1.kt hkt
  have hl2:=hq2.len
  refine UA [X4 y1] (ZT [y1]) (VV [y1]).symm 1 5 fun v7=>ZU 0 [(69,Vj [y1])] (ip 1 (ZT ((xs++(zs2.map (Zx 14)))++[y1])) (ZT (xs++(zs2.map (Zx 14)))) (ZT [y1]) v6 none 5 (XE _) (XE _) (Ua _) (by simp<;>omega) (by simp [Vo,ZT]) fun v8=>Z1 (ar (Kg 5 [(72,Z3 vs),(74,Z3 ms)] [7,4] (ic [] (Z6y n vs x1 ms zs1 (mm+k) (hf:=hfS)) ?_))))
  rintro _ _ ⟨zs3,v9,rfl,rfl,X1⟩
  have hla:=X1
  refine Z1 (ar (Kg 4 [(79,Z3 zs3)] [8,5] (ic [] (Z6z n x1 zs3 zs1 (mm+k) (hf:=hfS)) ?_)))
  rintro _ _ ⟨zs4,rfl,rfl,Xe⟩
  have hld:=Xe
  have hq3:=hq2.cnts (op:=15) (.inr rfl) (vs:=zs4) (fun v hv=>by have:=hfS.args v (hld.2 v hv);omega)
  have hl3:=hq3.len
  refine Z1 (Ya 2 (ic [] (Kj 15 zs4) ?_))
  rintro _ _ ⟨v10,rfl,rfl⟩
  refine ZU 0 [(84,Vj (zs4.map (Zx 15)))] (ip 2 (ZT (((xs++(zs2.map (Zx 14)))++[y1])++(zs4.map (Zx 15)))) (ZT ((xs++(zs2.map (Zx 14)))++[y1])) (ZT (zs4.map (Zx 15))) v8 none 5 (XE _) (XE _) (Ua _) (by simp<;>omega) (by simp [Vo,ZT]) fun v11=>?_)
  refine Z1 (Y6 (ab 2 (Y5 (fun fz gz m F h=>∃(j:Nat) (m3:LI) (u3:Value) (v3:Value) (w3:Value),(j<=zs4.length)/\(m3.length<=os.length+k)/\(∀v∈m3,0<=v/\v<((mm+k:Nat):Int))/\F=sF [4,5,7,10,14,16,17,18,19] fz [(11,Xh (((xs++(zs2.map (Zx 14)))++[y1])++(zs4.map (Zx 15))) v3),(12,ZG vs w3),(13,ZG m3 u3),(20,.i j)]/\h=[Zi gz 7,Zi gz 8,Zi gz 9,.tail u3 1,.tail v3 5,.tail w3 1]/\m=zs4.length-j) _ _ _ ⟨0,zs3,v9,v11,w,ob,ob,(fun v hv=>Wg v (hla.2 v hv)),rfl,rfl,rfl⟩ (wk [7,7,7,2,0,6] (fw (fr (Ye fl)))) ?_)))
  rintro m F h ⟨j,m3,u3,v3,w3,U8,Wf,W0,rfl,rfl,rfl⟩
  refine YO 2 (iw (Yc zs4) (Y0 ((j:Int)<(zs4.length:Int)) (fun Zh=>?_) (fun Zh=>?_)))
  ·refine ak (aq (ab 3 (az (Z0 3 ?_))))
   obtain ⟨x2,Zy⟩:=Zv zs4 j om
   refine Zq (Zk none (j:Int) 1 (Y7 Zy)) (ZU 1 [(92,Z3 m3)] (ic [] (Ot m3 x2) ?_))
   rintro _ _ ⟨v12,rfl,rfl⟩
   exact Z1 (az (Z0 1 (ZK j (Z1 (ZM ⟨j+1,(TO m3 x2),v12,v3,w3,ob,(Vb (EJ _ _) Wf),(fun v hv=>W0 v (Dy hv)),rfl,rfl,rfl⟩ (wk [1,1,1,0,1,1] (fw (fr (ZW j fl)))))))))
  refine ax 2 (Ya 2 (iL (Z6 [X0 n vs x1]) 1 1 fun v13=>ZU 0 [(100,Z3 [X0 n vs x1])] (ip 6 (Z6 (vs++[X0 n vs x1])) (Z6 vs) (Z6 [X0 n vs x1]) w3 none 1 (YE _) (YE _) (W2 _) (by simp<;>omega) (by simp [W6,Z6]) fun v14=>Z1 (ar (Xn [4,5,7,10,11,12,13,14,16,17] [(108,.b (((X0 n vs x1) != 0)&&(decide ((vs.length:Int)∈zs1))))] (fun gz=>gz) ?_ ?_)))))
  ·refine Z0 3 (ib (b:=((X0 n vs x1) != 0)) 104 (fun Za=>?_) (fun Za=>?_))
   ·exact Z0 2 (Zt [] (UE zs1 (vs.length:Int)) (Z1 (Zw 7 (Zf (decide ((vs.length:Int)∈zs1)) Za fl))))
   exact Z1 (Zw 7 (Zf false Za fl))
  refine ac (((X0 n vs x1) != 0)&&(decide ((vs.length:Int)∈zs1))) (p:=((X0 n vs x1)≠0)/\((vs.length:Int)∈zs1)) (Y2 Yi dq) (fun ZC=>?_) (fun ZC=>?_)
  ·exact az (Z0 2 (iL (Z6 [(vs.length:Int)]) 1 1 fun v15=>ZU 0 [(111,Z3 [(vs.length:Int)])] (ip 6 (Z6 (m3++[(vs.length:Int)])) (Z6 m3) (Z6 [(vs.length:Int)]) u3 none 1 (YE _) (YE _) (W2 _) (by simp<;>omega) (by simp [W6,Z6]) fun v16=>Z1 (az (Z0 1 (ZK k (Z1 (ZM ⟨k+1,(vs++[X0 n vs x1]),v14,(m3++[(vs.length:Int)]),v16,(((xs++(zs2.map (Zx 14)))++[y1])++(zs4.map (Zx 15))),v3,ob,ob,(by first|exact hq3.le om|exact (hq3.cnt (op:=15) (.inr rfl) om).le om),ob,(by first|exact XD (fun v hv=>by have:=W0 v hv;omega) om|exact (fun v hv=>by have:=W0 v hv;omega)),rfl,rfl,rfl⟩ (wk [4,4,4,0,3,1] (fw (fr (ZW k fl))))))))))))
  refine ar (Yz ((X0 n vs x1) != 0) Yi (fun Yh=>?_) (fun Yh=>?_))
  ·exact az (Z0 2 (Zt [] (BH 15 (vs.length:Int)) (UA [X4 (Zx 15 (vs.length:Int))] (ZT [(Zx 15 (vs.length:Int))]) (VV [(Zx 15 (vs.length:Int))]).symm 1 5 fun v17=>ZU 0 [(118,Vj [(Zx 15 (vs.length:Int))])] (ip 7 (ZT ((((xs++(zs2.map (Zx 14)))++[y1])++(zs4.map (Zx 15)))++[(Zx 15 (vs.length:Int))])) (ZT (((xs++(zs2.map (Zx 14)))++[y1])++(zs4.map (Zx 15)))) (ZT [(Zx 15 (vs.length:Int))]) v3 none 5 (XE _) (XE _) (Ua _) (by simp<;>omega) (by simp [Vo,ZT]) fun v18=>Z1 (az (Z0 1 (ZK k (Z1 (ZM ⟨k+1,(vs++[X0 n vs x1]),v14,m3,u3,((((xs++(zs2.map (Zx 14)))++[y1])++(zs4.map (Zx 15)))++[(Zx 15 (vs.length:Int))]),v18,ob,ob,(by first|exact hq3.le om|exact (hq3.cnt (op:=15) (.inr rfl) om).le om),ob,(by first|exact XD (fun v hv=>by have:=W0 v hv;omega) om|exact (fun v hv=>by have:=W0 v hv;omega)),rfl,rfl,rfl⟩ (wk [4,4,4,4,0,1] (fw (fr (ZW k fl)))))))))))))
  exact ak (az (Z0 1 (ZK k (Z1 (ZM ⟨k+1,(vs++[X0 n vs x1]),v14,m3,u3,(((xs++(zs2.map (Zx 14)))++[y1])++(zs4.map (Zx 15))),v3,ob,ob,(by first|exact hq3.le om|exact (hq3.cnt (op:=15) (.inr rfl) om).le om),ob,(by first|exact XD (fun v hv=>by have:=W0 v hv;omega) om|exact (fun v hv=>by have:=W0 v hv;omega)),rfl,rfl,rfl⟩ (wk [2,2,2,2,2,0] (fw (fr (ZW k fl)))))))))
 have hxl:=ZD.len
 have htl:=Kl b.steps k
 refine ax 0 (Yr 3 [1] ?_)
 obtain ⟨x3,YX⟩:=Zv vs b.result.toNat om
 refine Zq (Zk (some w) b.result 1 (Y7 YX)) (Xn [7,10,11] [(138,.b ((x3 != 0)&&((decide (b.result∈ls))||(!(decide (b.result∈ms))))))] (fun gz=>gz) ?_ ?_)
 ·refine Z0 3 (ib (b:=(x3 != 0)) 126 (fun ZA=>?_) (fun ZA=>?_))
  ·refine Zu 3 [1] (Zt [] (UE ls b.result) (Z0 1 (ib (b:=(decide (b.result∈ls))) 131 (fun Yf=>?_) (fun Yf=>?_))))
   ·exact Z1 (Zw 6 (Zf true (And.intro ZA Yf) fl))
   exact Kg 3 [(132,Z3 ms)] [1] (Zt [] (UE ms b.result) (Z1 (Zw 6 (Zf (!(decide (b.result∈ms))) (And.intro ZA Yf) fl))))
  exact Z1 (Zw 6 (Zf false ZA fl))
 refine ac ((x3 != 0)&&((decide (b.result∈ls))||(!(decide (b.result∈ms))))) (p:=(x3≠0)/\((b.result∈ls)∨(¬(b.result∈ms)))) (Y2 Yi (ZB dq (Yg dq))) (fun YJ=>?_) (fun YJ=>?_)
 ·exact az (Zu 3 [1] (Zt [] (BH 14 b.result) (UA [X4 (Zx 14 b.result)] (ZT [Zx 14 b.result]) (VV [Zx 14 b.result]).symm 1 5 fun v19=>ZU 0 [(143,Vj [Zx 14 b.result])] (ip 5 (ZT (xs++[Zx 14 b.result])) (ZT xs) (ZT [Zx 14 b.result]) v none 5 (XE _) (XE _) (Ua _) (by simp<;>omega) (by simp [Vo,ZT]) fun v20=>Z1 (Zp 4 [3] (Zz 2 b3 [Xh (xs++[Zx 14 b.result]) v20,.i b.result] (ie (at_ (r3 [] [.agg [Xh (xs++[Zx 14 b.result]) v20,.i b.result]] [0] [(b3,b3)] ⟨(Z7.mk (xs++[Zx 14 b.result]) b.result),rfl,rfl,(((ZD.cnt (op:=14) (.inl rfl) om).block om).le (by have:=Kl b.steps k;omega))⟩ (Zc.agg (.cons (Zc.forget _ _) (.cons (lr _) .nil))))))))))))
 exact ak (Zp 4 [1] (Zz 0 b3 [Xh xs v,.i b.result] (ie (at_ (r3 [] [.agg [Xh xs v,.i b.result]] [0] [(b3,b3)] ⟨(Z7.mk xs b.result),rfl,rfl,((ZD.block om).le (by have:=Kl b.steps k;omega))⟩ (Zc.agg (.cons (Zc.forget _ _) (.cons (lr _) .nil))))))))
theorem Z6b (n:ZF) (us:LI) (b:Z7) (os:LI) (ls:LI) (mm:Nat) (hn:Xs n:=by exact ob) (hf:fB n.decls n.routines.length mm b:=by exact ob) (hop:Vk WJ b:=by exact ob) (hul:us.length=mm:=by exact ob) (hm:mm+4*b.sz<=100000:=by exact ob) (hor:∀v∈os,0<=v/\v<(mm:Int)) (hol:os.length+4*b.sz<=730:=by exact ob) (hal:ls.length+2000*b.sz<=1000000:=by exact ob) (hbz:b.sz<=500:=by exact ob):Zo 186 [YD n,Z3 us,Yn b,Z3 os,Z3 ls] [] (fun r h=>∃(y:Z7),r=Yn y/\h=[]/\KB n.decls n.routines.length mm y (4500*b.sz)):=by
 have key:∀k:Nat,∀(us2:LI) (b2:Z7) (os2:LI) (as2:LI) (m2:Nat),(fB n.decls n.routines.length m2 b2)->(Vk WJ b2)->(us2.length=m2)->(m2+4*b2.sz<=100000)->(∀v∈os2,0<=v/\v<(m2:Int))->(os2.length+4*b2.sz<=730)->(as2.length+2000*b2.sz<=1000000)->(b2.sz<=500)->(b2.sz<k)->Zo 186 [YD n,Z3 us2,Yn b2,Z3 os2,Z3 as2] [] (fun r h=>∃(y:Z7),r=Yn y/\h=[]/\KB n.decls n.routines.length m2 y (4500*b2.sz)):=by
  intro k
  induction k with
  | zero=>intro us2 b2 os2 as2 m2 h1 h2 h3 h4 h5 h6 h7 h8 h9;omega
  | succ k ih=>intro us2 b2 os2 as2 m2 h1 h2 h3 h4 h5 h6 h7 h8 h9;exact Z6c n us2 b2 os2 as2 m2 hn h1 h2 h3 h4 h5 h6 h7 h8 fun us3 b3 os3 as3 m3 q1 q2 q3 q4 q5 q6 q7 q8 q9=>ih us3 b3 os3 as3 m3 q1 q2 q3 q4 q5 q6 q7 q8 om
 exact key (b.sz+1) us b os ls mm hf hop hul hm hor hol hal hbz om
theorem Z6d (n:ZF) (rt:YA) (qz:Nat) (hn:Xs n:=by exact ob) (hr:RF n.decls n.routines.length qz WJ rt:=by exact ob) (hqz:qz<=181:=by exact ob):Zo 168 [YD n,JI rt] [] (fun r h=>∃(y:Z7),r=Yn y/\h=[]/\KB n.decls n.routines.length rt.params.length y (4500*qz+10)):=by
 have hrp:rt.params.length<=3:=(Th.bd (f:=⟨rt.params,rt.result,default⟩) hr.sig).1
 have hrl:=hr.lent.1
 have hrz:=hr.body.2
 refine ZE 65 Tryz.func168 (ar (iA (X6 n) fun b1=>iA (Jo rt) fun b2=>iA [nl,.i 0] fun b3=>ie (Zp 4 [1,1] (iw (Yc rt.params) (Zt [] (Sx rt.body (rt.params.length:Int)) ?_)))))
 have hub:=Hg (n:=(rt.params.length:Int)) rt.body []
 simp only [X7,Wk] at hub
 refine Z1 (ar (iL (Z6 []) 0 1 fun v1=>Z1 (ar (iL (Z6 []) 0 1 fun v2=>?_))))
 refine Z1 (Y6 (ab 0 (Y5 (fun fz gz m F h=>∃(k:Nat) (os:LI) (u:Value) (dr:LI) (w:Value),(k<=rt.params.length)/\(os.length<=k)/\(dr.length<=k)/\(∀v∈os,0<=v/\v<(rt.params.length:Int))/\(∀v∈dr,0<=v/\v<(rt.params.length:Int))/\F=sF [2,3,4,5] fz [(6,ZG os u),(7,ZG dr w),(8,.i k)]/\h=[Zi gz 2,Zi gz 3,Zi gz 4,.tail u 1,.tail w 1]/\m=rt.params.length-k) _ _ _ ⟨0,[],v1,[],v2,ob,ob,ob,(fun v hv=>by cases hv),(fun v hv=>by cases hv),rfl,rfl,rfl⟩ (wk [2,2,2,1,0] (fw (Ye fl))) ?_)))
 rintro m F h ⟨k,os,u,dr,w,Yl,Zj,ZD,YL,Wg,rfl,rfl,rfl⟩
 refine Yr 3 [1] (iw (Yc rt.params) (Y0 ((k:Int)<(rt.params.length:Int)) (fun Z9=>?_) (fun Z9=>?_)))
 ·refine ak (aq (ab 1 (Zp 3 [1] ?_)))
  obtain ⟨x1,Z4⟩:=Zv rt.params k om
  refine Zq (Zk none (k:Int) 1 (Y7 Z4)) (Xn [2,3,4,5,6,7,8] [(37,.b ((x1 != 0)&&(!(decide ((k:Int)∈rt.lent)))))] (fun gz=>gz) ?_ ?_)
  ·refine Z0 3 (ib (b:=(x1 != 0)) 31 (fun Za=>?_) (fun Za=>?_))
   ·exact Zu 3 [1] (Zt [] (UE rt.lent (k:Int)) (Z1 (Zw 5 (Zf (!(decide ((k:Int)∈rt.lent))) Za fl))))
   exact Z1 (Zw 5 (Zf false Za fl))
  refine ac ((x1 != 0)&&(!(decide ((k:Int)∈rt.lent)))) (p:=(x1≠0)/\(¬((k:Int)∈rt.lent))) (Y2 Yi (Yg dq)) (fun Zh=>?_) (fun Zh=>?_)
  ·refine Ya 2 (Zt [] (UE (UQ (rt.params.length:Int) rt.body []) (k:Int)) (ie (WZ ((k:Int)∈(UQ (rt.params.length:Int) rt.body [])) (fun ZC=>?_) (fun ZC=>?_))))
   ·exact az (Z0 2 (iL (Z6 [(k:Int)]) 1 1 fun v3=>ZU 0 [(43,Z3 [(k:Int)])] (ip 4 (Z6 (os++[(k:Int)])) (Z6 os) (Z6 [(k:Int)]) u none 1 (YE _) (YE _) (W2 _) (by simp<;>omega) (by simp [W6,Z6]) fun v4=>Z1 (az (Z0 1 (ZK k (Z1 (ZM ⟨k+1,(os++[(k:Int)]),v4,dr,w,ob,ob,ob,(by first|exact YL|exact XD YL om),(by first|exact Wg|exact XD Wg om),rfl,rfl,rfl⟩ (wk [2,2,2,0,1] (fw (ZW k fl)))))))))))
   exact az (Z0 2 (iL (Z6 [(k:Int)]) 1 1 fun v5=>ZU 0 [(47,Z3 [(k:Int)])] (ip 5 (Z6 (dr++[(k:Int)])) (Z6 dr) (Z6 [(k:Int)]) w none 1 (YE _) (YE _) (W2 _) (by simp<;>omega) (by simp [W6,Z6]) fun v6=>Z1 (az (Z0 1 (ZK k (Z1 (ZM ⟨k+1,os,u,(dr++[(k:Int)]),v6,ob,ob,ob,(by first|exact YL|exact XD YL om),(by first|exact Wg|exact XD Wg om),rfl,rfl,rfl⟩ (wk [2,2,2,2,0] (fw (ZW k fl)))))))))))
  exact ak (az (Z0 1 (ZK k (Z1 (ZM ⟨k+1,os,u,dr,w,ob,ob,ob,(by first|exact YL|exact XD YL om),(by first|exact Wg|exact XD Wg om),rfl,rfl,rfl⟩ (Zw 5 (fw (ZW k fl))))))))
 refine ax 0 (Zp 6 [2,1,1] (iL (Z6 []) 0 1 fun v7=>ZU 0 [(54,Z3 os),(55,Z3 [])] (ic [] (Z6b n rt.params rt.body os [] rt.params.length (hf:=hr.body.1) (hop:=hr.op) (hor:=YL) (hal:=(by simp only [X7];omega))) ?_)))
 rintro _ _ ⟨y1,rfl,rfl,YR⟩
 have hkb:=YR
 have hkl:=hkb.len
 refine iA [nl,.i 0] fun b4=>Zz 0 b4 (XV y1) (ie (aD 9 (CX 4 9 [0,2,3,5,6] [(57,Z3 dr)] [0,0] (Z8 1 (dc 1 [] [0,0] [b4,b4] (Kj 15 dr) ?_)))))
 rintro _ _ ⟨v8,rfl,rfl⟩
 exact Z8 4 (dp 4 0 [0] [b4] (ZT ((dr.map (Zx 15))++y1.steps)) (ZT (dr.map (Zx 15))) (ZT y1.steps) v8 none 5 (XE _) (XE _) (Ua _) (by simp<;>omega) (by simp [Vo,ZT]) fun v9=>Zs 1 2 [7] (Z8 8 (YT 8 3 [] [] b3 [Xh ((dr.map (Zx 15))++y1.steps) v9,.i y1.result] (de (at_ (r3 [] [.agg [Xh ((dr.map (Zx 15))++y1.steps) v9,.i y1.result]] [0] [(b3,b3)] ⟨(Z7.mk ((dr.map (Zx 15))++y1.steps) y1.result),rfl,rfl,((hkb.put1 (op:=15) (.inr rfl) Wg).le om)⟩ (Zc.agg (.cons (Zc.forget _ _) (.cons (lr _) .nil)))))))))
theorem Z6g (n:ZF) (qz:Nat) (hn:FO n qz WJ:=by exact ob) (hqz:qz<=181:=by exact ob):Zo 148 [YD n] [] (fun r h=>∃(n2:ZF),r=YD n2/\h=[]/\FO n2 (4500*qz+10) Vu):=by
 have hnl:=hn.fn.len
 have Xo:=hn.fn.decls.ok
 have hok:=hn.fn.ok
 refine ZE 36 Tryz.func148 (ar (iA (X6 n) fun b1=>iA [nl,nl] fun b2=>ie (Zp 2 [1] (Zt [] (AW n.decls) (iL (X8 []) 0 5 fun v1=>Z0 1 (iA [nl,nl] fun b3=>?_))))))
 refine Zz 0 b3 [Yd n.decls,WL [] v1] (ie (Y6 (ab 0 (Y5 (fun fz gz m F h=>∃(k:Nat) (rs:List YA) (u:Value),(k<=n.routines.length)/\(rs.length=k)/\(∀r∈rs,RF n.decls n.routines.length (4500*qz+10) Vu r)/\F=sF [1,2,3] fz [(4,.i k)]/\h=[.obj b3 [Yd n.decls,WL rs u],Zi gz 2,Zi gz 3,.tail u 5]/\m=n.routines.length-k) _ _ _ ⟨0,[],v1,ob,ob,(fun r hr=>by cases hr),rfl,rfl,rfl⟩ (wk [0,1,1,0] (Ye fl)) ?_))))
 rintro m F h ⟨k,rs,u,Yl,Zj,ZD,rfl,rfl,rfl⟩
 refine Yr 3 [2] (iw (TJ n.routines) (Y0 ((k:Int)<(n.routines.length:Int)) (fun Z9=>?_) (fun Z9=>?_)))
 ·refine ak (aq (ab 1 (aE 19 (ZY 14 19 [0,1,2,3,4] [0,2] ?_))))
  obtain ⟨x1,Z4⟩:=Zv n.routines k om
  have hrf:=hn.rf (Y4 Z4)
  have hrp:(x1).params.length<=3:=(Th.bd (f:=⟨(x1).params,(x1).result,default⟩) hrf.sig).1
  have hrl:=hrf.lent.1
  have hrz:=hrf.body.2
  refine dx 5 (Zk none (k:Int) 5 (VD Z4)) (ZY 8 13 [6,7,8,9,10] [2,2] (dx 11 (Zk none (k:Int) 5 (VD Z4)) (Zs 6 7 [12] (Z8 13 (dc 13 [] [2,0] [b1,b3] (Z6d n x1 qz (hr:=hrf)) ?_)))))
  rintro _ _ ⟨y1,rfl,rfl,Y3⟩
  have hkb:=Y3
  exact Z8 14 (YF 14 [] [0] [b3] (DI x1 y1 (hp:=om) (hl:=om)) (Z8 15 (dL 15 [0] [b3] (X8 [YA.mk x1.params x1.lent x1.result y1]) 1 5 fun v2=>Yv 3 3 [] [(32,Jt [YA.mk x1.params x1.lent x1.result y1])] (Z8 16 (dp 16 4 [] [] (X8 (rs++[YA.mk x1.params x1.lent x1.result y1])) (X8 rs) (X8 [YA.mk x1.params x1.lent x1.result y1]) u none 5 (T0 _) (T0 _) (Bh _) (by simp<;>omega) (by simp [D6,X8]) fun v3=>Zs 1 2 [17] (Z8 18 (YT 18 2 [] [] b3 [Yd n.decls,WL (rs++[YA.mk x1.params x1.lent x1.result y1]) v3] (de (az (Z0 1 (ZK k (Z1 (ZM ⟨k+1,(rs++[YA.mk x1.params x1.lent x1.result y1]),v3,ob,ob,(XD ZD (by first|exact hrf.with hkb.fb hkb.sz hkb.op|(rw [Z7.eta];exact hrf.with hkb.fb hkb.sz hkb.op))),rfl,rfl,rfl⟩ (wk [0,2,2,0] (ZW k fl)))))))))))))))
 exact ax 0 (Zp 1 [0] (Zz 1 b2 [Yd n.decls,WL rs u] (ie (at_ (r3 [] [.agg [Yd n.decls,WL rs u]] [0] [(b2,b2)] ⟨(ZF.mk n.decls rs),rfl,rfl,(FO.fin hn.fn om ZD).1⟩ (Zc.agg (.cons (lr _) (.cons (Zc.forget _ _) .nil))))))))
theorem Z68 (n:ZF) (us:LI) (s:Z5) (mm:Nat) (hn:Xs n:=by exact ob) (hf:FS n.decls n.routines.length mm s:=by exact ob) (hvl:us.length=mm:=by exact ob) (hm:mm<=100000000:=by exact ob):Zo 189 [YD n,Z3 us,X4 s] [] (fun r h=>∃(zs:LI),r=Z3 zs/\h=[]/\zs.length<=s.args.length/\∀z∈zs,z∈s.args):=by
 have hal:=hf.alen
 refine ZE 31 Tryz.func189 (ar (iA (X6 n) fun b1=>iA (Wb s) fun b2=>Z1 (ar (iL (Z6 []) 0 1 fun v1=>?_))))
 refine Z1 (Y6 (ab 0 (Y5 (fun fz gz m F h=>∃(k:Nat) (zs:LI) (u:Value),(k<=s.args.length)/\(zs.length<=k)/\(∀z∈zs,z∈s.args)/\F=sF [1,3,5] fz [(7,ZG zs u),(8,.i k)]/\h=[Zi gz 1,Zi gz 2,.tail u 1]/\m=s.args.length-k) _ _ _ ⟨0,[],v1,ob,ob,(fun z hz=>by cases hz),rfl,rfl,rfl⟩ (wk [1,1,0] (fr (Ye fl))) ?_)))
 rintro m F h ⟨k,zs,u,Yl,Zj,ZD,rfl,rfl,rfl⟩
 refine Yr 3 [0] (iw (Yc s.args) (Y0 ((k:Int)<(s.args.length:Int)) (fun Z9=>?_) (fun Z9=>?_)))
 ·obtain ⟨a1,ha1⟩:=Zv s.args k om
  have har:=hf.args a1 (Y4 ha1)
  refine ak (aq (ab 1 (Zp 4 [1,0] (Zt [] (H5 n us s k a1 (hnum:=hf.call) (ha:=ha1)) (ie (ac (J7 n us s.op s.num a1 k) Iff.rfl (fun Zh=>?_) (fun Zh=>?_)))))))
  ·exact az (Zu 4 [0] (Zq (Zk none (k:Int) 1 (Y7 ha1)) (Z0 1 (iL (Z6 [a1]) 1 1 fun v2=>ZU 0 [(28,Z3 [a1])] (ip 3 (Z6 (zs++[a1])) (Z6 zs) (Z6 [a1]) u none 1 (YE _) (YE _) (W2 _) (by simp<;>omega) (by simp [W6,Z6]) fun v3=>Z1 (az (Z0 1 (ZK k (Z1 (ZM ⟨k+1,(zs++[a1]),v3,ob,ob,(by first|exact ZD|exact XD ZD (Y4 ha1)),rfl,rfl,rfl⟩ (wk [2,2,0] (fr (ZW k fl)))))))))))))
  exact ak (az (Z0 1 (ZK k (Z1 (ZM ⟨k+1,zs,u,ob,ob,(by first|exact ZD|exact XD ZD (Y4 ha1)),rfl,rfl,rfl⟩ (Zw 3 (fr (ZW k fl))))))))
 exact ax 0 (ar (Zm (r2 [] [ZG zs u] ⟨zs,rfl,rfl,⟨by omega,ZD⟩⟩ (Zc.forget _ _))))
theorem Z6w (n:ZF) (us:LI) (s:Z5) (mm:Nat) (bb:Nat) (hn:Xs n:=by exact ob) (hf:FS n.decls n.routines.length mm s:=by exact ob) (h11:s.op<=11:=by exact ob) (hop:QO WJ s.kids:=by exact ob) (hul:us.length=mm:=by exact ob) (hm:mm+4*s.sz<=100000:=by exact ob) (hbz:s.sz<=500:=by exact ob) (hb:s.sz<=bb:=by exact ob) (ih:∀(us2:LI) (b2:Z7) (mi2:LI) (m2:Nat),(fB n.decls n.routines.length m2 b2)->(Vk WJ b2)->(us2.length=m2)->(m2+4*b2.sz<=100000)->(∀v∈mi2,0<=v/\v<(m2:Int))->(mi2.length<=3)->(b2.sz<=500)->(b2.sz<bb)->Zo 169 [YD n,Z3 us2,Yn b2,Z3 mi2] [] (fun r h=>∃(y:Z7),r=Yn y/\h=[]/\KB n.decls n.routines.length m2 y (60*b2.sz))):Zo 190 [YD n,Z3 us,X4 s] [] (fun r h=>∃(y:Z5),r=X4 y/\h=[]/\KT n.decls n.routines.length mm y (60*YW s.kids+23)):=by
 have Xo:=hn.decls
 have hkf:=hf.few Xo
 have hsa:=hf.alen
 refine ZE 72 Tryz.func190 (ar (iA (X6 n) fun b1=>iA (Wb s) fun b2=>iA [.i 0,.i 0,.i 0,nl,nl] fun b3=>ie (ar (iL (XP []) 0 2 fun v1=>Z1 (Zp 4 [3,2] (ic [] (KR n.decls s.num) ?_))))))
 rintro _ _ ⟨v2,rfl,rfl⟩
 refine Z1 (Y6 (ab 0 (Y5 (fun fz gz m F h=>∃(k:Nat) (ks:List Z7) (u:Value),(k<=s.kids.length)/\(ks.length=k)/\(KK n.decls n.routines.length (WQ n.decls s.op s.num mm) ks (60*YW (s.kids.take k)+6*k))/\F=sF [1,3,5,6] fz [(7,Q9 ks u),(8,Z3 (ZX n.decls s.num)),(9,.i k)]/\h=[Zi gz 2,Zi gz 3,Zi gz 4,.tail u 2]/\m=s.kids.length-k) _ _ _ ⟨0,[],v1,ob,ob,(KK.nil.le (Te _)),rfl,rfl,rfl⟩ (wk [2,2,2,1] (fr (fc (x:=ZG (ZX n.decls s.num) v2) (Zc.forget _ _) (Ye fl)))) ?_)))
 rintro m F h ⟨k,ks,u,Yl,Zj,ZD,rfl,rfl,rfl⟩
 refine Yr 3 [1] (iw (K3 s.kids) (Y0 ((k:Int)<(s.kids.length:Int)) (fun Z9=>?_) (fun Z9=>?_)))
 ·refine ak (aq (ab 1 (ar (iL (Z6 []) 0 1 fun v3=>?_))))
  refine Z1 (Xa (WI [2] (Xu (fun fz gz F h=>∃(fds:LI),(WQ n.decls s.op s.num mm k=mm+fds.length)/\(fds.length<=3)/\F=sF [1,3,5,6,7,8,9] fz [(10,Z3 fds)]/\h=[Zi gz 1,Zi gz 2,Zi gz 3,Zi gz 4]) ?_ ?_)))
  ·refine ac (s.op==8) Zb (fun Zh=>?_) (fun Zh=>?_)
   ·refine aE 8 (ZY 4 8 [0,1,2,3] [3] ?_)
    obtain ⟨x1,Z4⟩:=Zv (ZX n.decls s.num) k (by have:=hf.k8 (by assumption);omega)
    have hcf:=Ve Xo x1
    exact dx 4 (Zk none (k:Int) 1 (Y7 Z4)) (Zs 2 3 [5] (Z8 6 (YF 6 [] [] [] (Qa n.decls x1) (Zs 0 1 [7] (de (ZH ⟨ZQ n.decls x1,(LR (by assumption) Z4),ob,rfl,rfl⟩ (wk [1,1,1,1] fl)))))))
   exact ak (ZH ⟨[],(by rw [LS (by assumption)];rfl),ob,rfl,rfl⟩ (wk [1,1,1,1] fl))
  rintro F h ⟨fds,Vy,AN,rfl,rfl⟩
  refine Ya 2 (iw (Yc us) (ic [] (Oh fds us.length) ?_))
  rintro _ _ ⟨xs1,rfl,rfl,Y3⟩
  have hhf:=Y3
  refine Z1 (aD 13 (ZY 7 13 [0,1,2,4,5,6] [2,1] ?_))
  obtain ⟨x2,Zy⟩:=Zv s.kids k om
  have hkz:=Q7 Zy
  have hfk:=Bj hf.kids Zy
  rw [Wk,Vy] at hfk
  have hok:=Dw.1 hop x2 (Y4 Zy)
  have hbt:=Ft Zy
  have hba:=Fu Zy
  refine dx 7 (Zk none (k:Int) 2 (UK Zy)) (Zs 4 6 [8,9] (Au (fun fz gz F h=>∃(y1:Z7) (b4:Nat),(KB n.decls n.routines.length (mm+fds.length) y1 (60*x2.sz))/\F=sF [1,3,5,6,7,8,9,11] fz [(12,.p b4 0)]/\h=[.obj b4 (XV y1),Zi gz 0,Zi gz 1,Zi gz 2,Zi gz 3]) ?_ ?_))
  ·refine VK 3 11 ?_ ?_
   ·refine dc 3 [] [1,2] [b2,b1] (Tt us fds) ?_
    rintro _ _ ⟨v4,rfl,rfl⟩
    refine Yv 3 3 [] [(44,Z3 (us++fds))] (VK 10 11 ?_ ?_)
    ·refine dc 10 [] [] [] (ih (us++fds) x2 xs1 (mm+fds.length) hfk hok (by rw [Ys,hul]) ob (fun v hv=>by have:=hhf.2 v hv;omega) ob ob ob) ?_
     rintro _ _ ⟨y1,rfl,rfl,Yq⟩
     have hkb:=Yq
     have hkl:=hkb.len
     exact Z8 11 (dA 11 [] [] [nl,.i 0] fun b4=>Z8 12 (YT 12 0 [] [] b4 (XV y1) (de (ZH ⟨_,b4,(by assumption),rfl,rfl⟩ (wk [0,1,1,1,1] fl)))))
    refine dA 11 [1,2] [b2,b1] [nl,.i 0] fun b5=>Z8 10 (dc 10 [] [] [] (ih (us++fds) x2 xs1 (mm+fds.length) hfk hok (by rw [Ys,hul]) ob (fun v hv=>by have:=hhf.2 v hv;omega) ob ob ob) ?_)
    rintro _ _ ⟨y2,rfl,rfl,YR⟩
    have hkb:=YR
    have hkl:=hkb.len
    exact Z8 12 (YT 12 0 [] [] b5 (XV y2) (de (ZH ⟨_,b5,(by assumption),rfl,rfl⟩ (wk [0,1,1,1,1] fl))))
   refine dA 11 [1,2] [b2,b1] [nl,.i 0] fun b6=>Z8 3 (dc 3 [] [2,3] [b2,b1] (Tt us fds) ?_)
   rintro _ _ ⟨v5,rfl,rfl⟩
   refine Yv 2 2 [] [(44,Z3 (us++fds))] (Z8 10 (dc 10 [] [] [] (ih (us++fds) x2 xs1 (mm+fds.length) hfk hok (by rw [Ys,hul]) ob (fun v hv=>by have:=hhf.2 v hv;omega) ob ob ob) ?_))
   rintro _ _ ⟨y3,rfl,rfl,X1⟩
   have hkb:=X1
   have hkl:=hkb.len
   exact Z8 12 (YT 12 1 [] [] b6 (XV y3) (de (ZH ⟨_,b6,(by assumption),rfl,rfl⟩ (wk [0,1,1,1,1] fl))))
  rintro F h ⟨y1,b4,Yq,rfl,rfl⟩
  have hkb:=Yq
  have hkl:=hkb.len
  refine aE 12 (ZY 6 12 [0,1,3,4,6,7] [0,0] (Z8 2 (dc 2 [] [0,0] [b4,b4] (Kj 14 xs1) ?_)))
  rintro _ _ ⟨v6,rfl,rfl⟩
  exact Z8 5 (dp 5 0 [0] [b4] (ZT ((xs1.map (Zx 14))++y1.steps)) (ZT (xs1.map (Zx 14))) (ZT y1.steps) v6 none 5 (XE _) (XE _) (Ua _) (by simp<;>omega) (by simp [Vo,ZT]) fun v7=>Yv 3 4 [8] [(60,.agg [Vj ((xs1.map (Zx 14))++y1.steps),.i y1.result])] (Z8 9 (Wz 9 [] [] [Yn (Z7.mk ((xs1.map (Zx 14))++y1.steps) y1.result)] (XP [Z7.mk ((xs1.map (Zx 14))++y1.steps) y1.result]) (QC [Z7.mk ((xs1.map (Zx 14))++y1.steps) y1.result]).symm 1 2 fun v8=>Yv 2 2 [] [(61,Js [Z7.mk ((xs1.map (Zx 14))++y1.steps) y1.result])] (Z8 10 (dp 10 6 [] [] (XP (ks++[Z7.mk ((xs1.map (Zx 14))++y1.steps) y1.result])) (XP ks) (XP [Z7.mk ((xs1.map (Zx 14))++y1.steps) y1.result]) u none 2 (Kx _) (Kx _) (FE _) (by simp<;>omega) (by simp [C8,XP]) fun v9=>Zs 0 1 [11] (de (az (Z0 1 (ZK k (Z1 (ZM ⟨k+1,(ks++[Z7.mk ((xs1.map (Zx 14))++y1.steps) y1.result]),v9,ob,ob,((ZD.snoc Zj (by rw [Vy];exact hkb.put1 (op:=14) (.inl rfl) (fun v hv=>by have:=hhf.2 v hv;omega))).le om),rfl,rfl,rfl⟩ (wk [4,4,4,0] (fw (ZW k fl))))))))))))))
 refine ax 0 (aD 10 (ZY 3 10 [0,1,2,3,4,5,7] [1,1,1] (Z8 6 (dc 6 [] [1,1] [b2,b2] (WP s.args) ?_))))
 rintro _ _ ⟨v10,rfl,rfl⟩
 exact Zs 1 2 [8] (Z8 9 (YT 9 1 [] [] b3 [.i s.op,.i s.num,.i 0,ZG s.args v10,Q9 ks u] (de (at_ (r3 [] [.agg [.i s.op,.i s.num,.i 0,ZG s.args v10,Q9 ks u]] [0] [(b3,b3)] ⟨(Z5.mk s.op s.num 0 s.args ks),rfl,rfl,((KT.of (into:=0) hf h11 om om ZD).le (by have:=HR (xs:=s.kids) (k:=k) om;omega))⟩ (Zc.agg (.cons (lr _) (.cons (lr _) (.cons (lr _) (.cons (Zc.forget _ _) (.cons (Zc.forget _ _) .nil)))))))))))
theorem Z6v (n:ZF) (us:LI) (b:Z7) (mi:LI) (mm:Nat) (hn:Xs n) (hf:fB n.decls n.routines.length mm b) (hop:Vk WJ b) (hul:us.length=mm) (hm:mm+4*b.sz<=100000) (hmr:∀v∈mi,0<=v/\v<(mm:Int)) (hml:mi.length<=3) (hbz:b.sz<=500) (ih:∀(us2:LI) (b2:Z7) (mi2:LI) (m2:Nat),(fB n.decls n.routines.length m2 b2)->(Vk WJ b2)->(us2.length=m2)->(m2+4*b2.sz<=100000)->(∀v∈mi2,0<=v/\v<(m2:Int))->(mi2.length<=3)->(b2.sz<=500)->(b2.sz<b.sz)->Zo 169 [YD n,Z3 us2,Yn b2,Z3 mi2] [] (fun r h=>∃(y:Z7),r=Yn y/\h=[]/\KB n.decls n.routines.length m2 y (60*b2.sz))):Zo 169 [YD n,Z3 us,Yn b,Z3 mi] [] (fun r h=>∃(y:Z7),r=Yn y/\h=[]/\KB n.decls n.routines.length mm y (60*b.sz)):=by
 have Xo:=hn.decls
 have hbe:=b.sz_eq
 have ZL:=Un b
 obtain ⟨hfs,hr1,hr2⟩:=(Kz b).1 hf
 have hos:=Cy.1 ((Gx b).1 hop)
 have hdn:=I2 hos
 have hdl:=hdn b.steps.length (X9 _)
 rw [Uk] at hdl
 refine ZE 80 Tryz.func169 (ar (iA (X6 n) fun b1=>iA (XV b) fun b2=>iA [nl,.i 0] fun b3=>ie (ar (iL (ZT []) 0 5 fun v1=>Z1 (Ya 1 (ic [] (WP us) ?_))))))
 rintro _ _ ⟨v2,rfl,rfl⟩
 refine Z1 (Ya 1 (ic [] (WP mi) ?_))
 rintro _ _ ⟨v3,rfl,rfl⟩
 refine Z1 (Y6 (ab 0 (Y5 (fun fz gz m F h=>∃(k:Nat) (vs:LI) (w:Value) (ow:LI) (u:Value) (xs:List Z5) (v:Value) (z0:Nat),(k<=b.steps.length)/\(vs.length=mm+k)/\(CL n.decls n.routines.length mm xs k z0)/\(z0+2*ow.length<=60*Yu (b.steps.take k)+2*mi.length)/\(∀v∈ow,0<=v/\v<((mm+k:Nat):Int))/\F=sF [4,6,8] fz [(9,Xh xs v),(10,ZG vs w),(11,ZG ow u),(12,.i k)]/\h=[Zi gz 3,Zi gz 4,Zi gz 5,.tail u 1,.tail v 5,.tail w 1]/\m=b.steps.length-k) _ _ _ ⟨0,us,v2,mi,v3,[],v1,0,ob,ob,CL.nil,(by simp),hmr,rfl,rfl,rfl⟩ (wk [3,3,3,0,1,0] (fw (fr (Ye fl)))) ?_)))
 rintro m F h ⟨k,vs,w,ow,u,xs,v,z0,Yl,Zj,ZD,YL,Wg,rfl,rfl,rfl⟩
 refine Yr 3 [1] (iw (Ut b.steps) (Y0 ((k:Int)<(b.steps.length:Int)) (fun Z9=>?_) (fun Z9=>?_)))
 ·refine ak (aq (ab 1 (Zp 3 [1] ?_)))
  obtain ⟨x1,Z4⟩:=Zv b.steps k om
  have Xx:=CE Z4
  have hfS:=(AE x1).1 (Da hfs Z4)
  rw [hdn k om] at hfS
  have hoS:=(EI x1).1 (hos x1 (Y4 Z4))
  have htk:=H8 Z4
  have hse:=(x1).sz_eq
  have hal4:=hfS.alen
  have hxl:=ZD.len
  have htl:=Kl b.steps (k+1)
  refine Zq (Zk none (k:Int) 5 (V2 Z4)) (Z0 1 (iA [.i 0,.i 0,.i 0,nl,nl] fun b4=>Zz 0 b4 (Wb x1) (ie (ar (Kg 3 [(33,Z3 vs)] [3,0] (Zt [] (M2 n vs x1 ob ob) (Z1 (ar (Kg 4 [(38,Z3 vs)] [3,0] (ic [] (Z68 n vs x1 (mm+k) (hf:=hfS)) ?_))))))))))
  rintro _ _ ⟨zs1,rfl,rfl,Y3⟩
  have hdu:=Y3
  have hq1:=ZD.cnts (op:=14) (.inl rfl) (vs:=zs1) (fun v hv=>hfS.args v (hdu.2 v hv))
  have hl1:=hq1.len
  refine ic [] (Kj 14 zs1) ?_
  rintro _ _ ⟨v4,rfl,rfl⟩
  refine ZU 0 [(41,Vj (zs1.map (Zx 14)))] (ip 6 (ZT (xs++(zs1.map (Zx 14)))) (ZT xs) (ZT (zs1.map (Zx 14))) v none 5 (XE _) (XE _) (Ua _) (by simp<;>omega) (by simp [Vo,ZT]) fun v5=>Z1 (ar (Kg 4 [(45,Z3 vs)] [5,2] (ic [] (Z6w n vs x1 (mm+k) b.sz (hf:=hfS) (h11:=hoS.1) (hop:=hoS.2) (ih:=ih)) ?_))))
  rintro _ _ ⟨y1,rfl,rfl,Yq⟩
  have hkt:=Yq
  have hq2:=hq1.kt hkt
  have hl2:=hq2.len
  refine UA [X4 y1] (ZT [y1]) (VV [y1]).symm 1 5 fun v6=>ZU 0 [(48,Vj [y1])] (ip 1 (ZT ((xs++(zs1.map (Zx 14)))++[y1])) (ZT (xs++(zs1.map (Zx 14)))) (ZT [y1]) v5 none 5 (XE _) (XE _) (Ua _) (by simp<;>omega) (by simp [Vo,ZT]) fun v7=>Z1 (Xa (Yz ((X0 n vs x1) != 0) Yi (fun Zh=>?_) (fun Zh=>?_))))
  ·exact az (Z0 2 (iw (Yc vs) (iL (Z6 [(vs.length:Int)]) 1 1 fun v8=>ZU 0 [(55,Z3 [(vs.length:Int)])] (ip 8 (Z6 (ow++[(vs.length:Int)])) (Z6 ow) (Z6 [(vs.length:Int)]) u none 1 (YE _) (YE _) (W2 _) (by simp<;>omega) (by simp [W6,Z6]) fun v9=>Z1 (az (Z0 2 (iL (Z6 [X0 n vs x1]) 1 1 fun v10=>ZU 0 [(59,Z3 [X0 n vs x1])] (ip 10 (Z6 (vs++[X0 n vs x1])) (Z6 vs) (Z6 [X0 n vs x1]) w none 1 (YE _) (YE _) (W2 _) (by simp<;>omega) (by simp [W6,Z6]) fun v11=>Z1 (az (Z0 1 (ZK k (Z1 (ZM ⟨k+1,(vs++[X0 n vs x1]),v11,(ow++[(vs.length:Int)]),v9,((xs++(zs1.map (Zx 14)))++[y1]),v7,_,ob,ob,hq2,(by (try simp only [Ys,Yx,X7]);omega),(by first|exact XD (fun v hv=>by have:=Wg v hv;omega) om|exact (fun v hv=>by have:=Wg v hv;omega)),rfl,rfl,rfl⟩ (wk [8,8,8,2,3,0] (fw (fr (ZW k fl)))))))))))))))))
  exact ak (az (Z0 2 (iL (Z6 [X0 n vs x1]) 1 1 fun v12=>ZU 0 [(59,Z3 [X0 n vs x1])] (ip 9 (Z6 (vs++[X0 n vs x1])) (Z6 vs) (Z6 [X0 n vs x1]) w none 1 (YE _) (YE _) (W2 _) (by simp<;>omega) (by simp [W6,Z6]) fun v13=>Z1 (az (Z0 1 (ZK k (Z1 (ZM ⟨k+1,(vs++[X0 n vs x1]),v13,ow,u,((xs++(zs1.map (Zx 14)))++[y1]),v7,_,ob,ob,hq2,(by (try simp only [Ys,Yx,X7]);omega),(by first|exact XD (fun v hv=>by have:=Wg v hv;omega) om|exact (fun v hv=>by have:=Wg v hv;omega)),rfl,rfl,rfl⟩ (wk [6,6,6,6,2,0] (fw (fr (ZW k fl)))))))))))))
 have hxl:=ZD.len
 have htl:=Kl b.steps k
 refine ax 0 (Yr 3 [1] ?_)
 obtain ⟨x2,Zy⟩:=Zv vs b.result.toNat om
 refine Zq (Zk (some w) b.result 1 (Y7 Zy)) (Yz (x2 != 0) Yi (fun ZC=>?_) (fun ZC=>?_))
 ·refine az (Zu 3 [1] (Zt [] (BH 14 b.result) (UA [X4 (Zx 14 b.result)] (ZT [Zx 14 b.result]) (VV [Zx 14 b.result]).symm 1 5 fun v14=>ZU 0 [(71,Vj [Zx 14 b.result])] (ip 5 (ZT (xs++[Zx 14 b.result])) (ZT xs) (ZT [Zx 14 b.result]) v none 5 (XE _) (XE _) (Ua _) (by simp<;>omega) (by simp [Vo,ZT]) fun v15=>Z1 (aD 8 (CX 4 8 [0,1,4,5] [(74,Z3 ow)] [3] (Z8 2 (dc 2 [] [1] [b2] (Kj 15 ow) ?_))))))))
  rintro _ _ ⟨v16,rfl,rfl⟩
  exact Yv 3 3 [] [(75,Vj (ow.map (Zx 15)))] (Z8 3 (dp 3 1 [1] [b2] (ZT ((xs++[Zx 14 b.result])++(ow.map (Zx 15)))) (ZT (xs++[Zx 14 b.result])) (ZT (ow.map (Zx 15))) v15 none 5 (XE _) (XE _) (Ua _) (by simp<;>omega) (by simp [Vo,ZT]) fun v17=>Zs 1 2 [6] (Z8 7 (YT 7 3 [] [] b3 [Xh ((xs++[Zx 14 b.result])++(ow.map (Zx 15))) v17,.i b.result] (de (at_ (r3 [] [.agg [Xh ((xs++[Zx 14 b.result])++(ow.map (Zx 15))) v17,.i b.result]] [0] [(b3,b3)] ⟨(Z7.mk ((xs++[Zx 14 b.result])++(ow.map (Zx 15))) b.result),rfl,rfl,((((ZD.cnt (op:=14) (.inl rfl) om).cnts (op:=15) (.inr rfl) (fun v hv=>by have:=Wg v hv;omega)).block om).le (by have:=Kl b.steps k;omega))⟩ (Zc.agg (.cons (Zc.forget _ _) (.cons (lr _) .nil))))))))))
 refine ak (aD 8 (CX 4 8 [0,1,4,5] [(74,Z3 ow)] [1] (Z8 2 (dc 2 [] [1] [b2] (Kj 15 ow) ?_))))
 rintro _ _ ⟨v18,rfl,rfl⟩
 exact Yv 3 3 [] [(75,Vj (ow.map (Zx 15)))] (Z8 3 (dp 3 5 [1] [b2] (ZT (xs++(ow.map (Zx 15)))) (ZT xs) (ZT (ow.map (Zx 15))) v none 5 (XE _) (XE _) (Ua _) (by simp<;>omega) (by simp [Vo,ZT]) fun v19=>Zs 1 2 [6] (Z8 7 (YT 7 2 [] [] b3 [Xh (xs++(ow.map (Zx 15))) v19,.i b.result] (de (at_ (r3 [] [.agg [Xh (xs++(ow.map (Zx 15))) v19,.i b.result]] [0] [(b3,b3)] ⟨(Z7.mk (xs++(ow.map (Zx 15))) b.result),rfl,rfl,(((ZD.cnts (op:=15) (.inr rfl) (fun v hv=>by have:=Wg v hv;omega)).block om).le (by have:=Kl b.steps k;omega))⟩ (Zc.agg (.cons (Zc.forget _ _) (.cons (lr _) .nil))))))))))
theorem Z6u (n:ZF) (us:LI) (b:Z7) (mi:LI) (mm:Nat) (hn:Xs n:=by exact ob) (hf:fB n.decls n.routines.length mm b:=by exact ob) (hop:Vk WJ b:=by exact ob) (hul:us.length=mm:=by exact ob) (hm:mm+4*b.sz<=100000:=by exact ob) (hmr:∀v∈mi,0<=v/\v<(mm:Int)) (hml:mi.length<=3:=by exact ob) (hbz:b.sz<=500:=by exact ob):Zo 169 [YD n,Z3 us,Yn b,Z3 mi] [] (fun r h=>∃(y:Z7),r=Yn y/\h=[]/\KB n.decls n.routines.length mm y (60*b.sz)):=by
 have key:∀k:Nat,∀(us2:LI) (b2:Z7) (mi2:LI) (m2:Nat),(fB n.decls n.routines.length m2 b2)->(Vk WJ b2)->(us2.length=m2)->(m2+4*b2.sz<=100000)->(∀v∈mi2,0<=v/\v<(m2:Int))->(mi2.length<=3)->(b2.sz<=500)->(b2.sz<k)->Zo 169 [YD n,Z3 us2,Yn b2,Z3 mi2] [] (fun r h=>∃(y:Z7),r=Yn y/\h=[]/\KB n.decls n.routines.length m2 y (60*b2.sz)):=by
  intro k
  induction k with
  | zero=>intro us2 b2 mi2 m2 h1 h2 h3 h4 h5 h6 h7 h9;omega
  | succ k ih=>intro us2 b2 mi2 m2 h1 h2 h3 h4 h5 h6 h7 h9;exact Z6v n us2 b2 mi2 m2 hn h1 h2 h3 h4 h5 h6 h7 fun us3 b3 mi3 m3 q1 q2 q3 q4 q5 q6 q7 q9=>ih us3 b3 mi3 m3 q1 q2 q3 q4 q5 q6 q7 om
 exact key (b.sz+1) us b mi mm hf hop hul hm hmr hml hbz om
theorem Z7e (rt:YA) (hp:rt.params.length<=1000000:=by exact ob) (hl:rt.lent.length<=1000000:=by exact ob):Zo 170 [JI rt] [] (fun r h=>∃(os:LI),r=Z3 os/\h=[]/\os.length<=rt.params.length/\∀v∈os,0<=v/\v<(rt.params.length:Int)):=by
 refine ZE 31 Tryz.func170 (ar (iA (Jo rt) fun b1=>Z1 (ar (iL (Z6 []) 0 1 fun v1=>?_))))
 refine Z1 (Y6 (ab 0 (Y5 (fun fz gz m F h=>∃(k:Nat) (os:LI) (u:Value),(k<=rt.params.length)/\(os.length<=k)/\(∀v∈os,0<=v/\v<(rt.params.length:Int))/\F=sF [1] fz [(3,ZG os u),(4,.i k)]/\h=[Zi gz 1,.tail u 1]/\m=rt.params.length-k) _ _ _ ⟨0,[],v1,ob,ob,(fun v hv=>by cases hv),rfl,rfl,rfl⟩ (wk [1,0] (fr (Ye fl))) ?_)))
 rintro m F h ⟨k,os,u,Yl,Zj,ZD,rfl,rfl,rfl⟩
 refine Yr 3 [0] (iw (Yc rt.params) (Y0 ((k:Int)<(rt.params.length:Int)) (fun Z9=>?_) (fun Z9=>?_)))
 ·refine ak (aq (ab 1 (Zp 3 [0] ?_)))
  obtain ⟨x1,Z4⟩:=Zv rt.params k om
  refine Zq (Zk none (k:Int) 1 (Y7 Z4)) (Xn [1,3,4] [(25,.b ((x1 != 0)&&(!(decide ((k:Int)∈rt.lent)))))] (fun gz=>gz) ?_ ?_)
  ·refine Z0 3 (ib (b:=(x1 != 0)) 19 (fun Za=>?_) (fun Za=>?_))
   ·exact Zu 3 [0] (Zt [] (UE rt.lent (k:Int)) (Z1 (wk [0,0] (Zf (!(decide ((k:Int)∈rt.lent))) Za fl))))
   exact Z1 (wk [0,0] (Zf false Za fl))
  refine ac ((x1 != 0)&&(!(decide ((k:Int)∈rt.lent)))) (p:=(x1≠0)/\(¬((k:Int)∈rt.lent))) (Y2 Yi (Yg dq)) (fun Zh=>?_) (fun Zh=>?_)
  ·exact az (Z0 2 (iL (Z6 [(k:Int)]) 1 1 fun v2=>ZU 0 [(28,Z3 [(k:Int)])] (ip 2 (Z6 (os++[(k:Int)])) (Z6 os) (Z6 [(k:Int)]) u none 1 (YE _) (YE _) (W2 _) (by simp<;>omega) (by simp [W6,Z6]) fun v3=>Z1 (az (Z0 1 (ZK k (Z1 (ZM ⟨k+1,(os++[(k:Int)]),v3,ob,ob,(by first|exact ZD|exact XD ZD om),rfl,rfl,rfl⟩ (wk [2,0] (fr (ZW k fl)))))))))))
  exact ak (az (Z0 1 (ZK k (Z1 (ZM ⟨k+1,os,u,ob,ob,(by first|exact ZD|exact XD ZD om),rfl,rfl,rfl⟩ (wk [0,0] (fr (ZW k fl))))))))
 exact ax 0 (ar (Zm (r2 [] [ZG os u] ⟨os,rfl,rfl,⟨by omega,ZD⟩⟩ (Zc.forget _ _))))
theorem Z6t (n:ZF) (qz:Nat) (hn:FO n qz WJ:=by exact ob) (hqz:qz<=181:=by exact ob):Zo 149 [YD n] [] (fun r h=>∃(n2:ZF),r=YD n2/\h=[]/\FO n2 (60*qz) Vu):=by
 have hnl:=hn.fn.len
 have Xo:=hn.fn.decls.ok
 have hok:=hn.fn.ok
 refine ZE 39 Tryz.func149 (ar (iA (X6 n) fun b1=>iA [nl,nl] fun b2=>ie (Zp 2 [1] (Zt [] (AW n.decls) (iL (X8 []) 0 5 fun v1=>Z0 1 (iA [nl,nl] fun b3=>?_))))))
 refine Zz 0 b3 [Yd n.decls,WL [] v1] (ie (Y6 (ab 0 (Y5 (fun fz gz m F h=>∃(k:Nat) (rs:List YA) (u:Value),(k<=n.routines.length)/\(rs.length=k)/\(∀r∈rs,RF n.decls n.routines.length (60*qz) Vu r)/\F=sF [1,2,3] fz [(4,.i k)]/\h=[.obj b3 [Yd n.decls,WL rs u],Zi gz 2,Zi gz 3,.tail u 5]/\m=n.routines.length-k) _ _ _ ⟨0,[],v1,ob,ob,(fun r hr=>by cases hr),rfl,rfl,rfl⟩ (wk [0,1,1,0] (Ye fl)) ?_))))
 rintro m F h ⟨k,rs,u,Yl,Zj,ZD,rfl,rfl,rfl⟩
 refine Yr 3 [2] (iw (TJ n.routines) (Y0 ((k:Int)<(n.routines.length:Int)) (fun Z9=>?_) (fun Z9=>?_)))
 ·refine ak (aq (ab 1 (Zp 3 [2] ?_)))
  obtain ⟨x1,Z4⟩:=Zv n.routines k om
  have hrf:=hn.rf (Y4 Z4)
  have hrp:(x1).params.length<=3:=(Th.bd (f:=⟨(x1).params,(x1).result,default⟩) hrf.sig).1
  have hrl:=hrf.lent.1
  have hrz:=hrf.body.2
  refine Zq (Zk none (k:Int) 5 (VD Z4)) (Z0 1 (iA [nl,nl,.i 0,nl,.i 0] fun b4=>Zz 0 b4 (Jo x1) (ie (aE 16 (ZY 7 16 [0,1,2,3,4,5,6,7,8] [1,0,3,0,0,0] (Z8 9 (dc 9 [] [0,0,3,0,1] [b4,b4,b1,b4,b3] (Z7e x1) ?_)))))))
  rintro _ _ ⟨os1,rfl,rfl,Y3⟩
  have hop:=Y3
  refine Z8 10 (dc 10 [] [0,1] [b4,b3] (Z6u n x1.params x1.body os1 _ (hf:=hrf.body.1) (hop:=hrf.op) (hul:=rfl) (hmr:=hop.2)) ?_)
  rintro _ _ ⟨y1,rfl,rfl,Yq⟩
  have hkb0:=Yq
  have hkb:=hkb0.le (z2:=60*qz) om
  exact Z8 11 (YF 11 [] [1] [b3] (DI x1 y1 (hp:=om) (hl:=om)) (Z8 12 (dL 12 [1] [b3] (X8 [YA.mk x1.params x1.lent x1.result y1]) 1 5 fun v2=>Yv 3 3 [] [(35,Jt [YA.mk x1.params x1.lent x1.result y1])] (Z8 13 (dp 13 5 [] [] (X8 (rs++[YA.mk x1.params x1.lent x1.result y1])) (X8 rs) (X8 [YA.mk x1.params x1.lent x1.result y1]) u none 5 (T0 _) (T0 _) (Bh _) (by simp<;>omega) (by simp [D6,X8]) fun v3=>Zs 1 2 [14] (Z8 15 (YT 15 3 [] [] b3 [Yd n.decls,WL (rs++[YA.mk x1.params x1.lent x1.result y1]) v3] (de (az (Z0 1 (ZK k (Z1 (ZM ⟨k+1,(rs++[YA.mk x1.params x1.lent x1.result y1]),v3,ob,ob,(XD ZD (by first|exact hrf.with hkb.fb hkb.sz hkb.op|(rw [Z7.eta];exact hrf.with hkb.fb hkb.sz hkb.op))),rfl,rfl,rfl⟩ (wk [0,3,3,0] (ZW k fl)))))))))))))))
 exact ax 0 (Zp 1 [0] (Zz 1 b2 [Yd n.decls,WL rs u] (ie (at_ (r3 [] [.agg [Yd n.decls,WL rs u]] [0] [(b2,b2)] ⟨(ZF.mk n.decls rs),rfl,rfl,(FO.fin hn.fn om ZD).1⟩ (Zc.agg (.cons (lr _) (.cons (Zc.forget _ _) .nil))))))))
theorem Sp (s:Z5) :Zo 175 [X4 s] [] (Ym (.b ((s.op==14)||(s.op==15)))):=by
 refine ZE 11 Tryz.func175 (ar (iA (Wb s) fun b1=>Z1 (ar (YK 8 [] [(10,.b ((s.op==14)||(s.op==15)))] (fun gz=>gz) ?_ (fun hj1=>?_)))))
 ·exact Zm (BK)
 refine Zu 4 [0] (ib (b:=(s.op==14)) 6 (fun Za=>?_) (fun Za=>?_))
 ·exact Z0 4 (ZJ (wk [0] (Zf true Za fl)) hj1)
 exact Zu 4 [0] (ZJ (wk [0] (Zf (s.op==15) Za fl)) hj1)
theorem Z7o (rn:List Z5) (hrn:∀s∈rn,∃a,s.args=[a]) (hl:rn.length<=100000000:=by exact ob):Zo 199 [Vj rn] [] (fun r h=>∃(vs:LI),r=Z3 vs/\h=[]/\BS vs/\vs.length<=rn.length/\∀v∈vs,∃s∈rn,s.args=[v]):=by
 refine ZE 22 Tryz.func199 (Y1 (ar (iL (Z6 []) 0 1 fun v1=>?_)))
 refine Z1 (Y6 (ab 0 (Y5 (fun fz gz m F h=>∃(k:Nat) (vs:LI),(k<=rn.length)/\(vs.length<=k)/\(BS vs)/\(∀v∈vs,∃s∈rn,s.args=[v])/\F=sF [0] fz [(3,Z3 vs),(4,.i k)]/\h=[]/\m=rn.length-k) _ _ _ ⟨0,[],ob,ob,List.Pairwise.nil,(fun v hv=>by cases hv),rfl,rfl,rfl⟩ (wk [] (fc (x:=ZG [] v1) (Zc.forget _ _) (Ye fl))) ?_)))
 rintro m F h ⟨k,vs,Yl,Zj,ZD,YL,rfl,rfl,rfl⟩
 refine YO 2 (iw (Ut rn) (Y0 ((k:Int)<(rn.length:Int)) (fun Z9=>?_) (fun Z9=>?_)))
 ·refine ak (aq (ab 1 (az (Z0 3 ?_))))
  obtain ⟨x1,Z4⟩:=Zv rn k om
  have hxm:=Y4 Z4
  obtain ⟨xa,hxa⟩:=hrn _ hxm
  refine Zq (Zk none (k:Int) 5 (V2 Z4)) (Z0 2 ?_)
  obtain ⟨x2,Zy⟩:=Zv x1.args 0 (by rw [hxa];simp)
  have hxe:x1.args=[x2]:=by have h:=Zy;rw [hxa] at h;rw [hxa];simpa using h
  refine Zq (Zk none 0 1 (Y7 Zy)) (Z0 1 (ic [] (Eh vs x2) ?_))
  rintro _ _ ⟨v2,rfl,rfl⟩
  exact Z1 (az (Z0 1 (ZK k (Z1 (ZM ⟨k+1,(U6 vs x2),ob,(by have:=Dk vs x2;omega),(OM ZD),(fun v hv=>(Ev.1 hv).elim (YL v) (fun e=>⟨x1,hxm,by rw [e];exact hxe⟩)),rfl,rfl,rfl⟩ (wk [] (fc (x:=ZG (U6 vs x2) v2) (Zc.forget _ _) (ZW k fl))))))))
 exact ax 0 (ar (Zm (r1 [] ⟨vs,rfl,rfl,⟨ZD,by omega,YL⟩⟩)))
theorem Z76 (rn:List Z5) (v:Int) (hrn:∀s∈rn,∃a,s.args=[a]) (hl:rn.length<=100000000:=by exact ob):Zo 200 [Vj rn,.i v] [] (fun r h=>∃(z:Int),r=.i z/\h=[]/\-((VB rn v:Nat):Int)<=z/\z<=((VB rn v:Nat):Int)):=by
 refine ZE 44 Tryz.func200 (Y1 (Y1 (Y6 (ab 0 (Y5 (fun fz gz m F h=>∃(k:Nat) (z:Int),(k<=rn.length)/\(-((VB (rn.take k) v:Nat):Int)<=z/\z<=((VB (rn.take k) v:Nat):Int))/\F=sF [0,1] fz [(5,.i z),(6,.i k)]/\h=gz/\m=rn.length-k) _ _ _ ⟨0,0,ob,(by simp [VB]),rfl,rfl,rfl⟩ (wk [] (fr (Ye fl))) ?_)))))
 rintro m F h ⟨k,z,Yl,Zj,rfl,rfl,rfl⟩
 refine YO 2 (iw (Ut rn) (Y0 ((k:Int)<(rn.length:Int)) (fun Z9=>?_) (fun Z9=>?_)))
 ·refine ak (aq (ab 1 (Ya 2 ?_)))
  obtain ⟨x1,Z4⟩:=Zv rn k om
  have hxm:=Y4 Z4
  obtain ⟨xa,hxa⟩:=hrn _ hxm
  have hct:=Z2i Z4 v
  have hcl:=Z2j rn (k+1) v
  have hcm:=N1 rn v
  refine Zq (Zk none (k:Int) 5 (V2 Z4)) (Z0 2 ?_)
  obtain ⟨x2,Zy⟩:=Zv x1.args 0 (by rw [hxa];simp)
  have hg0:=K6 Zy
  rw [hg0] at hct
  refine Zq (Zk none 0 1 (Y7 Zy)) (Xn [0,1,5,6] [(29,.b ((x2==v)&&(x1.op==14)))] (fun gz=>gz) ?_ ?_)
  ·refine Z0 4 (ib (b:=(x2==v)) 22 (fun Za=>?_) (fun Za=>?_))
   ·exact Z0 2 (Zq (Zk none (k:Int) 5 (V2 Z4)) (Z1 (wk [] (Zf (x1.op==14) Za fl))))
   exact Z1 (wk [] (Zf false Za fl))
  refine ac ((x2==v)&&(x1.op==14)) (p:=(x2=v)/\(x1.op=14)) (Y2 Zb Zb) (fun Zh=>?_) (fun Zh=>?_)
  ·exact az (Z0 1 (ia ((z+1)) ((z)+(1)) (Z1 (az (Z0 1 (ZK k (Z1 (ZM ⟨k+1,(z+1),ob,(by first|(rw [hct,Zl om];omega)|(rw [hct,Zd om];omega)),rfl,rfl,rfl⟩ (wk [] (fr (ZW k fl)))))))))))
  refine Ya 2 (Zq (Zk none (k:Int) 5 (V2 Z4)) (Z0 2 (Zq (Zk none 0 1 (Y7 Zy)) (Yz (x2==v) Zb (fun ZC=>?_) (fun ZC=>?_)))))
  ·exact az (Z0 1 (ia ((z-1)) ((z)-(1)) (Z1 (az (Z0 1 (ZK k (Z1 (ZM ⟨k+1,(z-1),ob,(by first|(rw [hct,Zl om];omega)|(rw [hct,Zd om];omega)),rfl,rfl,rfl⟩ (wk [] (fr (ZW k fl)))))))))))
  exact ak (az (Z0 1 (ZK k (Z1 (ZM ⟨k+1,z,ob,(by first|(rw [hct,Zl om];omega)|(rw [hct,Zd om];omega)),rfl,rfl,rfl⟩ (wk [] (fr (ZW k fl))))))))
 exact ax 0 (ar (Zm (r1 [] ⟨z,rfl,rfl,(by have e:=Zj;rw [WT om] at e;exact e)⟩)))
theorem On (rn:List Z5) (hrn:∀s∈rn,∃a,s.args=[a]) (hl:rn.length<=100000000:=by exact ob):Zo 176 [Vj rn] [] (fun r h=>∃(D:LI) (R:LI) (v:Value),r=Xh (D.map (Zx 14)++R.map (Zx 15)) v/\h=[.tail v 5]/\D.length+R.length<=rn.length/\(∀v∈D,∃s∈rn,s.args=[v])/\∀v∈R,∃s∈rn,s.args=[v]):=by
 refine ZE 51 Tryz.func176 (Y1 (ar (iL (Z6 []) 0 1 fun v1=>Z1 (ar (iL (Z6 []) 0 1 fun v2=>Z1 (Ya 1 (ic [] (Z7o rn (hrn:=ob)) ?_)))))))
 rintro _ _ ⟨vs1,rfl,rfl,Y3⟩
 have hvo:=Y3
 have hsl:=SR rn hvo.1
 refine Z1 (Y6 (ab 0 (Y5 (fun fz gz m F h=>∃(k:Nat) (D:LI) (u:Value) (R:LI) (w:Value),(k<=vs1.length)/\(D.length+R.length<=Vs rn (vs1.take k))/\(∀v∈D,v∈vs1)/\(∀v∈R,v∈vs1)/\F=sF [0,5] fz [(3,ZG D u),(4,ZG R w),(6,.i k)]/\h=[.tail u 1,.tail w 1]/\m=vs1.length-k) _ _ _ ⟨0,[],v1,[],v2,ob,(by simp [Vs]),(fun v hv=>by cases hv),(fun v hv=>by cases hv),rfl,rfl,rfl⟩ (wk [1,0] (fw (Ye fl))) ?_)))
 rintro m F h ⟨k,D,u,R,w,Yl,Zj,ZD,YL,rfl,rfl,rfl⟩
 refine YO 2 (iw (Yc vs1) (Y0 ((k:Int)<(vs1.length:Int)) (fun Z9=>?_) (fun Z9=>?_)))
 ·refine ak (aq (ab 1 (Ya 3 ?_)))
  obtain ⟨x1,Z4⟩:=Zv vs1 k om
  have hst:=Zfj (rn:=rn) Z4
  have hsk:=M9 rn vs1 (k+1)
  have hxm:=Y4 Z4
  refine Zq (Zk none (k:Int) 1 (Y7 Z4)) (Z0 1 (ic [] (Z76 rn x1 (hrn:=ob)) ?_))
  rintro _ _ ⟨z1,rfl,rfl,Yq⟩
  have hnt:=Yq
  refine Z1 (aq (ab 2 (Y5 (fun fz gz m F h=>∃(z:Int) (D2:LI) (u2:Value) (w2:Value),((D2.length:Int)+(R.length:Int)+z<=((Vs rn (vs1.take k):Nat):Int)+((VB rn x1:Nat):Int))/\((D2.length:Int)+(R.length:Int)-z<=((Vs rn (vs1.take k):Nat):Int)+((VB rn x1:Nat):Int))/\(∀v∈D2,v∈vs1)/\F=sF [0,5,6] fz [(3,ZG D2 u2),(4,ZG R w2),(7,.i z)]/\h=[.tail u2 1,.tail w2 1]/\m=z.toNat) _ _ _ ⟨z1,D,u,w,om,om,ZD,rfl,rfl,rfl⟩ (wk [0,0] fl) ?_)))
  rintro m F h ⟨z,D2,u2,w2,U8,Wf,W0,rfl,rfl,rfl⟩
  refine Xa (Y0 (z>0) (fun Zh=>?_) (fun Zh=>?_))
  ·exact ak (aq (ab 3 (az (Z0 3 (Zq (Zk none (k:Int) 1 (Y7 Z4)) (Z0 1 (iL (Z6 [x1]) 1 1 fun v3=>ZU 0 [(33,Z3 [x1])] (ip 1 (Z6 (D2++[x1])) (Z6 D2) (Z6 [x1]) u2 none 1 (YE _) (YE _) (W2 _) (by simp<;>omega) (by simp [W6,Z6]) fun v4=>Z1 (az (Z0 1 (ia ((z-1)) ((z)-(1)) (Z1 (ZM ⟨(z-1),(D2++[x1]),v4,w2,(by simp only [Ys,Yx,X7];omega),(by simp only [Ys,Yx,X7];omega),(XD W0 hxm),rfl,rfl,rfl⟩ (wk [0,1] fl))))))))))))))
  refine ax 2 (ab 4 (Y5 (fun fz gz m F h=>∃(y:Int) (R2:LI) (u3:Value) (w3:Value),((D2.length:Int)+(R2.length:Int)+y<=((Vs rn (vs1.take k):Nat):Int)+((VB rn x1:Nat):Int))/\((D2.length:Int)+(R2.length:Int)-y<=((Vs rn (vs1.take k):Nat):Int)+((VB rn x1:Nat):Int))/\(∀v∈R2,v∈vs1)/\F=sF [0,5,6] fz [(3,ZG D2 u3),(4,ZG R2 w3),(7,.i y)]/\h=[.tail u3 1,.tail w3 1]/\m=(-y).toNat) _ _ _ ⟨z,R,u2,w2,ob,ob,YL,rfl,rfl,rfl⟩ (wk [0,0] fl) ?_))
  rintro m F h ⟨y,R2,u3,w3,Fv,BY,BZ,rfl,rfl,rfl⟩
  refine Xa (Y0 (y<0) (fun ZC=>?_) (fun ZC=>?_))
  ·exact ak (aq (ab 5 (az (Z0 3 (Zq (Zk none (k:Int) 1 (Y7 Z4)) (Z0 1 (iL (Z6 [x1]) 1 1 fun v5=>ZU 0 [(44,Z3 [x1])] (ip 2 (Z6 (R2++[x1])) (Z6 R2) (Z6 [x1]) w3 none 1 (YE _) (YE _) (W2 _) (by simp<;>omega) (by simp [W6,Z6]) fun v6=>Z1 (az (Z0 1 (ia ((y+1)) ((y)+(1)) (Z1 (ZM ⟨(y+1),(R2++[x1]),u3,v6,(by simp only [Ys,Yx,X7];omega),(by simp only [Ys,Yx,X7];omega),(XD BZ hxm),rfl,rfl,rfl⟩ (wk [2,0] fl))))))))))))))
  exact ax 4 (az (Z0 1 (ZK k (Z1 (ZM ⟨k+1,D2,u3,R2,w3,ob,(by rw [hst];omega),W0,BZ,rfl,rfl,rfl⟩ (wk [0,0] (fw (ZW k fl))))))))
 have Xx:=M9 rn vs1 k
 refine ax 0 (ar (ZU 1 [(46,Z3 D)] (ic [] (Kj 14 D) ?_)))
 rintro _ _ ⟨v7,rfl,rfl⟩
 refine ZU 1 [(48,Z3 R)] (ic [] (Kj 15 R) ?_)
 rintro _ _ ⟨v8,rfl,rfl⟩
 exact ZU 0 [(49,Vj (R.map (Zx 15)))] (ip 1 (ZT ((D.map (Zx 14))++(R.map (Zx 15)))) (ZT (D.map (Zx 14))) (ZT (R.map (Zx 15))) v7 none 5 (XE _) (XE _) (Ua _) (by simp<;>omega) (by simp [Vo,ZT]) fun v9=>Zm (r2 [0] [Xh ((D.map (Zx 14))++(R.map (Zx 15))) v9] ⟨_,_,v9,rfl,rfl,⟨by have:=M9 rn vs1 k;omega,fun v hv=>hvo.2.2 v (ZD v hv),fun v hv=>hvo.2.2 v (YL v hv)⟩⟩ (Zc.slh _ (Yj ZT ob))))
theorem Z64 (ds:List Ze) (nf:Nat) (b:Z7) (mm:Nat) (hf:fB ds nf mm b) (hop:Vk Vu b) (hz:b.sz<=100000000) (ih:∀(b2:Z7) (m2:Nat),(fB ds nf m2 b2)->(Vk Vu b2)->(b2.sz<=100000000)->(b2.sz<b.sz)->Zo 156 [Yn b2] [] (fun r h=>∃(y:Z7),r=Yn y/\h=[]/\KB ds nf m2 y b2.sz)):Zo 156 [Yn b] [] (fun r h=>∃(y:Z7),r=Yn y/\h=[]/\KB ds nf mm y b.sz):=by
 have hbe:=b.sz_eq
 have ZL:=Un b
 obtain ⟨hfs,hr1,hr2⟩:=(Kz b).1 hf
 have hos:=Cy.1 ((Gx b).1 hop)
 refine ZE 72 Tryz.func156 (ar (iA (XV b) fun b1=>iA [nl,.i 0] fun b2=>ie (ar (iL (ZT []) 0 5 fun v1=>Z1 (ar (iL (ZT []) 0 5 fun v2=>?_))))))
 refine Z1 (Y6 (ab 0 (Y5 (fun fz gz m F h=>∃(k:Nat) (xs:List Z5) (v:Value) (rn:List Z5) (u:Value) (z0:Nat),(k<=b.steps.length)/\(CL ds nf mm xs (Yt (b.steps.take k)) z0)/\(z0+2*rn.length<=Yu (b.steps.take k))/\(Mx (mm+(Yt (b.steps.take k))) rn)/\F=sF [1,2] fz [(3,Xh xs v),(4,Xh rn u),(5,.i k)]/\h=[Zi gz 2,Zi gz 3,.tail u 5,.tail v 5]/\m=b.steps.length-k) _ _ _ ⟨0,[],v1,[],v2,0,ob,CL.nil,(by simp [Yu]),(fun s hs=>by cases hs),rfl,rfl,rfl⟩ (wk [2,2,0,0] (fw (Ye fl))) ?_)))
 rintro m F h ⟨k,xs,v,rn,u,z0,Yl,Zj,ZD,YL,rfl,rfl,rfl⟩
 refine Yr 3 [1] (iw (Ut b.steps) (Y0 ((k:Int)<(b.steps.length:Int)) (fun Z9=>?_) (fun Z9=>?_)))
 ·refine ak (aq (ab 1 (Zp 3 [1] ?_)))
  obtain ⟨x1,Z4⟩:=Zv b.steps k om
  have Xx:=CE Z4
  have hfS:=(AE x1).1 (Da hfs Z4)
  have hoS:=(EI x1).1 (hos x1 (Y4 Z4))
  have htk:=H8 Z4
  have htl:=Kl b.steps (k+1)
  have hse:=(x1).sz_eq
  have hdt:=Ni Z4
  have hxl:=Zj.len
  have hkl2:=Fs (x1).kids
  refine Zq (Zk none (k:Int) 5 (V2 Z4)) (Z0 1 (iA [.i 0,.i 0,.i 0,nl,nl] fun b3=>Zz 0 b3 (Wb x1) (ie (Zp 1 [0] (Zt [] (Sp x1) (ie (ac ((x1.op==14)||(x1.op==15)) (p:=(x1.op=14)∨(x1.op=15)) (ZB Zb Zb) (fun Zh=>?_) (fun Zh=>?_))))))))
  ·refine az (Zu 2 [0] (UA [X4 x1] (ZT [x1]) (VV [x1]).symm 1 5 fun v3=>ZU 0 [(27,Vj [x1])] (ip 4 (ZT (rn++[x1])) (ZT rn) (ZT [x1]) u none 5 (XE _) (XE _) (Ua _) (by simp<;>omega) (by simp [Vo,ZT]) fun v4=>Z1 (az (Z0 1 (ZK k (Z1 ?_)))))))
   obtain ⟨⟨pa,hpa,hpr⟩,Yq,hpc⟩:=hfS.pair (by assumption)
   rw [Zl hpc,BQ] at hdt
   exact ZM ⟨k+1,xs,v,(rn++[x1]),v4,_,ob,(by rw [hdt];exact Zj),(by rw [htk];simp only [Ys,Yx,X7];omega),(by rw [hdt];exact XD YL ⟨pa,hpa,hpr⟩),rfl,rfl,rfl⟩ (wk [3,3,0,2] (fw (ZW k fl)))
  refine ar (ZU 2 [(30,Vj rn)] (ic [] (On rn (hrn:=(fun s hs=>(YL s hs).elim fun a h=>⟨a,h.1⟩))) ?_))
  rintro _ _ ⟨D1,R1,v5,rfl,rfl,Y3⟩
  have hsr:=Y3
  have hq1:=Zj.run YL hsr.2.1 hsr.2.2
  have hl1:=Zj.len
  have htl1:=Kl b.steps k
  refine ZU 0 [(31,Vj (D1.map (Zx 14)++R1.map (Zx 15)))] (ip 5 (ZT (xs++(D1.map (Zx 14)++R1.map (Zx 15)))) (ZT xs) (ZT (D1.map (Zx 14)++R1.map (Zx 15))) v none 5 (XE _) (XE _) (Ua _) (by simp<;>omega) (by simp [Vo,ZT]) fun v6=>Z1 (ar (iL (ZT []) 0 5 fun v7=>Z1 (ar (iL (XP []) 0 2 fun v8=>?_)))))
  refine Z1 (Y6 (ab 2 (Y5 (fun fz gz m F h=>∃(j:Nat) (ks:List Z7) (w:Value) (v3:Value) (u4:Value),(j<=x1.kids.length)/\(ks.length=j)/\(KK ds nf (WQ ds x1.op x1.num (mm+(Yt (b.steps.take k)))) ks (YW (x1.kids.take j)))/\F=sF [1,2,5,6] fz [(3,Xh (xs++(D1.map (Zx 14)++R1.map (Zx 15))) v3),(4,Xh [] u4),(7,Q9 ks w),(8,.i j)]/\h=[Zi gz 4,Zi gz 5,Zi gz 6,.tail u4 5,.tail v3 5,.tail w 2]/\m=x1.kids.length-j) _ _ _ ⟨0,[],v8,v6,v7,ob,ob,(KK.nil.le (Te _)),rfl,rfl,rfl⟩ (wk [4,4,4,1,1,0] (fw (fr (Ye fl)))) ?_)))
  rintro m F h ⟨j,ks,w,v3,u4,U8,Wf,W0,rfl,rfl,rfl⟩
  refine Yr 3 [0] (iw (K3 x1.kids) (Y0 ((j:Int)<(x1.kids.length:Int)) (fun ZC=>?_) (fun ZC=>?_)))
  ·refine ak (aq (ab 3 (az (Zu 4 [0] ?_))))
   obtain ⟨x2,Zy⟩:=Zv x1.kids j om
   have hkz:=Q7 Zy
   have hfk:=Bj hfS.kids Zy
   rw [Wk] at hfk
   have hok:=Dw.1 hoS.2 x2 (Y4 Zy)
   have hbt:=Ft Zy
   refine Zq (Zk none (j:Int) 2 (UK Zy)) (Z0 1 (ic [] (ih x2 (WQ ds x1.op x1.num (mm+(Yt (b.steps.take k))) j) hfk hok ob ob) ?_))
   rintro _ _ ⟨y1,rfl,rfl,Yq⟩
   have hkb:=Yq
   exact UA [Yn y1] (XP [y1]) (QC [y1]).symm 1 2 fun v9=>ZU 0 [(49,Js [y1])] (ip 6 (XP (ks++[y1])) (XP ks) (XP [y1]) w none 2 (Kx _) (Kx _) (FE _) (by simp<;>omega) (by simp [C8,XP]) fun v10=>Z1 (az (Z0 1 (ZK j (Z1 (ZM ⟨j+1,(ks++[y1]),v10,v3,u4,ob,ob,((W0.snoc Wf hkb).le om),rfl,rfl,rfl⟩ (wk [2,2,2,2,2,0] (fw (fr (ZW j fl))))))))))
  refine ax 2 (aE 15 (ZY 5 15 [0,1,2,3,4,5,6,7,8,10] [0,0,0,0] (Z8 9 (dc 9 [] [0,0,0] [b3,b3,b3] (WP x1.args) ?_))))
  rintro _ _ ⟨v11,rfl,rfl⟩
  refine Yv 3 4 [11] [(62,.agg [.i x1.op,.i x1.num,.i x1.into,Z3 x1.args,Js ks])] (Z8 12 (Wz 12 [] [] [X4 (Z5.mk x1.op x1.num x1.into x1.args ks)] (ZT [Z5.mk x1.op x1.num x1.into x1.args ks]) (VV [Z5.mk x1.op x1.num x1.into x1.args ks]).symm 1 5 fun v12=>Yv 2 2 [] [(63,Vj [Z5.mk x1.op x1.num x1.into x1.args ks])] (Z8 13 (dp 13 6 [] [] (ZT ((xs++(D1.map (Zx 14)++R1.map (Zx 15)))++[Z5.mk x1.op x1.num x1.into x1.args ks])) (ZT (xs++(D1.map (Zx 14)++R1.map (Zx 15)))) (ZT [Z5.mk x1.op x1.num x1.into x1.args ks]) v3 none 5 (XE _) (XE _) (Ua _) (by simp<;>omega) (by simp [Vo,ZT]) fun v13=>Zs 0 1 [14] (de (az (Z0 1 (ZK k (Z1 ?_)))))))))
  obtain ⟨hn1,hn2⟩:=hfS.not_pair (by assumption) hoS.1
  rw [Zd (by rw [hn2];simp)] at hdt
  have hbj:=HR (xs:=x1.kids) (k:=j) om
  have hkt:=KT.eq hfS hn1 om W0
  have hq2:=hq1.kt hkt
  exact ZM ⟨k+1,((xs++(D1.map (Zx 14)++R1.map (Zx 15)))++[Z5.mk x1.op x1.num x1.into x1.args ks]),v13,[],u4,_,ob,(by rw [hdt];exact hq2),(by rw [htk];simp only [X7];omega),(fun s hs=>by cases hs),rfl,rfl,rfl⟩ (wk [4,4,4,0] (fw (ZW k fl)))
 have htl2:=Kl b.steps k
 have hxl2:=Zj.len
 refine ax 0 (aD 8 (CX 4 8 [0,1,4,5] [(66,Vj rn)] [1] (Z8 2 (dc 2 [] [1] [b1] (On rn (hrn:=(fun s hs=>(YL s hs).elim fun a h=>⟨a,h.1⟩))) ?_))))
 rintro _ _ ⟨D2,R2,v14,rfl,rfl,YR⟩
 have hsr:=YR
 have hq1:=Zj.run YL hsr.2.1 hsr.2.2
 have hl1:=Zj.len
 have htl1:=Kl b.steps k
 exact Yv 3 3 [] [(67,Vj (D2.map (Zx 14)++R2.map (Zx 15)))] (Z8 3 (dp 3 4 [1] [b1] (ZT (xs++(D2.map (Zx 14)++R2.map (Zx 15)))) (ZT xs) (ZT (D2.map (Zx 14)++R2.map (Zx 15))) v none 5 (XE _) (XE _) (Ua _) (by simp<;>omega) (by simp [Vo,ZT]) fun v15=>Zs 1 2 [6] (Z8 7 (YT 7 2 [] [] b2 [Xh (xs++(D2.map (Zx 14)++R2.map (Zx 15))) v15,.i b.result] (de (at_ (r3 [] [.agg [Xh (xs++(D2.map (Zx 14)++R2.map (Zx 15))) v15,.i b.result]] [0] [(b2,b2)] ⟨(Z7.mk (xs++(D2.map (Zx 14)++R2.map (Zx 15))) b.result),rfl,rfl,(by have e:b.steps.take k=b.steps:=WT om;rw [e] at ZD hq1;exact (hq1.block ⟨hr1,hr2⟩).le om)⟩ (Zc.agg (.cons (Zc.forget _ _) (.cons (lr _) .nil))))))))))
theorem Z63 (ds:List Ze) (nf:Nat) (b:Z7) (mm:Nat) (hf:fB ds nf mm b:=by exact ob) (hop:Vk Vu b:=by exact ob) (hz:b.sz<=100000000:=by exact ob):Zo 156 [Yn b] [] (fun r h=>∃(y:Z7),r=Yn y/\h=[]/\KB ds nf mm y b.sz):=by
 have key:∀k:Nat,∀(b2:Z7) (m2:Nat),(fB ds nf m2 b2)->(Vk Vu b2)->(b2.sz<=100000000)->(b2.sz<k)->Zo 156 [Yn b2] [] (fun r h=>∃(y:Z7),r=Yn y/\h=[]/\KB ds nf m2 y b2.sz):=by
  intro k
  induction k with
  | zero=>intro b2 m2 h1 h2 h3 h9;omega
  | succ k ih=>intro b2 m2 h1 h2 h3 h9;exact Z64 ds nf b2 m2 h1 h2 h3 fun b3 m3 q1 q2 q3 q9=>ih b3 m3 q1 q2 q3 om
 exact key (b.sz+1) b mm hf hop hz om
theorem Z65 (n:ZF) (qz:Nat) (hn:FO n qz Vu:=by exact ob) (hqz:qz<=10000000:=by exact ob):Zo 115 [YD n] [] (fun r h=>∃(n2:ZF),r=YD n2/\h=[]/\FO n2 qz Vu):=by
 have hnl:=hn.fn.len
 have Xo:=hn.fn.decls.ok
 have hok:=hn.fn.ok
 refine ZE 36 Tryz.func115 (ar (iA (X6 n) fun b1=>iA [nl,nl] fun b2=>ie (Zp 2 [1] (Zt [] (AW n.decls) (iL (X8 []) 0 5 fun v1=>Z0 1 (iA [nl,nl] fun b3=>?_))))))
 refine Zz 0 b3 [Yd n.decls,WL [] v1] (ie (Y6 (ab 0 (Y5 (fun fz gz m F h=>∃(k:Nat) (rs:List YA) (u:Value),(k<=n.routines.length)/\(rs.length=k)/\(∀r∈rs,RF n.decls n.routines.length qz Vu r)/\F=sF [1,2,3] fz [(4,.i k)]/\h=[.obj b3 [Yd n.decls,WL rs u],Zi gz 2,Zi gz 3,.tail u 5]/\m=n.routines.length-k) _ _ _ ⟨0,[],v1,ob,ob,(fun r hr=>by cases hr),rfl,rfl,rfl⟩ (wk [0,1,1,0] (Ye fl)) ?_))))
 rintro m F h ⟨k,rs,u,Yl,Zj,ZD,rfl,rfl,rfl⟩
 refine Yr 3 [2] (iw (TJ n.routines) (Y0 ((k:Int)<(n.routines.length:Int)) (fun Z9=>?_) (fun Z9=>?_)))
 ·refine ak (aq (ab 1 (aE 19 (ZY 14 19 [0,1,2,3,4] [0,2] ?_))))
  obtain ⟨x1,Z4⟩:=Zv n.routines k om
  have hrf:=hn.rf (Y4 Z4)
  have hrp:(x1).params.length<=3:=(Th.bd (f:=⟨(x1).params,(x1).result,default⟩) hrf.sig).1
  have hrl:=hrf.lent.1
  have hrz:=hrf.body.2
  refine dx 5 (Zk none (k:Int) 5 (VD Z4)) (ZY 9 13 [6,7,8,9] [2] (dx 10 (Zk none (k:Int) 5 (VD Z4)) (Zs 6 8 [11,12] (Z8 13 (dc 13 [] [2,0] [b1,b3] (Z63 n.decls n.routines.length x1.body _ (hf:=hrf.body.1) (hop:=hrf.op)) ?_)))))
  rintro _ _ ⟨y1,rfl,rfl,Y3⟩
  have hkb0:=Y3
  have hkb:=hkb0.le (z2:=qz) hrz
  exact Z8 14 (YF 14 [] [0] [b3] (DI x1 y1 (hp:=om) (hl:=om)) (Z8 15 (dL 15 [0] [b3] (X8 [YA.mk x1.params x1.lent x1.result y1]) 1 5 fun v2=>Yv 3 3 [] [(32,Jt [YA.mk x1.params x1.lent x1.result y1])] (Z8 16 (dp 16 4 [] [] (X8 (rs++[YA.mk x1.params x1.lent x1.result y1])) (X8 rs) (X8 [YA.mk x1.params x1.lent x1.result y1]) u none 5 (T0 _) (T0 _) (Bh _) (by simp<;>omega) (by simp [D6,X8]) fun v3=>Zs 1 2 [17] (Z8 18 (YT 18 2 [] [] b3 [Yd n.decls,WL (rs++[YA.mk x1.params x1.lent x1.result y1]) v3] (de (az (Z0 1 (ZK k (Z1 (ZM ⟨k+1,(rs++[YA.mk x1.params x1.lent x1.result y1]),v3,ob,ob,(XD ZD (hrf.with hkb.fb hkb.sz hkb.op)),rfl,rfl,rfl⟩ (wk [0,2,2,0] (ZW k fl)))))))))))))))
 exact ax 0 (Zp 1 [0] (Zz 1 b2 [Yd n.decls,WL rs u] (ie (at_ (r3 [] [.agg [Yd n.decls,WL rs u]] [0] [(b2,b2)] ⟨(ZF.mk n.decls rs),rfl,rfl,(FO.fin hn.fn om ZD).1⟩ (Zc.agg (.cons (lr _) (.cons (Zc.forget _ _) .nil))))))))
theorem Pb (b:Nat) (ga:Hd) (gb:Hd) (gc:Hd) (gd:Hd) (ge:Hd) (gf:Hd) (n:ZF) (s:Z5) (L:ZO) (ln:LI) (q:Int) (i:Nat) (kb0:Z7) (m:LI) (hn:Xs n:=by exact ob) (hk:XH n.decls L q:=by exact ob) (hf:BT n L.vars s:=by exact ob) (hop:s.op=7∨s.op=8:=by exact ob) (hkb:s.kids[i]? = some kb0:=by exact ob) (harm:(XY n.decls s.op s.num)[i]? = some m:=by exact ob) (hbt:0<=W1 n (L.vars++m) kb0:=by exact ob) (hb:L.vars.length+4*s.sz<=1000000000:=by exact ob) (hq:0<=q/\q+4*s.sz<=999999990:=by exact ob) (hln:ln.length<=4294967296:=by exact ob) (ih:∀(b2:Z7) (c:Nat) (ra:Hd) (rb:Hd) (rc:Hd) (rd:Hd) (re:Hd) (rf:Hd) (M:ZO) (mm:Nat) (p:Int),(b2.sz<s.sz)->(XH n.decls M p)->(0<=W1 n M.vars b2)->(mm<=M.vars.length)->(M.vars.length+4*b2.sz<=1000000000)->(0<=p/\p+4*b2.sz<=999999990)->Zo 255 [.p c 0,YD n,Yn b2,.i mm] [.obj c [.h ra,.h rb,.h rc,.h rd,.h re,.h rf,Z3 ln],rV ra M.vars,rV rb M.own,rV rc M.par,rV rd M.con,rV re M.fst,rV rf M.tok] (fun r h=>(∃(wa:Hd) (wb:Hd) (wc:Hd) (wd:Hd) (we:Hd) (wf:Hd) (M':ZO),r=.b true/\h=[.obj c [.h wa,.h wb,.h wc,.h wd,.h we,.h wf,Z3 ln],rV wa M'.vars,rV wb M'.own,rV wc M'.par,rV wd M'.con,rV we M'.fst,rV wf M'.tok]/\VS n ln M mm b2=some M')∨(r=.b false/\h=[]/\VS n ln M mm b2=none))):Zo 234 [.p b 0,YD n,X4 s,.i i] [.obj b [.h ga,.h gb,.h gc,.h gd,.h ge,.h gf,Z3 ln],rV ga L.vars,rV gb L.own,rV gc L.par,rV gd L.con,rV ge L.fst,rV gf L.tok] (fun r h=>(∃(c:Nat) (wa:Hd) (wb:Hd) (wc:Hd) (wd:Hd) (we:Hd) (wf:Hd) (L':ZO),r=.tup [.p c 0,.b true]/\h=[.obj c [.h wa,.h wb,.h wc,.h wd,.h we,.h wf,Z3 ln],rV wa L'.vars,rV wb L'.own,rV wc L'.par,rV wd L'.con,rV we L'.fst,rV wf L'.tok,.obj b [.h ga,.h gb,.h gc,.h gd,.h ge,.h gf,Z3 ln],rV ga L.vars,rV gb L.own,rV gc L.par,rV gd L.con,rV ge L.fst,rV gf L.tok]/\VS n ln (Tz n.decls L s.op s.num s.args i) L.vars.length kb0=some L')∨(r=.tup [.any,.b false]/\h=[.obj b [.h ga,.h gb,.h gc,.h gd,.h ge,.h gf,Z3 ln],rV ga L.vars,rV gb L.own,rV gc L.par,rV gd L.con,rV ge L.fst,rV gf L.tok]/\VS n ln (Tz n.decls L s.op s.num s.args i) L.vars.length kb0=none)):=by
 obtain ⟨e1,e2,e3,e4,e5⟩:=hk.len
 have Xo:=hn.decls
 have hkz:=QK s
 have haz:=J6 s
 have hK:=Gg hk hq.1 hf hop harm
 have hm3:=MH Xo harm
 have hkl:=(Xc.1 hkb).1
 have hks:=Q7 hkb
 refine ZE 83 Tryz.func234 (ar (iA (X6 n) fun b1=>iA (Wb s) fun b2=>Z1 (Zp 4 [2] (Zq (CG 3 ga L.vars) (Z1 (Ya 1 (ic [2,2,2,2,2,2,2] (Z9z b ga gb gc gd ge gf L ln (hlk:=hk.len)) ?_)))))))
 rintro _ _ ⟨c1,wa1,wb1,wc1,wd1,we1,wf1,rfl,rfl⟩
 refine Z1 (Xa (WI [14] (ac (s.op==8) Zb (fun Z9=>?_) (fun Z9=>?_))))
 ·obtain ⟨x,hxa⟩:=hf.one om
  have ha:s.args[0]? = some x:=by rw [hxa];rfl
  have hx:=hf.args x (by rw [hxa];simp)
  obtain ⟨cc,hcc,hmc⟩:=Z1q Z9 harm
  have hal:=(Xc.1 ha).1
  have hcl:=(Xc.1 hcc).1
  have hm4:=hm3
  rw [hmc] at hm4
  refine Zp 4 [15,14] (ic [] (KR n.decls s.num) ?_)
  rintro _ _ ⟨v1,rfl,rfl⟩
  refine Z0 1 (Zq (Zk (some v1) (i:Int) 1 (Y7 hcc)) (Z1 (Zp 3 [16] (Zt [] (Qa n.decls cc) (Z1 (aD 11 (ZY 5 11 [0,1,2,3,4,5] [1,15] (dx 6 (Zk none 0 1 (Y7 ha)) (Zs 2 4 [7,8] (dx 9 (U3 5 wd1 L.con x x.toNat (hq:=rfl)) (Z8 10 (C4 10 5 [] [] wd1 L.con x.toNat cc (de (aD 11 (ZY 5 11 [0,1,2,3,4,5] [2,15] (dx 6 (Zk none 0 1 (Y7 ha)) (Zs 2 4 [7,8] (dx 9 (U3 6 we1 L.fst x x.toNat (hq:=rfl)) (Z8 10 (C4 10 6 [] [] we1 L.fst x.toNat (L.vars.length:Int) (de (Y1 (ab 0 (Y5 (fun fz gz m F h=>∃(k:Nat) (L3:ZO) (ka:Hd) (kb:Hd) (kc:Hd) (kd:Hd) (ke:Hd) (kf:Hd),(k<=(ZQ n.decls cc).length)/\(Tf L3)/\(L3.vars.length=L.vars.length+k)/\(Ck L3 x ((ZQ n.decls cc).drop k)=BX n.decls L x cc)/\F=sF [3,5,6,10,11,13] fz [(14,.i k)]/\h=[.obj c1 [.h ka,.h kb,.h kc,.h kd,.h ke,.h kf,Z3 ln],Zi gz 8,Zi gz 9,Zi gz 10,Zi gz 11,Zi gz 12,Zi gz 13,Zi gz 14,Zi gz 15,Zi gz 16,rV ka L3.vars,rV kb L3.own,rV kc L3.par,rV kd L3.con,rV ke L3.fst,rV kf L3.tok]/\m=(ZQ n.decls cc).length-k) _ _ _ ⟨0,(ZO.mk L.vars L.own L.par (L.con.set x.toNat cc) (L.fst.set x.toNat (L.vars.length:Int)) L.tok),wa1,wb1,wc1,wd1,we1,wf1,ob,(Tf.arm hk.len),ob,(by rw [BX];rfl),rfl,rfl,rfl⟩ (wk [3,7,7,7,7,7,7,7,7,7,3,3,3,1,0,1] (Ye fl) (e:=(rc (rc (rc (rc (rc (rc (rc (rc (rc (rc (rv (xs:=L.vars) ob (rv (xs:=L.own) ob (rv (xs:=L.par) ob (rv (xs:=(L.con.set x.toNat cc)) ob (rv (xs:=(L.fst.set x.toNat (L.vars.length:Int))) ob (rv (xs:=L.tok) ob rz)))))))))))))))))) ?_))))))))))))))))))))))))
  rintro m F h ⟨k,L3,ka,kb,kc,kd,ke,kf,Yl,Zj,ZD,YL,rfl,rfl,rfl⟩
  refine YO 2 (io (.i (((ZQ n.decls cc).length:Nat):Int)) (.i (((Z6 (ZQ n.decls cc)).length:Nat):Int)) (li (by rw [Yc])) (Y0 ((k:Int)<(((ZQ n.decls cc).length:Nat):Int)) (fun Zh=>?_) (fun Zh=>?_)))
  ·refine ak (aq (ab 1 (aE 10 (Zs 7 10 [0,1,2] ?_))))
   obtain ⟨x1,Z4⟩:=Zv (ZQ n.decls cc) k om
   refine dx 3 (Zk none (k:Int) 1 (Y7 Z4)) (ZY 3 6 [4,5,6] [8] (dx 7 (Zk none 0 1 (Y7 ha)) (Zs 1 2 [8] (Z8 9 (dc 9 [0,9,9,9,9,9,9] [] [] (Ka c1 ka kb kc kd ke kf L3 ln x1 0 x (hlk:=Zj)) ?_)))))
   rintro _ _ ⟨wa2,wb2,wc2,wd2,we2,wf2,rfl⟩
   exact de (az (Z0 1 (ZK k (Z1 (ZM ⟨k+1,(L3.grow x1 0 x),wa2,wb2,wc2,wd2,we2,wf2,ob,(Tf.grow Zj),(by simp [ZO.grow];omega),(by rw [Yo Z4,Ck] at YL;exact YL),rfl,rfl,rfl⟩ (wk [0,6,6,6,6,6,6,6,6,6,0,0,0,0,0,0] (ZW k fl)))))))
  have hE:Tz n.decls L s.op s.num s.args i=L3:=by rw [Z9f Z9 ha hcc,<-YL,Xt om];rfl
  refine ax 0 (aD 12 (ZY 6 12 [0,1,2,3,4,5] [9,8] (dx 6 (Zk none (i:Int) 2 (UK hkb)) (Zs 3 5 [7,8] (Z8 9 (dc 9 [0,9,9,9,9,9,9] [] [] (ih kb0 c1 ka kb kc kd ke kf L3 L.vars.length q ob (by rw [<-hE];exact hK.1) (by rw [<-hE,hK.2];exact hbt) (by rw [<-hE,hK.2];simp) (by rw [<-hE,hK.2,Ys];omega) ob) ?_))))))
  rintro _ _ (⟨wa3,wb3,wc3,wd3,we3,wf3,M'1,rfl,rfl,Y3⟩|⟨rfl,rfl,Yq⟩)
  ·exact Zs 0 2 [10,11] (de (at_ (r2 [0,0,0,0,0,0,0,0,0,0,0,0,0,0] [.p c1 0,.b true] (.inl ⟨c1,wa3,wb3,wc3,wd3,we3,wf3,M'1,rfl,rfl,(by rw [hE];exact Y3)⟩) (lr _))))
  exact Zs 0 2 [10,11] (de (at_ (r2 [0,0,0,0,0,0,0] [.p c1 0,.b false] (.inr ⟨rfl,rfl,(by rw [hE];exact Yq)⟩) (Zc.tup (.cons (Zc.any _) (.cons (lr _) .nil))))))
 have hE:=Z9g (ds:=n.decls) (L:=L) (num:=s.num) (args:=s.args) (i:=i) Z9
 refine ak (aD 12 (ZY 6 12 [0,1,2,3,4,5] [15,14] (dx 6 (Zk none (i:Int) 2 (UK hkb)) (Zs 3 5 [7,8] (Z8 9 (dc 9 [0,0,0,0,0,0,0] [] [] (ih kb0 c1 wa1 wb1 wc1 wd1 we1 wf1 L L.vars.length q ob (by rw [<-hE];exact hK.1) (by rw [<-hE,hK.2];exact hbt) (by rw [<-hE,hK.2];simp) (by rw [<-hE,hK.2,Ys];omega) ob) ?_))))))
 rintro _ _ (⟨wa4,wb4,wc4,wd4,we4,wf4,M'2,rfl,rfl,YR⟩|⟨rfl,rfl,X1⟩)
 ·exact Zs 0 2 [10,11] (de (at_ (r2 [0,0,0,0,0,0,0,0,0,0,0,0,0,0] [.p c1 0,.b true] (.inl ⟨c1,wa4,wb4,wc4,wd4,we4,wf4,M'2,rfl,rfl,(by rw [hE];exact YR)⟩) (lr _))))
 exact Zs 0 2 [10,11] (de (at_ (r2 [0,0,0,0,0,0,0] [.p c1 0,.b false] (.inr ⟨rfl,rfl,(by rw [hE];exact X1)⟩) (Zc.tup (.cons (Zc.any _) (.cons (lr _) .nil))))))
theorem Z9y (b:Nat) (ga:Hd) (gb:Hd) (gc:Hd) (gd:Hd) (ge:Hd) (gf:Hd) (n:ZF) (s:Z5) (L:ZO) (ln:LI) (q:Int) (hn:Xs n:=by exact ob) (hk:XH n.decls L q:=by exact ob) (hf:BT n L.vars s:=by exact ob) (hop:s.op=7∨s.op=8:=by exact ob) (hb:L.vars.length+4*s.sz<=1000000000:=by exact ob) (hq:0<=q/\q+4*s.sz<=999999990:=by exact ob) (hln:ln.length<=4294967296:=by exact ob) (ih:∀(b2:Z7) (c:Nat) (ra:Hd) (rb:Hd) (rc:Hd) (rd:Hd) (re:Hd) (rf:Hd) (M:ZO) (mm:Nat) (p:Int),(b2.sz<s.sz)->(XH n.decls M p)->(0<=W1 n M.vars b2)->(mm<=M.vars.length)->(M.vars.length+4*b2.sz<=1000000000)->(0<=p/\p+4*b2.sz<=999999990)->Zo 255 [.p c 0,YD n,Yn b2,.i mm] [.obj c [.h ra,.h rb,.h rc,.h rd,.h re,.h rf,Z3 ln],rV ra M.vars,rV rb M.own,rV rc M.par,rV rd M.con,rV re M.fst,rV rf M.tok] (fun r h=>(∃(wa:Hd) (wb:Hd) (wc:Hd) (wd:Hd) (we:Hd) (wf:Hd) (M':ZO),r=.b true/\h=[.obj c [.h wa,.h wb,.h wc,.h wd,.h we,.h wf,Z3 ln],rV wa M'.vars,rV wb M'.own,rV wc M'.par,rV wd M'.con,rV we M'.fst,rV wf M'.tok]/\VS n ln M mm b2=some M')∨(r=.b false/\h=[]/\VS n ln M mm b2=none))):Zo 197 [.p b 0,YD n,X4 s] [.obj b [.h ga,.h gb,.h gc,.h gd,.h ge,.h gf,Z3 ln],rV ga L.vars,rV gb L.own,rV gc L.par,rV gd L.con,rV ge L.fst,rV gf L.tok] (fun r h=>(∃(wa:Hd) (wb:Hd) (wc:Hd) (wd:Hd) (we:Hd) (wf:Hd) (L':ZO),r=.b true/\h=[.obj b [.h wa,.h wb,.h wc,.h wd,.h we,.h wf,Z3 ln],rV wa L'.vars,rV wb L'.own,rV wc L'.par,rV wd L'.con,rV we L'.fst,rV wf L'.tok]/\C1 n ln L s=some L')∨(r=.b false/\h=[]/\C1 n ln L s=none)):=by
 obtain ⟨e1,e2,e3,e4,e5⟩:=hk.len
 have Xo:=hn.decls
 have hkz:=QK s
 have haz:=J6 s
 obtain ⟨hk1,hk2,hk3⟩:=hf.kids hop
 obtain ⟨kd,hkd⟩:=Zv s.kids 0 om
 obtain ⟨m0,hm0⟩:=Zv (XY n.decls s.op s.num) 0 om
 obtain ⟨x,hxa⟩:=hf.one om
 have ha:s.args[0]? = some x:=by rw [hxa];rfl
 have hx:=hf.args x (by rw [hxa];simp)
 have hgx:=K6 ha
 have hal:=(Xc.1 ha).1
 refine ZE 88 Tryz.func197 (ar (iA (X6 n) fun b1=>iA (Wb s) fun b2=>Z1 (Xa (Xn [0,4,5] [(23,.b ((s.op==8)&&(!UV L ln x)))] (fun gz=>[Zi gz 2,Zi gz 3,Zi gz 4,Zi gz 5,Zi gz 6,Zi gz 7,Zi gz 8,Zi gz 0,Zi gz 1]) ?_ ?_))))
 ·refine Zu 4 [0] (ib (b:=(s.op==8)) 15 (fun Za=>?_) (fun Za=>?_))
  ·exact Zu 3 [0] (Zq (Zk none 0 1 (Y7 ha)) (Z0 1 (Zt [2,2,2,2,2,2,2] (Gk b ga gb gc gd ge gf L ln x (hlk:=hk.len) (hd:=hk.down)) (Z1 (Zw 9 (Zf (!UV L ln x) Za fl))))))
  exact Z1 (wk [2,2,2,2,2,2,2,0,0] (Zf false Za fl))
 refine ac ((s.op==8)&&(!UV L ln x)) (p:=(s.op=8)/\(¬(UV L ln x=true))) (Y2 Zb (Yg Iff.rfl)) (fun Z9=>?_) (fun Z9=>?_)
 ·exact ar (Zm (r1 [] (.inr ⟨rfl,rfl,(by rw [C1,Zl (by rw [hgx];exact Z9)])⟩)))
 have hgo:=Z2d (n:=n) (ln:=ln) (L:=L) (s:=s) (by rw [hgx];exact Z9) hkd
 refine ak (Zp 3 [8,7] (ic [0,0,0,0,0,0,0] (Pb b ga gb gc gd ge gf n s L ln q 0 kd m0 (hkb:=hkd) (harm:=hm0) (hbt:=(hk3 0 kd m0 hkd hm0)) (ih:=ob)) ?_))
 rintro _ _ (⟨c1,wa1,wb1,wc1,wd1,we1,wf1,L'1,rfl,rfl,YR⟩|⟨rfl,rfl,X1⟩)
 ·have hone:=YR
  obtain ⟨l1,l2⟩:=P2 hn hk hq.1 hf hop hkd hm0 (hk3 0 kd m0 hkd hm0) hone
  refine Z1 (Y6 (WW (ak (Y6 (ab 0 (Y5 (fun fz gz m F h=>∃(k:Nat),(1<=k/\k<=s.kids.length)/\(Jm n ln L s.op s.num s.args L'1 (s.kids.drop k) k=Jm n ln L s.op s.num s.args L'1 (s.kids.drop 1) 1)/\F=sF [0,4,5,7] fz [(9,.i k)]/\h=gz/\m=s.kids.length-k) _ _ _ ⟨1,ob,ob,rfl,rfl,rfl⟩ (Zw 16 (fc (x:=.i 1) li fl)) ?_))))))
  rintro m F h ⟨k,Yl,Zj,rfl,rfl,rfl⟩
  refine Yr 3 [14] (iw (K3 s.kids) (Y0 ((k:Int)<(s.kids.length:Int)) (fun Zh=>?_) (fun Zh=>?_)))
  ·obtain ⟨ke,hke⟩:=Zv s.kids k om
   obtain ⟨mk,hmk⟩:=Zv (XY n.decls s.op s.num) k om
   have hcs:=Z9i (n:=n) (ln:=ln) (L:=L) (op:=s.op) (num:=s.num) (args:=s.args) (one:=L'1) hke
   refine ak (aq (ab 1 (Zp 4 [15,14] (ic [7,7,7,7,7,7,7] (Pb b ga gb gc gd ge gf n s L ln q k ke mk (hkb:=hke) (harm:=hmk) (hbt:=(hk3 k ke mk hke hmk)) (ih:=ob)) ?_))))
   rintro _ _ (⟨c2,wa2,wb2,wc2,wd2,we2,wf2,L'2,rfl,rfl,Xe⟩|⟨rfl,rfl,XO⟩)
   ·have htwo:=Xe
    obtain ⟨l3,l4⟩:=P2 hn hk hq.1 hf hop hke hmk (hk3 k ke mk hke hmk) htwo
    refine Z1 (aD 26 (ZY 15 26 [0,1,2,3,4,5,6,7,8,9,10] [14,0] (Z8 11 (JU 11 [16,2] [] [] [rV wb1 L'1.own,rV wb2 L'2.own] (St L'1.own L'2.own) Fy (gL (v:=wb1) 0 (gL (v:=wb2) 1 gN)) (KJ (KJ A5)) ?_))))
    rintro _ _ ⟨rfl,rfl⟩
    refine C3 [0,4,5,7,9] [(73,.b ((!(decide (L'1.own=L'2.own)))||(!(decide (L'1.tok=L'2.tok)))))] (fun gz=>gz) ?_ ?_
    ·refine Zs 11 14 [12,13,14] (db (b:=(!(decide (L'1.own=L'2.own)))) 62 (fun ZA=>?_) (fun ZA=>?_))
     ·exact Zs 0 11 [15,16,17,18,19,20,21,22,23,24,25] (de (Zw 23 (Zf true ZA fl)))
     refine ZY 3 11 [15,16,17,18,19,20,21,22] [15,2] (Z8 23 (JU 23 [20,7] [] [] [rV wf1 L'1.tok,rV wf2 L'2.tok] (St L'1.tok L'2.tok) Fy (gL (v:=wf1) 0 (gL (v:=wf2) 1 gN)) (KJ (KJ A5)) ?_))
     rintro _ _ ⟨rfl,rfl⟩
     exact Zs 0 2 [24,25] (de (wk [2,2,2,2,2,2,2,1,1,1,1,1,1,1,1,1,1,1,1,1,0,0,0] (Zf (!(decide (L'1.tok=L'2.tok))) ZA fl)))
    refine ac ((!(decide (L'1.own=L'2.own)))||(!(decide (L'1.tok=L'2.tok)))) (p:=(¬(L'1.own=L'2.own))∨(¬(L'1.tok=L'2.tok))) (ZB (Yg dq) (Yg dq)) (fun ZC=>?_) (fun ZC=>?_)
    ·exact ar (Zm (r1 [] (.inr ⟨rfl,rfl,(by rw [hgo,hone];exact Pn (by rw [<-Zj,hcs,htwo];exact Zd2 ZC))⟩)))
    exact ak (az (Z0 1 (ZK k (Z1 (ZM ⟨k+1,ob,(by rw [hcs,htwo,Zd3 ZC] at Zj;exact Zj),rfl,rfl,rfl⟩ (wk [15,15,0,14,14,14,14,7,7,7,7,7,7,7,7,7] (ZW k fl)))))))
   have htwo:=XO
   exact Z1 (aD 26 (Zs 0 26 [0,1,2,3,4,5,6,7,8,9,10,11,12,13,14,15,16,17,18,19,20,21,22,23,24,25] (de (Vn (ar (Zm (r1 [] (.inr ⟨rfl,rfl,(by rw [hgo,hone];exact Pn (by rw [<-Zj,hcs,htwo];rfl))⟩))))))))
  have hE:Jm n ln L s.op s.num s.args L'1 (s.kids.drop 1) 1=true:=by rw [<-Zj,Xt om,Jm]
  exact ax 0 (Zp 7 [0] (Zz 7 b [.h ga,.h wb1,.h gc,.h gd,.h ge,.h gf,Z3 ln] (ie (Zp 7 [1] (Zz 0 b [.h ga,.h wb1,.h gc,.h gd,.h ge,.h wf1,Z3 ln] (ie (ar (Zm (r1 [0,7,2,7,7,7,5] (.inl ⟨ga,wb1,gc,gd,ge,wf1,(ZO.mk L.vars L'1.own L.par L.con L.fst L'1.tok),rfl,rfl,(by rw [hgo,hone];exact Zaf hE)⟩) (eq:=(rc (rv (xs:=L.vars) ob (rv (xs:=L'1.own) ob (rv (xs:=L.par) ob (rv (xs:=L.con) ob (rv (xs:=L.fst) ob (rv (xs:=L'1.tok) ob rz)))))))))))))))))
 have hone:=X1
 exact Z1 (Y6 (Vn (ar (Zm (r1 [] (.inr ⟨rfl,rfl,(by rw [hgo,hone];rfl)⟩))))))
theorem Pc (b:Nat) (ga:Hd) (gb:Hd) (gc:Hd) (gd:Hd) (ge:Hd) (gf:Hd) (n:ZF) (s:Z5) (L:ZO) (ln:LI) (q:Int) (hn:Xs n:=by exact ob) (hk:XH n.decls L q:=by exact ob) (ht:0<=X0 n L.vars s:=by exact ob) (hb:L.vars.length+4*s.sz<=1000000000:=by exact ob) (hq:0<=q/\q+4*s.sz<=999999990:=by exact ob) (hln:ln.length<=4294967296:=by exact ob) (ih:∀(b2:Z7) (c:Nat) (ra:Hd) (rb:Hd) (rc:Hd) (rd:Hd) (re:Hd) (rf:Hd) (M:ZO) (mm:Nat) (p:Int),(b2.sz<s.sz)->(XH n.decls M p)->(0<=W1 n M.vars b2)->(mm<=M.vars.length)->(M.vars.length+4*b2.sz<=1000000000)->(0<=p/\p+4*b2.sz<=999999990)->Zo 255 [.p c 0,YD n,Yn b2,.i mm] [.obj c [.h ra,.h rb,.h rc,.h rd,.h re,.h rf,Z3 ln],rV ra M.vars,rV rb M.own,rV rc M.par,rV rd M.con,rV re M.fst,rV rf M.tok] (fun r h=>(∃(wa:Hd) (wb:Hd) (wc:Hd) (wd:Hd) (we:Hd) (wf:Hd) (M':ZO),r=.b true/\h=[.obj c [.h wa,.h wb,.h wc,.h wd,.h we,.h wf,Z3 ln],rV wa M'.vars,rV wb M'.own,rV wc M'.par,rV wd M'.con,rV we M'.fst,rV wf M'.tok]/\VS n ln M mm b2=some M')∨(r=.b false/\h=[]/\VS n ln M mm b2=none))):Zo 173 [.p b 0,YD n,X4 s] [.obj b [.h ga,.h gb,.h gc,.h gd,.h ge,.h gf,Z3 ln],rV ga L.vars,rV gb L.own,rV gc L.par,rV gd L.con,rV ge L.fst,rV gf L.tok] (fun r h=>(∃(wa:Hd) (wb:Hd) (wc:Hd) (wd:Hd) (we:Hd) (wf:Hd) (L':ZO),r=.b true/\h=[.obj b [.h wa,.h wb,.h wc,.h wd,.h we,.h wf,Z3 ln],rV wa L'.vars,rV wb L'.own,rV wc L'.par,rV wd L'.con,rV we L'.fst,rV wf L'.tok]/\Qo n ln L s=some L')∨(r=.b false/\h=[]/\Qo n ln L s=none)):=by
 obtain ⟨e1,e2,e3,e4,e5⟩:=hk.len
 have Xo:=hn.decls
 have hkz:=QK s
 have haz:=J6 s
 have hf:=SN ht
 refine ZE 89 Tryz.func173 (ar (iA (X6 n) fun b1=>iA (Wb s) fun b2=>Z1 (aD 8 (ZY 2 8 [0,1,2,3,4,5] [1,2,0] (Z8 6 (JU 6 [3] [] [] [rV ga L.vars] (M2 n L.vars s ob ob) Fy (gS (gL (v:=ga) 0 (gS gN))) (KJ A5) ?_))))))
 rintro _ _ ⟨rfl,rfl⟩
 refine Zs 0 1 [7] (de (Y1 (Xa (WI [1] (ab 0 (ar (Yz (s.op==14) Zb (fun Z9=>?_) (fun Z9=>?_))))))))
 ·obtain ⟨x,hxa⟩:=hf.one om
  have ha:s.args[0]? = some x:=by rw [hxa];rfl
  have hx:=hf.args x (by rw [hxa];simp)
  have hgx:=K6 ha
  have hal:=(Xc.1 ha).1
  obtain ⟨xo,hxo⟩:=Zv L.own x.toNat om
  have hgo:=T5 hxo
  have hob:=hk.bd xo (Y4 hxo)
  have hon:=hk.nn xo (Y4 hxo)
  refine Zp 3 [1] (Zq (Zk none 0 1 (Y7 ha)) (Z0 1 (Zt [3,0,2,2,2,2,2] (Gk b ga gb gc gd ge gf L ln x (hlk:=hk.len) (hd:=hk.down)) (Z1 (aE 21 (ZY 15 21 [0,1,2,3,4,5] [0,7] (dx 6 (Zk none 0 1 (Y7 ha)) (ZY 7 14 [7,8,9,10,11,12,13] [0,7] (dx 14 (Zk none 0 1 (Y7 ha)) (Zs 5 6 [15] (dx 16 (U3 2 gb L.own x x.toNat (hq:=rfl)) (Ur 17 (Qb 2 gb L.own x.toNat xo hxo) (da 18 ((xo+1)) ((xo)+(1)) (dx 19 (U3 2 gb L.own x x.toNat (hq:=rfl)) (Z8 20 (C4 20 2 [] [] gb L.own x.toNat (xo+1) (de (Xa (Yz (!UV L ln x) (p:=¬(UV L ln x=true)) (Yg Iff.rfl) (fun Zh=>?_) (fun Zh=>?_))))))))))))))))))))
  ·have hP:=(PU (n:=n) (ln:=ln) (L:=L) Z9 hgx).trans (Z3q Zh)
   exact ar (Zm (r1 [] (.inr ⟨rfl,rfl,(by rw [Tb,hP];first|rfl|exact T2 (by assumption)|exact T3 (by assumption) (by assumption)|exact T4 (by assumption))⟩)))
  have hP:=(PU (n:=n) (ln:=ln) (L:=L) Z9 hgx).trans (Z3r Zh hgo)
  obtain ⟨kx,hxv⟩:=EL hn hk hq.1 hf hP
  refine ak (Yr 2 [7] (Zt [] (QU s.op) (Xn [0,5,7] [(80,.b (Xg s.op&&((X0 n L.vars s) != 0)))] (fun gz=>gz) ?_ ?_)))
  ·refine Z0 1 (ib (b:=Xg s.op) 77 (fun Za=>?_) (fun Za=>?_))
   ·exact Z1 (Zw 9 (Zf ((X0 n L.vars s) != 0) Za fl))
   exact Z1 (Zw 9 (Zf false Za fl))
  refine ac (Xg s.op&&((X0 n L.vars s) != 0)) (p:=(Xg s.op=true)/\((X0 n L.vars s)≠0)) (Y2 Iff.rfl Yi) (fun ZC=>?_) (fun ZC=>?_)
  ·refine az (Z0 2 (ic [1,1,0,0,0,0,0] (Ka b ga gb gc gd ge gf (ZO.mk L.vars (L.own.set x.toNat (xo+1)) L.par L.con L.fst L.tok) ln (X0 n L.vars s) 1 (-1) (hlb:=(by rw [hxv];omega)) (hlk:=kx.len)) ?_))
   rintro _ _ ⟨wa1,wb1,wc1,wd1,we1,wf1,rfl⟩
   exact ie (ar (Zm (r1 [0,0,0,0,0,0,0] (.inl ⟨wa1,wb1,wc1,wd1,we1,wf1,((ZO.mk L.vars (L.own.set x.toNat (xo+1)) L.par L.con L.fst L.tok).grow (X0 n L.vars s) 1 (-1)),rfl,rfl,(by rw [Tb,hP];first|rfl|exact T2 (by assumption)|exact T3 (by assumption) (by assumption)|exact T4 (by assumption))⟩))))
  refine Zp 2 [7] (Zt [] (QU s.op) (ie (ac (Xg s.op) Iff.rfl (fun Yh=>?_) (fun Yh=>?_))))
  ·refine az (Z0 1 (ic [1,1,0,0,0,0,0] (Ka b ga gb gc gd ge gf (ZO.mk L.vars (L.own.set x.toNat (xo+1)) L.par L.con L.fst L.tok) ln 0 0 (-1) (hlb:=(by rw [hxv];omega)) (hlk:=kx.len)) ?_))
   rintro _ _ ⟨wa2,wb2,wc2,wd2,we2,wf2,rfl⟩
   exact ie (ar (Zm (r1 [0,0,0,0,0,0,0] (.inl ⟨wa2,wb2,wc2,wd2,we2,wf2,((ZO.mk L.vars (L.own.set x.toNat (xo+1)) L.par L.con L.fst L.tok).grow 0 0 (-1)),rfl,rfl,(by rw [Tb,hP];first|rfl|exact T2 (by assumption)|exact T3 (by assumption) (by assumption)|exact T4 (by assumption))⟩))))
  exact ak (ar (Zm (r1 [1,1,0,0,0,0,0] (.inl ⟨ga,gb,gc,gd,ge,gf,(ZO.mk L.vars (L.own.set x.toNat (xo+1)) L.par L.con L.fst L.tok),rfl,rfl,(by rw [Tb,hP];first|rfl|exact T2 (by assumption)|exact T3 (by assumption) (by assumption)|exact T4 (by assumption))⟩) (eq:=(rc (rv (xs:=L.vars) ob (rv (xs:=(L.own.set x.toNat (xo+1))) ob (rv (xs:=L.par) ob (rv (xs:=L.con) ob (rv (xs:=L.fst) ob (rv (xs:=L.tok) ob rz)))))))))))
 refine ar (Yz (s.op==15) Zb (fun YJ=>?_) (fun YJ=>?_))
 ·obtain ⟨x,hxa⟩:=hf.one om
  have ha:s.args[0]? = some x:=by rw [hxa];rfl
  have hx:=hf.args x (by rw [hxa];simp)
  have hgx:=K6 ha
  have hal:=(Xc.1 ha).1
  refine az (Zu 3 [1] (Zq (Zk none 0 1 (Y7 ha)) (Z0 1 (ic [3,0,2,2,2,2,2] (Gl b ga gb gc gd ge gf L ln x (hlk:=hk.len) (hq:=(fun y hy=>⟨hk.nn y hy,by have:=hk.bd y hy;omega⟩))) ?_))))
  rintro _ _ (⟨wa3,wb3,wc3,wd3,we3,wf3,L'1,rfl,rfl,YR⟩|⟨rfl,rfl,X1⟩)
  ·have hP:=(PV (n:=n) (ln:=ln) (L:=L) YJ hgx).trans (YR)
   obtain ⟨kx,hxv⟩:=EL hn hk hq.1 hf hP
   refine Z1 (Y6 (WW (ak (Yr 2 [7] (Zt [] (QU s.op) (Xn [0,5,7] [(80,.b (Xg s.op&&((X0 n L.vars s) != 0)))] (fun gz=>gz) ?_ ?_))))))
   ·refine Z0 1 (ib (b:=Xg s.op) 77 (fun ZA=>?_) (fun ZA=>?_))
    ·exact Z1 (Zw 9 (Zf ((X0 n L.vars s) != 0) ZA fl))
    exact Z1 (Zw 9 (Zf false ZA fl))
   refine ac (Xg s.op&&((X0 n L.vars s) != 0)) (p:=(Xg s.op=true)/\((X0 n L.vars s)≠0)) (Y2 Iff.rfl Yi) (fun X2=>?_) (fun X2=>?_)
   ·refine az (Z0 2 (ic [0,0,0,0,0,0,0] (Ka b wa3 wb3 wc3 wd3 we3 wf3 L'1 ln (X0 n L.vars s) 1 (-1) (hlb:=(by rw [hxv];omega)) (hlk:=kx.len)) ?_))
    rintro _ _ ⟨wa4,wb4,wc4,wd4,we4,wf4,rfl⟩
    exact ie (ar (Zm (r1 [0,0,0,0,0,0,0] (.inl ⟨wa4,wb4,wc4,wd4,we4,wf4,(L'1.grow (X0 n L.vars s) 1 (-1)),rfl,rfl,(by rw [Tb,hP];first|rfl|exact T2 (by assumption)|exact T3 (by assumption) (by assumption)|exact T4 (by assumption))⟩))))
   refine Zp 2 [7] (Zt [] (QU s.op) (ie (ac (Xg s.op) Iff.rfl (fun Wx=>?_) (fun Wx=>?_))))
   ·refine az (Z0 1 (ic [0,0,0,0,0,0,0] (Ka b wa3 wb3 wc3 wd3 we3 wf3 L'1 ln 0 0 (-1) (hlb:=(by rw [hxv];omega)) (hlk:=kx.len)) ?_))
    rintro _ _ ⟨wa5,wb5,wc5,wd5,we5,wf5,rfl⟩
    exact ie (ar (Zm (r1 [0,0,0,0,0,0,0] (.inl ⟨wa5,wb5,wc5,wd5,we5,wf5,(L'1.grow 0 0 (-1)),rfl,rfl,(by rw [Tb,hP];first|rfl|exact T2 (by assumption)|exact T3 (by assumption) (by assumption)|exact T4 (by assumption))⟩))))
   exact ak (ar (Zm (r1 [0,0,0,0,0,0,0] (.inl ⟨wa3,wb3,wc3,wd3,we3,wf3,L'1,rfl,rfl,(by rw [Tb,hP];first|rfl|exact T2 (by assumption)|exact T3 (by assumption) (by assumption)|exact T4 (by assumption))⟩))))
  have hP:=(PV (n:=n) (ln:=ln) (L:=L) YJ hgx).trans (X1)
  exact Z1 (Y6 (Vn (ar (Zm (r1 [] (.inr ⟨rfl,rfl,(by rw [Tb,hP];first|rfl|exact T2 (by assumption)|exact T3 (by assumption) (by assumption)|exact T4 (by assumption))⟩))))))
 refine Y6 (Xu (fun fz gz F h=>F=sF [0,4,5,7,17] fz [(58,.b ((s.op==16)||(s.op==17)))]/\h=gz) ?_ ?_)
 ·refine ac (s.op==16) Zb (fun Vx=>?_) (fun Vx=>?_)
  ·exact ak (ZH ⟨rfl,rfl⟩ (Zw 9 (fc (x:=.b (s.op==16)) (lb (by first|rfl|(rw [Zl Vx])|(rw [Zd Vx])|(simp [Vx];done)|(rw [Yb];simp [Vx];done)|omega)) fl)))
  exact Vq (ZH ⟨rfl,rfl⟩ (Zw 9 (fc (x:=.b (s.op==17)) (lb (by first|rfl|(rw [Zl Vx])|(rw [Zd Vx])|(simp [Vx];done)|(rw [Yb];simp [Vx];done)|omega)) fl)))
 rintro F h ⟨rfl,rfl⟩
 refine ac ((s.op==16)||(s.op==17)) (p:=(s.op=16)∨(s.op=17)) (ZB Zb Zb) (fun V3=>?_) (fun V3=>?_)
 ·obtain ⟨x,hxa⟩:=hf.one om
  have ha:s.args[0]? = some x:=by rw [hxa];rfl
  have hx:=hf.args x (by rw [hxa];simp)
  have hgx:=K6 ha
  have hal:=(Xc.1 ha).1
  refine az (Zu 3 [2,1] (ic [3,0,2,2,2,2,2] (Za1 b ga gb gc gd ge gf n s L ln q x) ?_))
  rintro _ _ (⟨wa6,wb6,wc6,wd6,we6,wf6,L'2,rfl,rfl,W9⟩|⟨rfl,rfl,WB⟩)
  ·have hP:=(PW (n:=n) (ln:=ln) (L:=L) V3 hgx).trans (W9)
   obtain ⟨kx,hxv⟩:=EL hn hk hq.1 hf hP
   refine Z1 (Y6 (WW (ak (Yr 2 [7] (Zt [] (QU s.op) (Xn [0,5,7] [(80,.b (Xg s.op&&((X0 n L.vars s) != 0)))] (fun gz=>gz) ?_ ?_))))))
   ·refine Z0 1 (ib (b:=Xg s.op) 77 (fun Yf=>?_) (fun Yf=>?_))
    ·exact Z1 (Zw 9 (Zf ((X0 n L.vars s) != 0) Yf fl))
    exact Z1 (Zw 9 (Zf false Yf fl))
   refine ac (Xg s.op&&((X0 n L.vars s) != 0)) (p:=(Xg s.op=true)/\((X0 n L.vars s)≠0)) (Y2 Iff.rfl Yi) (fun Vg=>?_) (fun Vg=>?_)
   ·refine az (Z0 2 (ic [0,0,0,0,0,0,0] (Ka b wa6 wb6 wc6 wd6 we6 wf6 L'2 ln (X0 n L.vars s) 1 (-1) (hlb:=(by rw [hxv];omega)) (hlk:=kx.len)) ?_))
    rintro _ _ ⟨wa7,wb7,wc7,wd7,we7,wf7,rfl⟩
    exact ie (ar (Zm (r1 [0,0,0,0,0,0,0] (.inl ⟨wa7,wb7,wc7,wd7,we7,wf7,(L'2.grow (X0 n L.vars s) 1 (-1)),rfl,rfl,(by rw [Tb,hP];first|rfl|exact T2 (by assumption)|exact T3 (by assumption) (by assumption)|exact T4 (by assumption))⟩))))
   refine Zp 2 [7] (Zt [] (QU s.op) (ie (ac (Xg s.op) Iff.rfl (fun Tl=>?_) (fun Tl=>?_))))
   ·refine az (Z0 1 (ic [0,0,0,0,0,0,0] (Ka b wa6 wb6 wc6 wd6 we6 wf6 L'2 ln 0 0 (-1) (hlb:=(by rw [hxv];omega)) (hlk:=kx.len)) ?_))
    rintro _ _ ⟨wa8,wb8,wc8,wd8,we8,wf8,rfl⟩
    exact ie (ar (Zm (r1 [0,0,0,0,0,0,0] (.inl ⟨wa8,wb8,wc8,wd8,we8,wf8,(L'2.grow 0 0 (-1)),rfl,rfl,(by rw [Tb,hP];first|rfl|exact T2 (by assumption)|exact T3 (by assumption) (by assumption)|exact T4 (by assumption))⟩))))
   exact ak (ar (Zm (r1 [0,0,0,0,0,0,0] (.inl ⟨wa6,wb6,wc6,wd6,we6,wf6,L'2,rfl,rfl,(by rw [Tb,hP];first|rfl|exact T2 (by assumption)|exact T3 (by assumption) (by assumption)|exact T4 (by assumption))⟩))))
  have hP:=(PW (n:=n) (ln:=ln) (L:=L) V3 hgx).trans (WB)
  exact Z1 (Y6 (Vn (ar (Zm (r1 [] (.inr ⟨rfl,rfl,(by rw [Tb,hP];first|rfl|exact T2 (by assumption)|exact T3 (by assumption) (by assumption)|exact T4 (by assumption))⟩))))))
 refine Y6 (Xu (fun fz gz F h=>F=sF [0,4,5,7] fz [(65,.b ((s.op==7)||(s.op==8)))]/\h=gz) ?_ ?_)
 ·refine ac (s.op==7) Zb (fun Vh=>?_) (fun Vh=>?_)
  ·exact ak (ZH ⟨rfl,rfl⟩ (Zw 9 (fc (x:=.b (s.op==7)) (lb (by first|rfl|(rw [Zl Vh])|(rw [Zd Vh])|(simp [Vh];done)|(rw [Yb];simp [Vh];done)|omega)) fl)))
  exact Vq (ZH ⟨rfl,rfl⟩ (Zw 9 (fc (x:=.b (s.op==8)) (lb (by first|rfl|(rw [Zl Vh])|(rw [Zd Vh])|(simp [Vh];done)|(rw [Yb];simp [Vh];done)|omega)) fl)))
 rintro F h ⟨rfl,rfl⟩
 refine ac ((s.op==7)||(s.op==8)) (p:=(s.op=7)∨(s.op=8)) (ZB Zb Zb) (fun TL=>?_) (fun TL=>?_)
 ·refine az (Zu 3 [2,1] (ic [3,0,2,2,2,2,2] (Z9y b ga gb gc gd ge gf n s L ln q (ih:=ob)) ?_))
  rintro _ _ (⟨wa9,wb9,wc9,wd9,we9,wf9,L'3,rfl,rfl,Uy⟩|⟨rfl,rfl,Ub⟩)
  ·have hP:=(PX (n:=n) (ln:=ln) (L:=L) TL).trans (Uy)
   obtain ⟨kx,hxv⟩:=EL hn hk hq.1 hf hP
   refine Z1 (Y6 (WW (ak (Yr 2 [7] (Zt [] (QU s.op) (Xn [0,5,7] [(80,.b (Xg s.op&&((X0 n L.vars s) != 0)))] (fun gz=>gz) ?_ ?_))))))
   ·refine Z0 1 (ib (b:=Xg s.op) 77 (fun YQ=>?_) (fun YQ=>?_))
    ·exact Z1 (Zw 9 (Zf ((X0 n L.vars s) != 0) YQ fl))
    exact Z1 (Zw 9 (Zf false YQ fl))
   refine ac (Xg s.op&&((X0 n L.vars s) != 0)) (p:=(Xg s.op=true)/\((X0 n L.vars s)≠0)) (Y2 Iff.rfl Yi) (fun Cl=>?_) (fun Cl=>?_)
   ·refine az (Z0 2 (ic [0,0,0,0,0,0,0] (Ka b wa9 wb9 wc9 wd9 we9 wf9 L'3 ln (X0 n L.vars s) 1 (-1) (hlb:=(by rw [hxv];omega)) (hlk:=kx.len)) ?_))
    rintro _ _ ⟨wa10,wb10,wc10,wd10,we10,wf10,rfl⟩
    exact ie (ar (Zm (r1 [0,0,0,0,0,0,0] (.inl ⟨wa10,wb10,wc10,wd10,we10,wf10,(L'3.grow (X0 n L.vars s) 1 (-1)),rfl,rfl,(by rw [Tb,hP];first|rfl|exact T2 (by assumption)|exact T3 (by assumption) (by assumption)|exact T4 (by assumption))⟩))))
   refine Zp 2 [7] (Zt [] (QU s.op) (ie (ac (Xg s.op) Iff.rfl (fun El=>?_) (fun El=>?_))))
   ·refine az (Z0 1 (ic [0,0,0,0,0,0,0] (Ka b wa9 wb9 wc9 wd9 we9 wf9 L'3 ln 0 0 (-1) (hlb:=(by rw [hxv];omega)) (hlk:=kx.len)) ?_))
    rintro _ _ ⟨wa11,wb11,wc11,wd11,we11,wf11,rfl⟩
    exact ie (ar (Zm (r1 [0,0,0,0,0,0,0] (.inl ⟨wa11,wb11,wc11,wd11,we11,wf11,(L'3.grow 0 0 (-1)),rfl,rfl,(by rw [Tb,hP];first|rfl|exact T2 (by assumption)|exact T3 (by assumption) (by assumption)|exact T4 (by assumption))⟩))))
   exact ak (ar (Zm (r1 [0,0,0,0,0,0,0] (.inl ⟨wa9,wb9,wc9,wd9,we9,wf9,L'3,rfl,rfl,(by rw [Tb,hP];first|rfl|exact T2 (by assumption)|exact T3 (by assumption) (by assumption)|exact T4 (by assumption))⟩))))
  have hP:=(PX (n:=n) (ln:=ln) (L:=L) TL).trans (Ub)
  exact Z1 (Y6 (Vn (ar (Zm (r1 [] (.inr ⟨rfl,rfl,(by rw [Tb,hP];first|rfl|exact T2 (by assumption)|exact T3 (by assumption) (by assumption)|exact T4 (by assumption))⟩))))))
 refine az (Zu 3 [2,1] (ic [3,0,2,2,2,2,2] (Za0 b ga gb gc gd ge gf n s L ln q (hnum:=hf.num) (hargs:=hf.args) (hinto:=(fun q=>(hf.into om).2))) ?_))
 rintro _ _ (⟨wa12,wb12,wc12,wd12,we12,wf12,L'4,rfl,rfl,UN⟩|⟨rfl,rfl,QJ⟩)
 ·have hP:=(PY (n:=n) (ln:=ln) (L:=L) Z9 YJ V3 TL).trans (UN)
  obtain ⟨kx,hxv⟩:=EL hn hk hq.1 hf hP
  refine Z1 (Y6 (WW (ak (Yr 2 [7] (Zt [] (QU s.op) (Xn [0,5,7] [(80,.b (Xg s.op&&((X0 n L.vars s) != 0)))] (fun gz=>gz) ?_ ?_))))))
  ·refine Z0 1 (ib (b:=Xg s.op) 77 (fun Xd=>?_) (fun Xd=>?_))
   ·exact Z1 (Zw 9 (Zf ((X0 n L.vars s) != 0) Xd fl))
   exact Z1 (Zw 9 (Zf false Xd fl))
  refine ac (Xg s.op&&((X0 n L.vars s) != 0)) (p:=(Xg s.op=true)/\((X0 n L.vars s)≠0)) (Y2 Iff.rfl Yi) (fun K8=>?_) (fun K8=>?_)
  ·refine az (Z0 2 (ic [0,0,0,0,0,0,0] (Ka b wa12 wb12 wc12 wd12 we12 wf12 L'4 ln (X0 n L.vars s) 1 (-1) (hlb:=(by rw [hxv];omega)) (hlk:=kx.len)) ?_))
   rintro _ _ ⟨wa13,wb13,wc13,wd13,we13,wf13,rfl⟩
   exact ie (ar (Zm (r1 [0,0,0,0,0,0,0] (.inl ⟨wa13,wb13,wc13,wd13,we13,wf13,(L'4.grow (X0 n L.vars s) 1 (-1)),rfl,rfl,(by rw [Tb,hP];first|rfl|exact T2 (by assumption)|exact T3 (by assumption) (by assumption)|exact T4 (by assumption))⟩))))
  refine Zp 2 [7] (Zt [] (QU s.op) (ie (ac (Xg s.op) Iff.rfl (fun K9=>?_) (fun K9=>?_))))
  ·refine az (Z0 1 (ic [0,0,0,0,0,0,0] (Ka b wa12 wb12 wc12 wd12 we12 wf12 L'4 ln 0 0 (-1) (hlb:=(by rw [hxv];omega)) (hlk:=kx.len)) ?_))
   rintro _ _ ⟨wa14,wb14,wc14,wd14,we14,wf14,rfl⟩
   exact ie (ar (Zm (r1 [0,0,0,0,0,0,0] (.inl ⟨wa14,wb14,wc14,wd14,we14,wf14,(L'4.grow 0 0 (-1)),rfl,rfl,(by rw [Tb,hP];first|rfl|exact T2 (by assumption)|exact T3 (by assumption) (by assumption)|exact T4 (by assumption))⟩))))
  exact ak (ar (Zm (r1 [0,0,0,0,0,0,0] (.inl ⟨wa12,wb12,wc12,wd12,we12,wf12,L'4,rfl,rfl,(by rw [Tb,hP];first|rfl|exact T2 (by assumption)|exact T3 (by assumption) (by assumption)|exact T4 (by assumption))⟩))))
 have hP:=(PY (n:=n) (ln:=ln) (L:=L) Z9 YJ V3 TL).trans (QJ)
 exact Z1 (Y6 (Vn (ar (Zm (r1 [] (.inr ⟨rfl,rfl,(by rw [Tb,hP];first|rfl|exact T2 (by assumption)|exact T3 (by assumption) (by assumption)|exact T4 (by assumption))⟩))))))
theorem Z9w (c:Nat) (ga:Hd) (gb:Hd) (gc:Hd) (gd:Hd) (ge:Hd) (gf:Hd) (n:ZF) (b:Z7) (L:ZO) (ln:LI) (q:Int) (mm:Nat) (hn:Xs n) (hk:XH n.decls L q) (ht:0<=W1 n L.vars b) (hm:mm<=L.vars.length) (hb:L.vars.length+4*b.sz<=1000000000) (hq:0<=q/\q+4*b.sz<=999999990) (hln:ln.length<=4294967296) (ih:∀(s2:Z5) (c:Nat) (ra:Hd) (rb:Hd) (rc:Hd) (rd:Hd) (re:Hd) (rf:Hd) (M:ZO) (p:Int),(s2.sz<b.sz)->(XH n.decls M p)->(0<=X0 n M.vars s2)->(M.vars.length+4*s2.sz<=1000000000)->(0<=p/\p+4*s2.sz<=999999990)->Zo 173 [.p c 0,YD n,X4 s2] [.obj c [.h ra,.h rb,.h rc,.h rd,.h re,.h rf,Z3 ln],rV ra M.vars,rV rb M.own,rV rc M.par,rV rd M.con,rV re M.fst,rV rf M.tok] (fun r h=>(∃(wa:Hd) (wb:Hd) (wc:Hd) (wd:Hd) (we:Hd) (wf:Hd) (M':ZO),r=.b true/\h=[.obj c [.h wa,.h wb,.h wc,.h wd,.h we,.h wf,Z3 ln],rV wa M'.vars,rV wb M'.own,rV wc M'.par,rV wd M'.con,rV we M'.fst,rV wf M'.tok]/\Qo n ln M s2=some M')∨(r=.b false/\h=[]/\Qo n ln M s2=none))):Zo 255 [.p c 0,YD n,Yn b,.i mm] [.obj c [.h ga,.h gb,.h gc,.h gd,.h ge,.h gf,Z3 ln],rV ga L.vars,rV gb L.own,rV gc L.par,rV gd L.con,rV ge L.fst,rV gf L.tok] (fun r h=>(∃(wa:Hd) (wb:Hd) (wc:Hd) (wd:Hd) (we:Hd) (wf:Hd) (L':ZO),r=.b true/\h=[.obj c [.h wa,.h wb,.h wc,.h wd,.h we,.h wf,Z3 ln],rV wa L'.vars,rV wb L'.own,rV wc L'.par,rV wd L'.con,rV we L'.fst,rV wf L'.tok]/\VS n ln L mm b=some L')∨(r=.b false/\h=[]/\VS n ln L mm b=none)):=by
 have hbz:=b.sz_eq
 obtain ⟨vs,rt,hvs,hres,hrt⟩:=MS ht
 have hri:=CQ hres
 have Xx:=Un b
 refine ZE 45 Tryz.func255 (ar (iA (X6 n) fun b1=>iA (XV b) fun b2=>?_))
 refine Z1 (Y6 (ab 0 (Y5 (fun fz gz m F h=>∃(k:Nat) (q2:Int) (L2:ZO) (ka:Hd) (kb:Hd) (kc:Hd) (kd:Hd) (ke:Hd) (kf:Hd),(k<=b.steps.length)/\(XH n.decls L2 q2)/\(0<=q2/\q2+4*Yu (b.steps.drop k)<=999999990)/\(L2.vars.length+4*Yu (b.steps.drop k)<=1000000000)/\(Um n (b.steps.drop k) L2.vars=some vs)/\(Jw n ln L2 (b.steps.drop k)=Jw n ln L b.steps)/\(L.vars.length<=L2.vars.length)/\F=sF [0,3,5,6] fz [(9,.i k)]/\h=[Zi gz 0,Zi gz 1,.obj c [.h ka,.h kb,.h kc,.h kd,.h ke,.h kf,Z3 ln],rV ka L2.vars,rV kb L2.own,rV kc L2.par,rV kd L2.con,rV ke L2.fst,rV kf L2.tok]/\m=b.steps.length-k) _ _ _ ⟨0,q,L,ga,gb,gc,gd,ge,gf,ob,hk,(by rw [BN];omega),(by rw [BN];omega),hvs,rfl,om,rfl,rfl,rfl⟩ (Zw 9 (Ye fl)) ?_)))
 rintro m F h ⟨k,q2,L2,ka,kb,kc,kd,ke,kf,Yl,Zj,ZD,YL,Wg,QA,MZ,rfl,rfl,rfl⟩
 refine Yr 3 [0] (iw (Ut b.steps) (Y0 ((k:Int)<(b.steps.length:Int)) (fun Z9=>?_) (fun Z9=>?_)))
 ·obtain ⟨s1,hs1⟩:=Zv b.steps k om
  have hss:=DM hs1
  have hdr:=Yo hs1
  have hz:Yu (b.steps.drop k)=s1.sz+Yu (b.steps.drop (k+1)):=by rw [hdr,Yu]
  rw [hdr] at Wg QA
  obtain ⟨g1,g2⟩:=SP Wg
  refine ak (aq (ab 1 (aD 9 (ZY 4 9 [0,1,2,3,4] [1,0] (dx 5 (Zk none (k:Int) 5 (V2 hs1)) (Zs 2 3 [6] (Z8 7 (dc 7 [2,2,2,2,2,2,2] [] [] (ih s1 c ka kb kc kd ke kf L2 q2 ob Zj g1 om om) ?_))))))))
  rintro _ _ (⟨wa1,wb1,wc1,wd1,we1,wf1,M'1,rfl,rfl,Y3⟩|⟨rfl,rfl,Yq⟩)
  ·have hP:=Y3
   have kx:=SM hn Zj ZD.1 g1 hP
   exact Zs 0 1 [8] (de (WW (ak (az (Z0 1 (ZK k (Z1 (ZM ⟨k+1,(q2+4*s1.sz),M'1,wa1,wb1,wc1,wd1,we1,wf1,ob,kx.1,om,(by rw [kx.2];have:=S3 n L2.vars s1;omega),(by rw [kx.2];exact g2),(by rw [<-QA,Jw,hP];rfl),(by rw [kx.2];have:=S3 n L2.vars s1;omega),rfl,rfl,rfl⟩ (wk [7,7,0,0,0,0,0,0,0] (ZW k fl))))))))))
  have hP:=Yq
  exact Zs 0 1 [8] (de (Vn (ar (Zm (r1 [] (.inr ⟨rfl,rfl,(by rw [HN,<-QA,Jw,hP];rfl)⟩))))))
 rw [Xt om] at Wg QA
 have hvv:L2.vars=vs:=by rw [Um] at Wg;exact Ko Wg
 have hB:VS n ln L mm b=JZ mm b.result L2:=by rw [HN,<-QA,Jw];rfl
 obtain ⟨xr,hxr⟩:=Zv L2.vars b.result.toNat (by rw [hvv];omega)
 have hgr:=T5 hxr
 have hrl:0<=b.result/\b.result<L2.vars.length:=by rw [hvv];omega
 rw [Um] at Wg
 refine ax 0 (aq (aD 16 (ZY 10 16 [0,1,2,3,4,5] [2,0] (dx 6 (U3 3 ka L2.vars b.result b.result.toNat (hq:=rfl)) (Ur 7 (Qb 3 ka L2.vars b.result.toNat xr hxr) (Zs 6 8 [8,9] (db (b:=(xr != 0)) 35 (fun Za=>?_) (fun Za=>?_))))))))
 ·have YR:xr≠0:=(Yi).1 Za
  refine ZY 3 6 [10,11,12] [0] (Z8 13 (dc 13 [2,2,2,2,2,2,2] [] [] (Gl c ka kb kc kd ke kf L2 ln b.result (hlk:=Zj.len) (hq:=(fun y hy=>⟨Zj.nn y hy,by have:=Zj.bd y hy;omega⟩))) ?_))
  rintro _ _ (⟨wa2,wb2,wc2,wd2,we2,wf2,L'1,rfl,rfl,X1⟩|⟨rfl,rfl,Xe⟩)
  ·have hE:=hB.trans (Z48 hgr (by assumption) X1)
   have kx:=Zj.take X1
   have hxv:L'1.vars.length=L2.vars.length:=by rw [(Jx X1).2.1]
   refine Zs 0 2 [14,15] (de (WW (ak (Ya 2 (ic [0,0,0,0,0,0,0] (Pa c wa2 wb2 wc2 wd2 we2 wf2 L'1 ln mm (hlk:=(by first|exact kx.len|exact Zj.len)) (hlb:=om) (hm:=om)) ?_)))))
   rintro _ _ (⟨wa3,wb3,wc3,wd3,we3,wf3,L'2,rfl,rfl,XO⟩|⟨rfl,rfl,W9⟩)
   ·exact Zm (r1 [0,0,0,0,0,0,0] (.inl ⟨wa3,wb3,wc3,wd3,we3,wf3,L'2,rfl,rfl,(by first|exact hE|(rw [hE];exact XO)|(rw [hB,Eb hgr (by assumption)];exact XO))⟩))
   exact Zm (r1 [] (.inr ⟨rfl,rfl,(by first|exact hE|(rw [hE];exact W9)|(rw [hB,Eb hgr (by assumption)];exact W9))⟩))
  have hE:=hB.trans (Z47 hgr (by assumption) Xe)
  exact Zs 0 2 [14,15] (de (Vn (ar (Zm (r1 [] (.inr ⟨rfl,rfl,(by first|exact hE|(rw [hE];exact Xe)|(rw [hB,Eb hgr (by assumption)];exact Xe))⟩))))))
 have WB:¬(xr≠0):=ZV Yi Za
 refine Zs 0 6 [10,11,12,13,14,15] (de (WW (ak (Ya 2 (ic [2,2,2,2,2,2,2] (Pa c ka kb kc kd ke kf L2 ln mm (hlk:=(by first|exact kx.len|exact Zj.len)) (hlb:=om) (hm:=om)) ?_)))))
 rintro _ _ (⟨wa4,wb4,wc4,wd4,we4,wf4,L'3,rfl,rfl,WY⟩|⟨rfl,rfl,U5⟩)
 ·exact Zm (r1 [0,0,0,0,0,0,0] (.inl ⟨wa4,wb4,wc4,wd4,we4,wf4,L'3,rfl,rfl,(by first|exact hE|(rw [hE];exact WY)|(rw [hB,Eb hgr (by assumption)];exact WY))⟩))
 exact Zm (r1 [] (.inr ⟨rfl,rfl,(by first|exact hE|(rw [hE];exact U5)|(rw [hB,Eb hgr (by assumption)];exact U5))⟩))
theorem Z9x (n:ZF) (ln:LI) (hn:Xs n) (hln:ln.length<=4294967296) (m:Nat):∀(b2:Z7) (c:Nat) (ra:Hd) (rb:Hd) (rc:Hd) (rd:Hd) (re:Hd) (rf:Hd) (M:ZO) (mm:Nat) (p:Int),(b2.sz<m+1)->(XH n.decls M p)->(0<=W1 n M.vars b2)->(mm<=M.vars.length)->(M.vars.length+4*b2.sz<=1000000000)->(0<=p/\p+4*b2.sz<=999999990)->Zo 255 [.p c 0,YD n,Yn b2,.i mm] [.obj c [.h ra,.h rb,.h rc,.h rd,.h re,.h rf,Z3 ln],rV ra M.vars,rV rb M.own,rV rc M.par,rV rd M.con,rV re M.fst,rV rf M.tok] (fun r h=>(∃(wa:Hd) (wb:Hd) (wc:Hd) (wd:Hd) (we:Hd) (wf:Hd) (M':ZO),r=.b true/\h=[.obj c [.h wa,.h wb,.h wc,.h wd,.h we,.h wf,Z3 ln],rV wa M'.vars,rV wb M'.own,rV wc M'.par,rV wd M'.con,rV we M'.fst,rV wf M'.tok]/\VS n ln M mm b2=some M')∨(r=.b false/\h=[]/\VS n ln M mm b2=none)):=by
 induction m with
 | zero=>intro b c ga gb gc gd ge gf L mm q h;have:=b.sz_pos;omega
 | succ m ih=>
  intro b c ga gb gc gd ge gf L mm q h1 hk ht hm hb hp
  exact Z9w c ga gb gc gd ge gf n b L ln q mm hn hk ht hm hb hp hln fun s c ga gb gc gd ge gf L q h2 hk ht hb hp=>Pc c ga gb gc gd ge gf n s L ln q hn hk ht hb hp hln
   fun b2 c ga gb gc gd ge gf L mm q h3 hk ht hm hb hp=>ih b2 c ga gb gc gd ge gf L mm q om hk ht hm hb hp
theorem Za3 (n:ZF) (ln:LI) (hn:Xs n) (hln:ln.length<=4294967296) (m:Nat):∀(s2:Z5) (c:Nat) (ra:Hd) (rb:Hd) (rc:Hd) (rd:Hd) (re:Hd) (rf:Hd) (M:ZO) (p:Int),(s2.sz<m+1)->(XH n.decls M p)->(0<=X0 n M.vars s2)->(M.vars.length+4*s2.sz<=1000000000)->(0<=p/\p+4*s2.sz<=999999990)->Zo 173 [.p c 0,YD n,X4 s2] [.obj c [.h ra,.h rb,.h rc,.h rd,.h re,.h rf,Z3 ln],rV ra M.vars,rV rb M.own,rV rc M.par,rV rd M.con,rV re M.fst,rV rf M.tok] (fun r h=>(∃(wa:Hd) (wb:Hd) (wc:Hd) (wd:Hd) (we:Hd) (wf:Hd) (M':ZO),r=.b true/\h=[.obj c [.h wa,.h wb,.h wc,.h wd,.h we,.h wf,Z3 ln],rV wa M'.vars,rV wb M'.own,rV wc M'.par,rV wd M'.con,rV we M'.fst,rV wf M'.tok]/\Qo n ln M s2=some M')∨(r=.b false/\h=[]/\Qo n ln M s2=none)):=by
 intro s c ga gb gc gd ge gf L q h2 hk ht hb hp
 exact Pc c ga gb gc gd ge gf n s L ln q hn hk ht hb hp hln fun b2 c ga gb gc gd ge gf L mm q h3 hk ht hm hb hp=>Z9x n ln hn hln m b2 c ga gb gc gd ge gf L mm q om hk ht hm hb hp
theorem Za2 (c:Nat) (ra:Hd) (rb:Hd) (rc:Hd) (rd:Hd) (re:Hd) (rf:Hd) (n:ZF) (s2:Z5) (M:ZO) (ln:LI) (p:Int) (hn:Xs n) (hln:ln.length<=4294967296) (hk:XH n.decls M p) (ht:0<=X0 n M.vars s2) (hb:M.vars.length+4*s2.sz<=1000000000) (hp:0<=p/\p+4*s2.sz<=999999990):Zo 173 [.p c 0,YD n,X4 s2] [.obj c [.h ra,.h rb,.h rc,.h rd,.h re,.h rf,Z3 ln],rV ra M.vars,rV rb M.own,rV rc M.par,rV rd M.con,rV re M.fst,rV rf M.tok] (fun r h=>(∃(wa:Hd) (wb:Hd) (wc:Hd) (wd:Hd) (we:Hd) (wf:Hd) (M':ZO),r=.b true/\h=[.obj c [.h wa,.h wb,.h wc,.h wd,.h we,.h wf,Z3 ln],rV wa M'.vars,rV wb M'.own,rV wc M'.par,rV wd M'.con,rV we M'.fst,rV wf M'.tok]/\Qo n ln M s2=some M')∨(r=.b false/\h=[]/\Qo n ln M s2=none)):=Za3 n ln hn hln s2.sz s2 c ra rb rc rd re rf M p om hk ht hb hp
theorem Ze4 (rt:YA) (hp:rt.params.length<=1000000:=by exact ob) (hl:rt.lent.length<=4294967296:=by exact ob):Zo 172 [JI rt] [] (fun r h=>∃(c:Nat) (wa:Hd) (wb:Hd) (wc:Hd) (wd:Hd) (we:Hd) (wf:Hd),r=.p c 0/\h=[.obj c [.h wa,.h wb,.h wc,.h wd,.h we,.h wf,Z3 rt.lent],rV wa ((Kd rt).vars),rV wb ((Kd rt).own),rV wc ((Kd rt).par),rV wd ((Kd rt).con),rV we ((Kd rt).fst),rV wf ((Kd rt).tok)]):=by
 refine ZE 45 Tryz.func172 (ar (iA (Jo rt) fun b1=>Z1 (Zp 2 [0] (ic [] (WP rt.lent) ?_))))
 rintro _ _ ⟨v1,rfl,rfl⟩
 refine ZU 1 [(8,.agg [nl,nl,nl,nl,nl,nl,Z3 rt.lent])] (iA [nl,nl,nl,nl,nl,nl,Z3 rt.lent] fun b2=>?_)
 refine Xl (Zfq 0 b2 [nl,nl,nl,nl,nl,nl,Z3 rt.lent] [.h hN,.h hN,.h hN,.h hN,.h hN,.h hN,Z3 rt.lent] (.cons (Zc.hd (v:=hN)) (.cons (Zc.hd (v:=hN)) (.cons (Zc.hd (v:=hN)) (.cons (Zc.hd (v:=hN)) (.cons (Zc.hd (v:=hN)) (.cons (Zc.hd (v:=hN)) (.cons (lr _) .nil)))))))) (Xl (DP) (Xl (DP) (Xl (DP) (Xl (DP) (Xl (DP) (Xl (DP) (Z1 (Y6 (ab 0 (Y5 (fun fz gz m F h=>∃(k:Nat) (L2:ZO) (ka:Hd) (kb:Hd) (kc:Hd) (kd:Hd) (ke:Hd) (kf:Hd),(k<=rt.params.length)/\(Tf L2)/\(L2.vars.length=k)/\(AS rt.lent (rt.params.drop k) k L2=Kd rt)/\F=sF [1,3] fz [(4,.i k)]/\h=[.obj b2 [.h ka,.h kb,.h kc,.h kd,.h ke,.h kf,Z3 rt.lent],Zi gz 8,rV ka L2.vars,rV kb L2.own,rV kc L2.par,rV kd L2.con,rV ke L2.fst,rV kf L2.tok]/\m=rt.params.length-k) _ _ _ ⟨0,(ZO.mk [] [] [] [] [] []),hN,hN,hN,hN,hN,hN,ob,⟨rfl,rfl,rfl,rfl,rfl⟩,rfl,rfl,rfl,rfl,rfl⟩ (wk [6,7,0,0,0,0,0,0] (Ye fl) (e:=(rc (rc (rv (xs:=[]) ob (rv (xs:=[]) ob (rv (xs:=[]) ob (rv (xs:=[]) ob (rv (xs:=[]) ob (rv (xs:=[]) ob rz)))))))))) ?_))))))))))
 rintro m F h ⟨k,L2,ka,kb,kc,kd,ke,kf,Yl,Zj,ZD,YL,rfl,rfl,rfl⟩
 refine Yr 3 [1] (iw (Yc rt.params) (Y0 ((k:Int)<(rt.params.length:Int)) (fun Z9=>?_) (fun Z9=>?_)))
 ·refine ak (aq (ab 1 (Zp 3 [1] ?_)))
  obtain ⟨x1,Z4⟩:=Zv rt.params k om
  refine Zq (Zk none (k:Int) 1 (Y7 Z4)) (Xn [1,3,4] [(29,.b ((x1 != 0)&&(!(decide ((k:Int)∈rt.lent)))))] (fun gz=>gz) ?_ ?_)
  ·refine Z0 3 (ib (b:=(x1 != 0)) 23 (fun Za=>?_) (fun Za=>?_))
   ·exact Zu 3 [1] (Zt [] (UE rt.lent (k:Int)) (Z1 (Zw 8 (Zf (!(decide ((k:Int)∈rt.lent))) Za fl))))
   exact Z1 (Zw 8 (Zf false Za fl))
  refine ac ((x1 != 0)&&(!(decide ((k:Int)∈rt.lent)))) (p:=(x1≠0)/\(¬((k:Int)∈rt.lent))) (Y2 Yi (Yg dq)) (fun Zh=>?_) (fun Zh=>?_)
  ·refine az (Zu 4 [1] (Zq (Zk none (k:Int) 1 (Y7 Z4)) (Z0 1 (ic [0,1,1,1,1,1,1] (Ka b2 ka kb kc kd ke kf L2 rt.lent x1 1 (-1) (hlk:=Zj)) ?_))))
   rintro _ _ ⟨wa1,wb1,wc1,wd1,we1,wf1,rfl⟩
   exact ie (az (Z0 1 (ZK k (Z1 (ZM ⟨k+1,(L2.grow x1 1 (-1)),wa1,wb1,wc1,wd1,we1,wf1,ob,(Tf.grow Zj),(by simp [ZO.grow];omega),(by rw [Yo Z4,AS] at YL;first|(rw [Zl Zh] at YL;exact YL)|(rw [Zd Zh] at YL;exact YL)),rfl,rfl,rfl⟩ (wk [0,6,0,0,0,0,0,0] (ZW k fl)))))))
  refine az (Zu 4 [1] (Zq (Zk none (k:Int) 1 (Y7 Z4)) (Z0 1 (ic [0,1,1,1,1,1,1] (Ka b2 ka kb kc kd ke kf L2 rt.lent x1 0 (-1) (hlk:=Zj)) ?_))))
  rintro _ _ ⟨wa2,wb2,wc2,wd2,we2,wf2,rfl⟩
  exact ie (az (Z0 1 (ZK k (Z1 (ZM ⟨k+1,(L2.grow x1 0 (-1)),wa2,wb2,wc2,wd2,we2,wf2,ob,(Tf.grow Zj),(by simp [ZO.grow];omega),(by rw [Yo Z4,AS] at YL;first|(rw [Zl Zh] at YL;exact YL)|(rw [Zd Zh] at YL;exact YL)),rfl,rfl,rfl⟩ (wk [0,6,0,0,0,0,0,0] (ZW k fl)))))))
 refine ax 0 (Y1 ?_)
 have hNl:L2=Kd rt:=by rw [<-YL,Xt om];rfl
 exact at_ (r1 [0,1,1,1,1,1,1] ⟨b2,ka,kb,kc,kd,ke,kf,rfl,rfl⟩ (eq:=(rc (rv (xs:=L2.vars) (by rw [hNl]) (rv (xs:=L2.own) (by rw [hNl]) (rv (xs:=L2.par) (by rw [hNl]) (rv (xs:=L2.con) (by rw [hNl]) (rv (xs:=L2.fst) (by rw [hNl]) (rv (xs:=L2.tok) (by rw [hNl]) rz)))))))))
theorem Z6x (n:ZF) (f0:Nat) (k0:Nat) (rt:YA) (hz:JF n:=by exact ob) (hr:n.routines[f0]? = some rt:=by exact ob) (hk0:k0<=rt.body.steps.length:=by exact ob):Zo 150 [YD n,.i f0,.i k0] [] (fun r h=>(∃(c:Nat) (wa:Hd) (wb:Hd) (wc:Hd) (wd:Hd) (we:Hd) (wf:Hd) (L:ZO) (q:Int),r=.tup [.p c 0,.b true]/\h=[.obj c [.h wa,.h wb,.h wc,.h wd,.h we,.h wf,Z3 rt.lent],rV wa L.vars,rV wb L.own,rV wc L.par,rV wd L.con,rV we L.fst,rV wf L.tok]/\XH n.decls L q/\L.vars.length=rt.params.length+Yt (rt.body.steps.take k0)/\L.vars.length<=500000000/\rt.lent.length<=4194304)∨(r=.tup [.any,.b false]/\h=[]/\True)):=by
 have hzl:=hz.len
 have hfl:=(Xc.1 hr).1
 have hrm:=Y4 hr
 have hbz:=hz.body _ hrm
 have ZL:=Un rt.body
 have hbe:=rt.body.sz_eq
 obtain ⟨hk,hkv⟩:=Zai n.decls rt
 refine ZE 64 Tryz.func150 (ar (iA (X6 n) fun b1=>Z1 (Yr 1 [0] (Zt [] (Zex n) (YK 12 [1,2,3] [(21,.b ((!QW n)||(!(decide (0<=(f0:Int)/\(f0:Int)<=((n.routines.length:Int)-1))))))] (fun gz=>gz) ?_ (fun hj1=>?_))))))
 ·refine Xn [1,2,3] [(34,.b (((!QW n)||(!(decide (0<=(f0:Int)/\(f0:Int)<=((n.routines.length:Int)-1)))))||(!(decide (0<=(k0:Int)/\(k0:Int)<=(rt.body.steps.length:Int))))))] (fun gz=>gz) ?_ ?_
  ·refine Z0 1 (ib (b:=((!QW n)||(!(decide (0<=(f0:Int)/\(f0:Int)<=((n.routines.length:Int)-1)))))) 22 (fun Za=>?_) (fun Za=>?_))
   ·exact Z1 (wk [0] (Zf true Za fl))
   exact Zu 4 [0] (Zq (Zk none (f0:Int) 5 (VD hr)) (Z0 3 (iw (Ut rt.body.steps) (Zt [] (V5 (k0:Int) 0 (rt.body.steps.length:Int)) (Z1 (wk [0] (Zf (!(decide (0<=(k0:Int)/\(k0:Int)<=(rt.body.steps.length:Int)))) Za fl)))))))
  refine ac (((!QW n)||(!(decide (0<=(f0:Int)/\(f0:Int)<=((n.routines.length:Int)-1)))))||(!(decide (0<=(k0:Int)/\(k0:Int)<=(rt.body.steps.length:Int))))) (p:=((¬(QW n=true))∨(¬(0<=(f0:Int)/\(f0:Int)<=((n.routines.length:Int)-1))))∨(¬(0<=(k0:Int)/\(k0:Int)<=(rt.body.steps.length:Int)))) (ZB (ZB (Yg Iff.rfl) (Yg dq)) (Yg dq)) (fun Z9=>?_) (fun Z9=>?_)
  ·exact ar (ZU 1 [(35,.agg [.sl [] none,.sl [] none,.sl [] none,.sl [] none,.sl [] none,.sl [] none,.sl [] none])] (iA [.sl [] none,.sl [] none,.sl [] none,.sl [] none,.sl [] none,.sl [] none,.sl [] none] fun b2=>Zm (r2 [] [.p b2 0,.b false] (.inr ⟨rfl,rfl,(by first|exact True.intro|exact ⟨Zj,by rw [show k0=j by omega];exact QA,by omega,hll⟩)⟩) (Zc.tup (.cons (Zc.any _) (.cons (lr _) .nil))))))
  have hV:QW n=true:=JB fun z=>Z9 (.inl (.inl z))
  obtain ⟨hok,hall⟩:=Zg4 hz hV
  have hty:=hall rt hrm
  obtain ⟨vs,t0,hvs,hres,hrt0⟩:=MS hty
  have hpl:=hok.params_at hr
  have hll:=hok.lent_at hr
  refine ak (Zp 3 [0] (Zq (Zk none (f0:Int) 5 (VD hr)) (Z0 1 (ic [] (Ze4 rt) ?_))))
  rintro _ _ ⟨c1,wa1,wb1,wc1,wd1,we1,wf1,rfl,rfl⟩
  refine Z1 (Y6 (ab 0 (Y5 (fun fz gz m F h=>∃(j:Nat) (q2:Int) (L2:ZO) (ka:Hd) (kb:Hd) (kc:Hd) (kd:Hd) (ke:Hd) (kf:Hd),(j<=k0)/\(XH n.decls L2 q2)/\(0<=q2/\q2+4*Yu (rt.body.steps.drop j)<=999999990)/\(L2.vars.length+4*Yu (rt.body.steps.drop j)<=400000000)/\(Um n (rt.body.steps.drop j) L2.vars=some vs)/\(L2.vars.length=rt.params.length+Yt (rt.body.steps.take j))/\F=sF [1,2,3,8] fz [(9,.i j)]/\h=[.obj c1 [.h ka,.h kb,.h kc,.h kd,.h ke,.h kf,Z3 rt.lent],Zi gz 7,rV ka L2.vars,rV kb L2.own,rV kc L2.par,rV kd L2.con,rV ke L2.fst,rV kf L2.tok]/\m=k0-j) _ _ _ ⟨0,1,(Kd rt),wa1,wb1,wc1,wd1,we1,wf1,ob,hk,(by rw [BN];omega),(by rw [BN,hkv];omega),(by rw [BN,hkv];exact hvs),(by rw [hkv];rfl),rfl,rfl,rfl⟩ (wk [0,6,0,0,0,0,0,0] (Ye fl)) ?_)))
  rintro m F h ⟨j,q2,L2,ka,kb,kc,kd,ke,kf,Yl,Zj,ZD,YL,Wg,QA,rfl,rfl,rfl⟩
  refine Xa (Y0 ((j:Int)<(k0:Int)) (fun Zh=>?_) (fun Zh=>?_))
  ·obtain ⟨s1,hs1⟩:=Zv rt.body.steps j om
   have hss:=DM hs1
   have hsp:=s1.sz_pos
   have hzd:=SD hs1
   have hdt:=Ni hs1
   have hdr:=Yo hs1
   rw [hdr] at Wg
   obtain ⟨g1,g2⟩:=SP Wg
   refine ak (aq (ab 1 (aD 14 (ZY 9 14 [0,1,2,3,4] [1,1] (dx 5 (Zk none (f0:Int) 5 (VD hr)) (Zs 4 8 [6,7,8,9] (dx 10 (Zk none (j:Int) 5 (V2 hs1)) (Zs 2 3 [11] (Z8 12 (dc 12 [0,1,1,1,1,1,1] [] [] (Za2 c1 ka kb kc kd ke kf n s1 L2 rt.lent q2 hok ob Zj g1 om om) ?_))))))))))
   rintro _ _ (⟨wa2,wb2,wc2,wd2,we2,wf2,M'1,rfl,rfl,YR⟩|⟨rfl,rfl,X1⟩)
   ·have hP:=YR
    have kx:=SM hok Zj ZD.1 g1 hP
    have hsf:=Zda g1
    exact Zs 0 1 [13] (de (WW (ak (az (Z0 1 (ZK j (Z1 (ZM ⟨j+1,(q2+4*s1.sz),M'1,wa2,wb2,wc2,wd2,we2,wf2,ob,kx.1,om,(by rw [kx.2,hsf];split<;>omega),(by rw [kx.2];exact g2),(by rw [kx.2,hsf,hdt];split<;>omega),rfl,rfl,rfl⟩ (wk [0,6,0,0,0,0,0,0] (ZW j fl))))))))))
   exact Zs 0 1 [13] (de (Vn (ar (Zm (r2 [] [.p c1 0,.b false] (.inr ⟨rfl,rfl,(by first|exact True.intro|exact ⟨Zj,by rw [show k0=j by omega];exact QA,by omega,hll⟩)⟩) (Zc.tup (.cons (Zc.any _) (.cons (lr _) .nil))))))))
  exact ax 0 (ar (Zm (r2 [0,1,1,1,1,1,1] [.p c1 0,.b true] (.inl ⟨c1,ka,kb,kc,kd,ke,kf,L2,_,rfl,rfl,(by first|exact True.intro|exact ⟨Zj,by rw [show k0=j by omega];exact QA,by omega,hll⟩)⟩) (lr _))))
 refine Z0 2 (ib (b:=(!QW n)) 13 (fun ZA=>?_) (fun ZA=>?_))
 ·exact Z0 8 (ZJ (wk [0] (Zf true ZA fl)) hj1)
 exact Zu 3 [0] (iw (TJ n.routines) (ia (((n.routines.length:Int)-1)) (((n.routines.length:Int))-(1)) (Zt [] (V5 (f0:Int) 0 ((n.routines.length:Int)-1)) (Z0 2 (ZJ (wk [0] (Zf (!(decide (0<=(f0:Int)/\(f0:Int)<=((n.routines.length:Int)-1)))) ZA fl)) hj1)))))
theorem Om (b:Z7) (i0:Nat) (s:Z5) (hi:i0<=b.steps.length:=by exact ob) (hz:b.sz<=100000000:=by exact ob):Zo 152 [Yn b,.i i0,X4 s] [] (Ym (Yn (Z7.mk (WH b.steps i0 s) b.result))):=by
 have ZL:=Un b
 exact ZE 26 Tryz.func152 (ar (iA (XV b) fun b1=>iA (Wb s) fun b2=>iA [nl,.i 0] fun b3=>ie (ar (iL (ZT []) 0 5 fun v1=>Zu 3 [3] (Zq (AY (es:=ZT b.steps) (hv:=none) (l:=0) (m:=(i0:Int)) (sz:=5) (es':=ZT (b.steps.take i0)) kr om (by simp<;>omega) (by simp<;>omega) (XE _) (by first|(simp only [Tc,Uk,AA,Az];done)|(simp only [Tc,Uk,AA,Az];rfl)|(simp [AA,Az];done))) (ip 0 (ZT (b.steps.take i0)) (ZT []) (ZT (b.steps.take i0)) v1 none 5 (XE _) (XE _) (Ua _) (by simp<;>omega) (by simp [VV]) fun v2=>Z1 (aD 13 (ZY 8 13 [0,1,4,5,6] [2,3] (dx 7 (AY (es:=ZT b.steps) (hv:=none) (l:=(i0:Int)) (m:=(((ZT b.steps).length:Nat):Int)) (sz:=5) (es':=ZT (b.steps.drop i0)) kr om (by simp<;>omega) (by simp<;>omega) (XE _) (by first|(simp only [Tc,Uk,AA,Az];done)|(simp only [Tc,Uk,AA,Az];rfl)|(simp [AA,Az];done))) (ZY 5 7 [9,10] [3] (Z8 2 (dL 2 [2,2] [b1,b1] [X4 s] 1 5 fun v3=>Yv 4 4 [] [(16,.sl [X4 s] none)] (Z8 3 (dp 3 1 [2,2] [b1,b1] (ZT ((b.steps.take i0)++[s])) (ZT (b.steps.take i0)) [X4 s] v2 none 5 (XE _) (KI rfl) rfl (by simp<;>omega) (by simp [Vo,VV]) fun v4=>Z8 8 (dp 8 0 [2] [b1] (ZT (WH b.steps i0 s)) (ZT ((b.steps.take i0)++[s])) (ZT (b.steps.drop i0)) v4 none 5 (XE _) (XE _) (Ua _) (by simp<;>omega) (by simp only [WH,Vo]) fun v5=>Zs 1 2 [11] (Z8 12 (YT 12 2 [] [] b3 [Xh (WH b.steps i0 s) v5,.i b.result] (de (at_ (r3 [] [.agg [Xh (WH b.steps i0 s) v5,.i b.result]] [0] [(b3,b3)] ⟨rfl,rfl⟩ (Zc.agg (.cons (Zc.sl _ (Yj ZT rfl)) (.cons li .nil)))))))))))))))))))))))
theorem Z7r (n:ZF) (f0:Nat) (b:Z7) (rt:YA) (hr:n.routines[f0]? = some rt) (hl:n.routines.length<=1000000) (hp:rt.params.length<=4294967296) (hl2:rt.lent.length<=4294967296):Zo 154 [YD n,.i f0,Yn b] [] (fun r h=>∃(g:Nat) (c:Nat),r=.agg [Yd n.decls,.ms g 0 n.routines.length c]/\h=[.row (.slice (some ⟨g,0,none⟩) n.routines.length c) 5 (Zg (X8 (n.routines.set f0 (YA.mk rt.params rt.lent rt.result b))))]):=by
 have hfl:=(Xc.1 hr).1
 refine ZE 26 Tryz.func154 (ar (iA (X6 n) fun b1=>iA (XV b) fun b2=>iA [nl,nl] fun b3=>ie (ar (Ep 5 fun g1=>Zu 2 [3] (iKC 0 g1 5 (X8 n.routines) none (T0 _) (by simp<;>omega) fun v1=>Eo 0 n.routines.length (v:=v1) (O1 _) om (fun g2 c1 he1=>?_))))))
 subst he1
 exact Z1 (aD 11 (ZY 6 11 [0,1,2,3,4] [3] (dx 5 (Zk none (f0:Int) 5 (VD hr)) (ZY 3 5 [6,7] [2] (Z8 8 (YF 8 [] [] [] (DI rt b) (dx 9 (Wa g2 n.routines.length c1 f0 5 (f0:Int)) (Z8 10 (JV 10 0 [] [] g2 n.routines.length c1 5 (f0*5) (Jo (YA.mk rt.params rt.lent rt.result b)) (Zg (X8 n.routines)) (Zg (X8 (n.routines.set f0 (YA.mk rt.params rt.lent rt.result b)))) (by rw [O1];simp only [Yx,X7];omega) (Z5l (YA.mk rt.params rt.lent rt.result b) hfl) (de (Zp 4 [3] (Zz 1 b3 [Yd n.decls,.ms g2 0 n.routines.length c1] (ie (at_ (r3 [1] [.agg [Yd n.decls,.ms g2 0 n.routines.length c1]] [0] [(b3,b3)] ⟨g2,c1,rfl,rfl⟩ (lr _))))))))))))))))
theorem Z7q (n:ZF) (f0:Nat) (b:Z7) (rt:YA) (hr:n.routines[f0]? = some rt:=by exact ob) (hl:n.routines.length<=1000000:=by exact ob) (hp:rt.params.length<=4294967296:=by exact ob) (hl2:rt.lent.length<=4294967296:=by exact ob):Zo 154 [YD n,.i f0,Yn b] [] (Ym (YD (withR n f0 rt b))):=(WU.frzN (ds:=n.decls) (rs:=(n.routines.set f0 (YA.mk rt.params rt.lent rt.result b))) (hs:=[]) ((Z7r n f0 b rt hr hl hp hl2).mono fun r h ⟨g,c,e1,e2⟩=>⟨g,c,by rw [e1];simp only [VJ],by rw [e2];simp only [VJ]⟩))
theorem Je (rd:Nat) (bs:LI) (p:Nat) (mx:Nat) (ZL:∀z∈bs,0<=z/\z<=255) (hp:p+1<=1000000000:=by exact ob) (hmx:0<mx:=by exact ob):Zo 40 [.p rd 0,.i mx] [YC rd bs p] (fun r h=>∃(kn:Nat),r=.i kn/\h=[.obj rd [Uc bs,.i (p+1:Nat)]]/\kn<mx):=(XU rd bs p mx ZL hp).mono fun r h ⟨z,hr,hh,hz⟩=>by
  have h0:=hz.lt om
  exact ⟨z.toNat,by rw [hr,Int.toNat_of_nonneg h0.1],hh,by omega⟩
theorem Oi (rd:Nat) (bs:LI) (p:Nat) (n:ZF) (ZL:∀z∈bs,0<=z/\z<=255) (hp:p+4<=1000000000:=by exact ob) (hz:JF n:=by exact ob) (hl1:1<=n.routines.length/\n.routines.length<=1000000:=by exact ob):Zo 114 [.p rd 0,YD n] [YC rd bs p] (fun r h=>∃(n2:ZF) (p2:Nat),r=YD n2/\h=[YC rd bs p2]/\Fg n n2/\p<=p2/\p2<=p+4):=by
 refine ZE 102 Tryz.func114 (ar (iA (X6 n) fun b1=>iA [nl,nl] fun b2=>ie (Zp 3 [1] (iw (TJ n.routines) (ic [2] (Je rd bs p n.routines.length (ZL:=ob)) ?_)))))
 rintro _ _ ⟨YS,rfl,rfl,Y3⟩
 refine Z1 (Zp 3 [2] ?_)
 obtain ⟨x1,Z4⟩:=Zv n.routines YS om
 have hrm:=Y4 Z4
 have hbz:=hz.body _ hrm
 have ZL:=Un (x1).body
 have hpl:=hz.params _ hrm
 have hll:=hz.lent _ hrm
 have hrx:=Z4
 refine Zq (Zk none (YS:Int) 5 (VD Z4)) (Z0 2 (iA [nl,.i 0] fun b3=>Zz 0 b3 (XV x1.body) (ie (Zp 3 [0] (iw (Ut x1.body.steps) (ia (((x1.body.steps.length+1:Nat):Int)) (((x1.body.steps.length:Int))+(1)) (ic [1] (Je rd bs (p+1) (x1.body.steps.length+1) (ZL:=ob)) ?_)))))))
 rintro _ _ ⟨Xi,rfl,rfl,Yq⟩
 refine Z1 (Zp 3 [3] (ic [] (Z6x n YS Xi x1 (hr:=hrx)) ?_))
 rintro _ _ (⟨c1,wa1,wb1,wc1,wd1,we1,wf1,L1,q1,rfl,rfl,YR⟩|⟨rfl,rfl,X1⟩)
 ·obtain ⟨hLO,hLv,hLb,hLl⟩:=YR
  have hLn:=hLO.len
  obtain ⟨e1,e2,e3,e4,e5⟩:=hLO.len
  refine Z1 (Y6 (WW (ak (ar (iL (Z6 []) 0 1 fun v1=>?_)))))
  refine Z1 (Y6 (ab 0 (Y5 (fun fz gz m F h=>∃(k:Nat) (vl:LI) (u:Value),(k<=L1.vars.length)/\(vl.length<=k)/\(∀v∈vl,0<=v/\v<(L1.vars.length:Int))/\F=sF [0,3,4,5,6,7,8] fz [(10,ZG vl u),(11,.i k)]/\h=[Zi gz 1,Zi gz 2,Zi gz 3,Zi gz 4,Zi gz 5,Zi gz 6,Zi gz 7,Zi gz 8,Zi gz 9,Zi gz 10,Zi gz 11,.tail u 1]/\m=L1.vars.length-k) _ _ _ ⟨0,[],v1,ob,ob,(fun v hv=>by cases hv),rfl,rfl,rfl⟩ (wk [1,1,1,1,1,1,1,1,1,1,1,0] (fr (Ye fl))) ?_)))
  rintro m F h ⟨k,vl,u,Yl,Zj,ZD,rfl,rfl,rfl⟩
  refine Yr 5 [0] (Zq (CG 1 wa1 L1.vars) (Y0 ((k:Int)<(L1.vars.length:Int)) (fun Z9=>?_) (fun Z9=>?_)))
  ·refine ak (aq (ab 1 (Zp 5 [0] (Zq (U3 1 wa1 L1.vars (k:Int) k) ?_))))
   obtain ⟨x2,Zy⟩:=Zv L1.vars k om
   refine U7 (Qb 1 wa1 L1.vars k x2 Zy) (Z0 2 (ib (b:=(x2 != 0)) 59 (fun Za=>?_) (fun Za=>?_)))
   ·refine Z0 2 (Zt [0,0,0,0,0,0,0] (Gk c1 wa1 wb1 wc1 wd1 we1 wf1 L1 x1.lent (k:Int) (hlk:=hLO.len) (hd:=hLO.down)) (Yz (UV L1 x1.lent (k:Int)) Iff.rfl (fun Zh=>?_) (fun Zh=>?_)))
    ·exact az (Z0 2 (iL (Z6 [(k:Int)]) 1 1 fun v2=>ZU 0 [(66,Z3 [(k:Int)])] (ip 12 (Z6 (vl++[(k:Int)])) (Z6 vl) (Z6 [(k:Int)]) u none 1 (YE _) (YE _) (W2 _) (by simp<;>omega) (by simp [W6,Z6]) fun v3=>Z1 (az (Z0 1 (ZK k (Z1 (ZM ⟨k+1,(vl++[(k:Int)]),v3,ob,ob,(by first|exact ZD|exact XD ZD om),rfl,rfl,rfl⟩ (wk [2,2,2,2,2,2,2,2,2,2,2,0] (fr (ZW k fl)))))))))))
    exact ak (az (Z0 1 (ZK k (Z1 (ZM ⟨k+1,vl,u,ob,ob,(by first|exact ZD|exact XD ZD om),rfl,rfl,rfl⟩ (Zw 12 (fr (ZW k fl))))))))
   exact Z1 (WW (ak (az (Z0 1 (ZK k (Z1 (ZM ⟨k+1,vl,u,ob,ob,(by first|exact ZD|exact XD ZD om),rfl,rfl,rfl⟩ (Zw 12 (fr (ZW k fl))))))))))
  refine ax 0 (YO 1 (iw (Yc vl) (Yz ((vl.length:Int)==0) Zb (fun ZC=>?_) (fun ZC=>?_))))
  ·exact Zp 1 [10] (Zz 9 b2 (X6 n) (ie (at_ (r3 [8] [YD n] [0] [(b2,b2)] ⟨n,(p+1)+1,rfl,rfl,(by first|exact ⟨.inl rfl,by omega,by omega⟩|(have hv:=ZD x3 (Y4 YX);exact ⟨.inr ⟨YS,x1,Xi,Xi+Q8,x3,hrx,by omega,by omega,hv.1,by omega,rfl⟩,by omega,by omega⟩))⟩ (lr _)))))
  refine ak (Ya 3 (iw (Yc vl) (ic [7] (Je rd bs ((p+1)+1) vl.length (ZL:=ob)) ?_)))
  rintro _ _ ⟨QL,rfl,rfl,W9⟩
  obtain ⟨x3,YX⟩:=Zv vl QL om
  refine Zq (Zk (some u) (QL:Int) 1 (Y7 YX)) (Z1 (Zp 4 [8] (iw (Ut x1.body.steps) (Z0 1 (ia ((((x1.body.steps.length-Xi):Nat):Int)) (((x1.body.steps.length:Int))-((Xi:Int))) (ia ((((x1.body.steps.length-Xi)+1:Nat):Int)) (((((x1.body.steps.length-Xi):Nat):Int))+(1)) (ic [0] (Je rd bs (((p+1)+1)+1) ((x1.body.steps.length-Xi)+1) (ZL:=ob)) ?_)))))))
  rintro _ _ ⟨Q8,rfl,rfl,WB⟩
  exact ia (((Xi+Q8:Nat):Int)) (((Xi:Int))+((Q8:Int))) (Z1 (aD 6 (ZY 3 6 [0,1,2] [8] (Z8 3 (YF 3 [] [2] [b3] (BH 15 x3) (Z8 4 (YF 4 [] [] [] (Om x1.body (Xi+Q8) (Zx 15 x3) (hi:=(by first|omega|(show Xi<=(WH _ _ _).length;rw [R4 om];omega))) (hz:=(by first|omega|(rw [Z7.sz,GK];have e:(Zx 15 x3).sz=2:=rfl;have e2:=x1.body.sz_eq;omega)))) (Z8 5 (YT 5 8 [] [] b3 (XV (Z7.mk (WH x1.body.steps (Xi+Q8) (Zx 15 x3)) x1.body.result)) (de (aD 9 (ZY 4 9 [0,1,2,3,4] [10,0] (Z8 5 (YF 5 [] [0,4] [b3,b1] (BH 14 x3) (Z8 6 (YF 6 [] [4] [b1] (Om (Z7.mk (WH x1.body.steps (Xi+Q8) (Zx 15 x3)) x1.body.result) Xi (Zx 14 x3) (hi:=(by first|omega|(show Xi<=(WH _ _ _).length;rw [R4 om];omega))) (hz:=(by first|omega|(rw [Z7.sz,GK];have e:(Zx 15 x3).sz=2:=rfl;have e2:=x1.body.sz_eq;omega)))) (Z8 7 (YF 7 [] [] [] (Z7q n YS (Z7.mk (WH (Z7.mk (WH x1.body.steps (Xi+Q8) (Zx 15 x3)) x1.body.result).steps Xi (Zx 14 x3)) (Z7.mk (WH x1.body.steps (Xi+Q8) (Zx 15 x3)) x1.body.result).result) x1 (hr:=hrx)) (Z8 8 (YT 8 9 [] [] b2 (X6 (withR n YS x1 (Z7.mk (WH (Z7.mk (WH x1.body.steps (Xi+Q8) (Zx 15 x3)) x1.body.result).steps Xi (Zx 14 x3)) (Z7.mk (WH x1.body.steps (Xi+Q8) (Zx 15 x3)) x1.body.result).result))) (de (at_ (r3 [2] [YD (withR n YS x1 (Z7.mk (WH (Z7.mk (WH x1.body.steps (Xi+Q8) (Zx 15 x3)) x1.body.result).steps Xi (Zx 14 x3)) (Z7.mk (WH x1.body.steps (Xi+Q8) (Zx 15 x3)) x1.body.result).result))] [0] [(b2,b2)] ⟨(withR n YS x1 (Z7.mk (WH (Z7.mk (WH x1.body.steps (Xi+Q8) (Zx 15 x3)) x1.body.result).steps Xi (Zx 14 x3)) (Z7.mk (WH x1.body.steps (Xi+Q8) (Zx 15 x3)) x1.body.result).result)),(((p+1)+1)+1)+1,rfl,rfl,(by first|exact ⟨.inl rfl,by omega,by omega⟩|(have hv:=ZD x3 (Y4 YX);exact ⟨.inr ⟨YS,x1,Xi,Xi+Q8,x3,hrx,by omega,by omega,hv.1,by omega,rfl⟩,by omega,by omega⟩))⟩ (lr _))))))))))))))))))))))))
 exact Z1 (Y6 (Vn (Zp 1 [3] (Zz 2 b2 (X6 n) (ie (at_ (r3 [1] [YD n] [0] [(b2,b2)] ⟨n,(p+1)+1,rfl,rfl,(by first|exact ⟨.inl rfl,by omega,by omega⟩|(have hv:=ZD x3 (Y4 YX);exact ⟨.inr ⟨YS,x1,Xi,Xi+Q8,x3,hrx,by omega,by omega,hv.1,by omega,rfl⟩,by omega,by omega⟩))⟩ (lr _))))))))
end Go.Abs
