/-
  A part of the proof of FnUnlendUptoSaid (see the last file): no condition.
-/
import Derived.Test.YtjmahledcmocoaaGreatUnlC
set_option linter.all false
set_option linter.unusedVariables false
set_option linter.unusedSimpArgs false
set_option linter.unusedSectionVars false
set_option maxRecDepth 10000
set_option maxHeartbeats 4000000
namespace Go.Abs
open Go.Proofs
theorem Ho (a:Nat) (n:Nat) (ha:a<=1000000:=by exact ob) (hn:n<=1000000:=by exact ob):Zi 175 [.i a,.i n] [] (fun r h=>∃(xs:LI),r=Z6 xs/\h=[]/\xs.length=n/\∀i∈xs,(a:Int)<=i/\i<(a:Int)+n):=by
 refine ZF 20 Tryz.func175 (ZP (ar (iL (Z7 []) 0 1 fun v1=>?_)))
 refine Z0 (Y7 (ab 0 (Y0 (fun fz gz m F h=>∃(k:Nat) (ys:LI) (u:Value),(k<=n)/\(ys.length=k)/\(∀i∈ys,(a:Int)<=i/\i<(a:Int)+n)/\F=sF [0,1] fz [(5,ZY ys u),(6,.i k)]/\h=[.tail u 1]/\m=n-k) _ _ _ ⟨0,[],v1,ob,ob,(fun i hi=>by cases hi),rfl,rfl,rfl⟩ (wk [0] (fr (Y5 fl))) ?_)))
 rintro m F h ⟨k,ys,u,Yb,Zl,Zw,rfl,rfl,rfl⟩
 refine X4 (ZZ ((k:Int)<(n:Int)) (fun Za=>?_) (fun Za=>?_))
 ·exact ak (aq (ab 1 (az (Z2 3 (ia (((a+k:Nat):Int)) (((a:Int))+((k:Int))) (iL (Z7 [((a+k:Nat):Int)]) 1 1 fun v2=>ZQ 0 [(17,Z6 [((a+k:Nat):Int)])] (ip 1 (Z7 (ys++[((a+k:Nat):Int)])) (Z7 ys) (Z7 [((a+k:Nat):Int)]) u none 1 (YD _) (YD _) (W5 _) (by simp<;>omega) (by simp [W4,Z7]) fun v3=>Z0 (az (Z2 1 (ZG k (Z0 (ZH ⟨k+1,(ys++[((a+k:Nat):Int)]),v3,ob,ob,(Xu Zw om),rfl,rfl,rfl⟩ (wk [0] (fr (ZJ k fl)))))))))))))))
 exact ax 0 (ar (Zt (r2 [] [ZY ys u] ⟨ys,rfl,rfl,⟨by omega,Zw⟩⟩ (Zc.forget _ _))))
theorem Mv (l:Nat) (xs:List Z4) (w:Value) (q:Nat) (s:Z4) (hl:xs.length<=4000000000:=by exact ob) (hq:q<=1000000:=by exact ob):Zi 269 [.p l 0,YC s] [.obj l [YS xs w,.i q],.tail w 5] (fun r h=>∃(w2:Value),r=.i q/\h=[.obj l [YS (xs++[s]) w2,.i (((q+1):Nat):Int)],.tail w2 5]):=by
 exact ZF 28 Tryz.func269 (ar (iA (Xm s) fun b1=>Z0 (aD 11 (ZO 5 11 [0,1,2,3,4,5] [1,0] (Z8 6 (Wt 6 [1] [l] [YC s] (Zv [s]) (Vc [s]).symm 1 5 fun v1=>Yr 4 4 [] [(11,WE [s])] (Z8 7 (dp 7 3 [] [] (Zv (xs++[s])) (Zv xs) (Zv [s]) w none 5 (Xc _) (Xc _) (VD _) (by simp<;>omega) (by simp [WC,Zv]) fun v2=>Zk 1 3 [8,9] (Z8 10 (YM 10 3 [] [] l [YS (xs++[s]) v2,.i q] (de (Zu 5 [0] (ZG q (Z2 2 (Zz 0 l [YS (xs++[s]) v2,.i (q+1:Nat)] (ie (Zu 4 [0] (ia ((((q+1:Nat):Int)-1)) ((((q+1:Nat):Int))-(1)) (Zt (r2 [0,0] [.i (((q+1:Nat):Int)-1)] ⟨v2,rfl,rfl⟩ li))))))))))))))))))))
theorem MF (g:XZ) (e:Z1) (us:LI) (q:Nat) (bb:Nat) (he:eW g.decls g.funcs.length us.length e:=by exact ob) (hu:∀a∈us,0<=a/\a<(q:Int)) (hul:us.length+4*e.sz<=100000:=by exact ob) (hql:q+6*e.sz<=100000:=by exact ob) (hb:e.sz<bb:=by exact ob) (ih:∀(l:Nat) (e2:Z1) (us2:LI) (xs2:List Z4) (w2:Value) (q2:Nat),(eW g.decls g.funcs.length us2.length e2)->(∀a∈us2,0<=a/\a<(q2:Int))->(us2.length+4*e2.sz<=100000)->(xs2.length+6*e2.sz<=100000)->(q2+6*e2.sz<=100000)->(e2.sz<bb)->Zi 224 [.p l 0,JA g,Y2 e2,Z6 us2] [.obj l [YS xs2 w2,.i q2],.tail w2 5] (fun r h=>∃(ys:List Z4) (v:Int) (w2:Value),r=.i v/\h=[.obj l [YS (xs2++ys) w2,.i (((q2+YX ys):Nat):Int)],.tail w2 5]/\LW g.decls g.funcs.length q2 e2 ys v)):Zi 174 [JA g,Y2 e,Z6 us,.i q] [] (fun r h=>∃(b:Z5),r=ZI b/\h=[]/\LB g.decls g.funcs.length q e b):=by
 refine ZF 26 Tryz.func174 (ar (iA (HN g) fun b1=>iA (YU e) fun b2=>iA [nl,.i 0] fun b3=>ie (ar (iL (Zv []) 0 5 fun v1=>Z2 2 (iA [YS [] v1,.i q] fun b4=>Z0 (Zu 4 [4,3] (ic [0,0] (ih b4 e us [] v1 q he hu ob ob ob ob) ?_)))))))
 rintro _ _ ⟨ys1,v2,w21,rfl,rfl,Y4⟩
 have hlw:=Y4
 exact Z0 (Zu 6 [0] (Zz 2 b3 [YS ([]++ys1) w21,.i v2] (ie (ZD (r3 [] [.agg [YS ([]++ys1) w21,.i v2]] [0] [(b3,b3)] ⟨(Z5.mk ([]++ys1) v2),rfl,rfl,(by rw [B5];exact hlw.block)⟩ (Zc.agg (.cons (Zc.forget _ _) (.cons (lr _) .nil))))))))
theorem Z2p (l:Nat) (g:XZ) (e:Z1) (us:LI) (xs:List Z4) (w:Value) (q:Nat) (hd:GD g.decls) (he:eW g.decls g.funcs.length us.length e) (hu:∀a∈us,0<=a/\a<(q:Int)) (hul:us.length+4*e.sz<=100000) (hxl:xs.length+6*e.sz<=100000) (hql:q+6*e.sz<=100000) (ih:∀(l:Nat) (e2:Z1) (us2:LI) (xs2:List Z4) (w2:Value) (q2:Nat),(eW g.decls g.funcs.length us2.length e2)->(∀a∈us2,0<=a/\a<(q2:Int))->(us2.length+4*e2.sz<=100000)->(xs2.length+6*e2.sz<=100000)->(q2+6*e2.sz<=100000)->(e2.sz<e.sz)->Zi 224 [.p l 0,JA g,Y2 e2,Z6 us2] [.obj l [YS xs2 w2,.i q2],.tail w2 5] (fun r h=>∃(ys:List Z4) (v:Int) (w2:Value),r=.i v/\h=[.obj l [YS (xs2++ys) w2,.i (((q2+YX ys):Nat):Int)],.tail w2 5]/\LW g.decls g.funcs.length q2 e2 ys v)):Zi 224 [.p l 0,JA g,Y2 e,Z6 us] [.obj l [YS xs w,.i q],.tail w 5] (fun r h=>∃(ys:List Z4) (v:Int) (w2:Value),r=.i v/\h=[.obj l [YS (xs++ys) w2,.i (((q+YX ys):Nat):Int)],.tail w2 5]/\LW g.decls g.funcs.length q e ys v):=by
 have Xy:=hd.ok
 obtain ⟨ho,h12,h13,h7,h8,h9,hnum,hkl,hks⟩:=(Z0n e).1 he
 have hez:=e.sz_eq
 refine ZF 148 Tryz.func224 (ar (iA (HN g) fun b1=>iA (YU e) fun b2=>Z0 (X4 (VY [0] (ab 0 (ar (YG (e.op==12) Zs (fun Za=>?_) (fun Za=>?_))))))))
 ·refine Zu 3 [0] ?_
  obtain ⟨x1,Z3⟩:=Zr us e.num.toNat (by have:=h12 om;omega)
  have huv:=hu _ (Y1 Z3)
  exact Zm (Zg none e.num 1 (Y3 Z3)) (Zt (r1 [2,2] ⟨[],x1,w,rfl,rfl,(LW.var huv)⟩ (eq:=(ro (ls:=[YS xs w,.i q]) (by simp [YX]) (rc rz)))))
 refine ar (YG (e.op==13) Zs (fun Zf=>?_) (fun Zf=>?_))
 ·refine aD 9 (ZO 5 9 [0,1,2,3] [1,0] ?_)
  obtain ⟨x2,Zo⟩:=Zr e.kids 0 (by have:=h13 om;omega)
  have hekx2:=C6 hks Zo
  have hszx2:=Bj Zo
  have htzx2:=Ax Zo
  rw [V0] at hekx2
  rw [OY om] at hekx2
  refine dx 4 (Zg none 0 3 (C3 Zo)) (Zk 2 4 [5,6] (Z8 7 (dc 7 [2,2] [] [] (ih l x2 us xs w q (by first|assumption|(rw [Yx];assumption)) (by first|assumption|exact E4 hu hlwhp1.v|exact G5 hu) (by first|omega|(simp only [Yx,YV,Xn];omega)) (by first|omega|(simp only [Yx,YV,Xn];omega)) ob ob) ?_)))
  rintro _ _ ⟨ys1,v1,w21,rfl,rfl,Y4⟩
  have hlwhp1:=Y4
  have hldhp1:=Y4.dn
  refine Zk 0 1 [8] (de (aD 12 (ZO 8 12 [0,1,2,3] [3,2] ?_)))
  obtain ⟨x3,YP⟩:=Zr e.kids 1 (by have:=h13 om;omega)
  have hz2:=M7 Zo YP
  have hz3:=x2.sz_eq
  have hekx3:=C6 hks YP
  have hszx3:=Bj YP
  have htzx3:=Ax YP
  rw [V0] at hekx3
  rw [OY om] at hekx3
  refine dx 4 (Zg none 1 3 (C3 YP)) (Zk 4 7 [5,6,7] (Z8 8 (dL 8 [1,2] [b2,b1] (Z7 [v1]) 1 1 fun v2=>Yr 3 3 [] [(45,Z6 [v1])] (Z8 9 (dc 9 [] [1,2] [b2,b1] (QE us [v1]) ?_)))))
  rintro _ _ ⟨v3,rfl,rfl⟩
  refine Yr 2 2 [] [(46,Z6 (us++[v1]))] (Z8 10 (dc 10 [2,2] [] [] (ih l x3 (us++[v1]) (xs++ys1) w21 (q+YX ys1) (by first|assumption|(rw [Yx];assumption)) (by first|assumption|exact E4 hu hlwhp1.v|exact G5 hu) (by first|omega|(simp only [Yx,YV,Xn];omega)) (by first|omega|(simp only [Yx,YV,Xn];omega)) ob ob) ?_))
  rintro _ _ ⟨ys2,v4,w22,rfl,rfl,Ym⟩
  have hlwhp2:=Ym
  have hldhp2:=Ym.dn
  exact Zk 0 1 [11] (de (ZD (r1 [0,0] ⟨(ys1++ys2),v4,w22,rfl,rfl,(LW.let_ hlwhp1 hlwhp2 (by have:=M7 Zo YP;omega))⟩ (eq:=(ro (ls:=[YS ((xs++ys1)++ys2) w22,.i ((((q+YX ys1)+YX ys2):Nat):Int)]) (by rw [KD,<-Ag,Ul]) (rc rz))))))
 refine Y7 (XP (fun fz gz F h=>F=sF [0,3,5,6] fz [(48,.b ((e.op==7)||(e.op==8)))]/\h=gz) ?_ ?_)
 ·refine ac (e.op==7) Zs (fun ZA=>?_) (fun ZA=>?_)
  ·exact ak (ZT ⟨rfl,rfl⟩ (ZM 4 (fc (x:=.b (e.op==7)) (lb (by first|rfl|(rw [Zj ZA])|(rw [Z9 ZA])|(simp [ZA];done)|(rw [Xr];simp [ZA];done)|omega)) fl)))
  exact T6 (ZT ⟨rfl,rfl⟩ (ZM 4 (fc (x:=.b (e.op==8)) (lb (by first|rfl|(rw [Zj ZA])|(rw [Z9 ZA])|(simp [ZA];done)|(rw [Xr];simp [ZA];done)|omega)) fl)))
 rintro F h ⟨rfl,rfl⟩
 refine ac ((e.op==7)||(e.op==8)) (p:=(e.op=7)∨(e.op=8)) (Yh Zs Zs) (fun Yl=>?_) (fun Yl=>?_)
 ·refine aD 9 (ZO 5 9 [0,1,2,3] [1,0] ?_)
  obtain ⟨x4,VG⟩:=Zr e.kids 0 om
  have hekx4:=C6 hks VG
  have hszx4:=Bj VG
  have htzx4:=Ax VG
  rw [V0] at hekx4
  rw [Z9r om] at hekx4
  refine dx 4 (Zg none 0 3 (C3 VG)) (Zk 2 4 [5,6] (Z8 7 (dc 7 [2,2] [] [] (ih l x4 us xs w q (by first|assumption|(rw [Yx];assumption)) (by first|assumption|exact E4 hu hlwhp1.v|exact G5 hu) (by first|omega|(simp only [Yx,YV,Xn];omega)) (by first|omega|(simp only [Yx,YV,Xn];omega)) ob ob) ?_)))
  rintro _ _ ⟨ys3,v5,w23,rfl,rfl,YQ⟩
  have hlwhp3:=YQ
  have hldhp3:=YQ.dn
  refine Zk 0 1 [8] (de (ar (iL (YE []) 0 2 fun v6=>Z0 (Zu 4 [4,3] (ic [] (Jp g.decls e.num) ?_)))))
  rintro _ _ ⟨v7,rfl,rfl⟩
  refine Z0 (Y7 (ab 1 (Y0 (fun fz gz m F h=>∃(k:Nat) (cs:List Z5) (u:Value),(1<=k/\k<=e.kids.length)/\(cs.length+1=k)/\(Ti g.decls g.funcs.length (Uv g.decls e.op e.num (q+YX ys3)) 0 cs)/\(X1 cs+6*x4.sz<=cs.length+6*Xs (e.kids.take k))/\(Qz WB cs)/\F=sF [0,3,5,6,10] fz [(11,UF cs u),(12,Z6 (ZW g.decls e.num)),(13,.i k)]/\h=[Zh gz 2,Zh gz 4,Zh gz 5,.tail u 2,Zh gz 3]/\m=e.kids.length-k) _ _ _ ⟨1,[],v6,ob,ob,True.intro,(by have h:Xs (e.kids.take 1)=Xs (e.kids.take 0)+x4.sz:=Ax VG;simp only [X1,Xn];omega),True.intro,rfl,rfl,rfl⟩ (wk [2,3,3,1,1] (fr (fc (x:=ZY (ZW g.decls e.num) v7) (Zc.forget _ _) (fc (x:=.i 1) li fl)))) ?_)))
  rintro m F h ⟨k,cs,u,Yb,Zl,Zw,YN,Wj,rfl,rfl,rfl⟩
  refine Yf 3 [1] (iw (H2 e.kids) (ZZ ((k:Int)<(e.kids.length:Int)) (fun Xd=>?_) (fun Xd=>?_)))
  ·refine ak (aq (ab 2 (ZP (X4 (VY [1] (XP (fun fz gz F h=>∃(mf:Nat),(Uv g.decls e.op e.num (q+YX ys3) cs.length=(q+YX ys3)+mf)/\(mf<=3)/\(TF g.decls e.op e.num us.length k=us.length+mf)/\F=sF [0,3,5,6,10,11,12,13] fz [(14,.i mf)]/\h=gz) ?_ ?_))))))
   ·refine ac (e.op==8) Zs (fun Xp=>?_) (fun Xp=>?_)
    ·refine aE 10 (ZO 6 10 [0,1,2,3] [2] (da 4 (((k-1:Nat):Int)) (((k:Int))-(1)) ?_))
     obtain ⟨x5,T8⟩:=Zr (ZW g.decls e.num) (k-1) (by have:=h8 om;omega)
     exact dx 5 (Zg none ((k-1:Nat):Int) 1 (Y3 T8)) (Zk 3 4 [6] (Z8 7 (Yq 7 [] [] [] (QW g.decls x5) (dn 8 (.i (((ZX g.decls x5).length:Nat):Int)) (.i (((Z7 (ZX g.decls x5)).length:Nat):Int)) (li (by rw [Yi])) (Zk 0 1 [9] (de (ZT ⟨(ZX g.decls x5).length,(In om (by rw [show cs.length=k-1 by omega];exact T8)),(by have:=VP Xy x5;omega),(Z9s om (show k=(k-1)+1 by omega) T8),rfl,rfl⟩ (ZM 5 (fc (x:=.i (((ZX g.decls x5).length:Nat):Int)) (li (by first|rfl|(rw [Zj Xp])|(rw [Z9 Xp])|(simp [Xp];done)|(rw [Xr];simp [Xp];done)|omega)) fl)))))))))
    exact ak (ZT ⟨0,(Io om),om,(OZ om),rfl,rfl⟩ (ZM 5 (fc (x:=.i 0) (li (by first|rfl|(rw [Zj Xp])|(rw [Z9 Xp])|(simp [Xp];done)|(rw [Xr];simp [Xp];done)|omega)) fl)))
   rintro F h ⟨mf,Z5g,Ze2,Z5h,rfl,rfl⟩
   refine aE 25 (ZO 20 25 [0,1,2,3,4] [2,1] ?_)
   obtain ⟨x6,Br⟩:=Zr e.kids k om
   have hekx6:=C6 hks Br
   have hszx6:=Bj Br
   have htzx6:=Ax Br
   rw [V0] at hekx6
   rw [Z5h] at hekx6
   have htk:=JO (xs:=e.kids) (k+1)
   have hbl:=Ei cs
   refine dx 5 (Zg none (k:Int) 3 (C3 Br)) (ZO 7 19 [6,7,8,9,10,11,12,15,16,17,18,19] [0,0] (da 20 ((((q+YX ys3)+mf:Nat):Int)) (((((q+YX ys3):Nat):Int))+((mf:Int))) (Z8 13 (dc 13 [] [0,1,2] [l,b2,b1] (Ho (q+YX ys3) mf) ?_))))
   rintro _ _ ⟨xs1,rfl,rfl,YZ⟩
   have hnx:=YZ
   refine Z8 14 (dc 14 [] [0,1,2] [l,b2,b1] (QE us xs1) ?_)
   rintro _ _ ⟨v8,rfl,rfl⟩
   refine Yr 4 4 [] [(98,Z6 (us++xs1))] (Z8 21 (dc 21 [] [] [] (MF g x6 (us++xs1) ((q+YX ys3)+mf) e.sz (he:=(by rw [Yx,hnx.1];exact hekx6)) (hu:=(Zd2 hu hnx.2)) (hul:=(by rw [Yx,hnx.1];omega)) (hql:=om) (ih:=ih)) ?_))
   rintro _ _ ⟨b3,rfl,rfl,Xg⟩
   have hlb:=Xg
   exact Z8 22 (Wt 22 [] [] [ZI b3] (YE [b3]) (UC [b3]).symm 1 2 fun v9=>Yr 2 2 [] [(106,Xq [b3])] (Z8 23 (dp 23 5 [] [] (YE (cs++[b3])) (YE cs) (YE [b3]) u none 2 (Th _) (Th _) (Ew _) (by simp<;>omega) (by simp [J6,YE]) fun v10=>Zk 0 1 [24] (de (az (Z2 1 (ZG k (Z0 (ZH ⟨k+1,(cs++[b3]),v10,ob,ob,(M9 Zw (by rw [Z5g];exact hlb.1)),(by have:=hlb.2;rw [CT,Yx];simp only [X1,YV,Xn];omega),(NU Wj hlb.op),rfl,rfl,rfl⟩ (wk [3,3,3,0,2] (fw (ZJ k fl))))))))))))
  refine ax 1 (Zu 6 [1,1] (iL (Z7 [v5]) 1 1 fun v11=>ZQ 2 [(116,.agg [.i e.op,.i e.num,.i 0,Z6 [v5],Xq cs])] (ic [1,4] (Mv l (xs++ys3) w23 (q+YX ys3) (Z4.mk e.op e.num 0 [v5] cs) (hl:=(by first|(have h1:=KL zs;have h2:=JO (xs:=e.kids) k;have h3:=Aw zs;(try simp only [Yx]);omega)|((try simp only [Yx]);omega))) (hq:=(by first|(have h1:=KL zs;have h2:=JO (xs:=e.kids) k;have h3:=Aw zs;(try simp only [Yx]);omega)|((try simp only [Yx]);omega)))) ?_)))
  rintro _ _ ⟨w24,rfl,rfl⟩
  refine Z0 ?_
  have hcb:Yo e.op=false:=by simp [Yo];omega
  exact ZD (r1 [0,0] ⟨(ys3++[Z4.mk e.op e.num 0 [v5] cs]),(((q+YX ys3):Nat):Int),w24,rfl,rfl,(LW.branch (s0:=x4.sz) (sr:=Xs (e.kids.take k)-x4.sz) om (fun h=>by have:=h7 h;omega) (fun h=>by have:=h8 h;omega) hnum hlwhp3.fs hlwhp3.v Zw om hlwhp3.sz (by have:=Ei cs;omega) (by have:=JO (xs:=e.kids) k;omega) hlwhp3.op Wj)⟩ (eq:=(ro (ls:=[YS ((xs++ys3)++[(Z4.mk e.op e.num 0 [v5] cs)]) w24,.i ((((q+YX ys3)+1):Nat):Int)]) (by rw [CY (s:=Z4.mk e.op e.num 0 [v5] cs) hcb,<-Ag,Ul]) (rc rz))))
 refine ak (ar (iL (Z7 []) 0 1 fun v12=>?_))
 refine Z0 (Y7 (ab 3 (Y0 (fun fz gz m F h=>∃(k:Nat) (asl:LI) (u:Value) (zs:List Z4) (w3:Value),(k<=e.kids.length)/\(asl.length=k)/\(UP g.decls g.funcs.length q zs)/\(∀a∈asl,0<=a/\a<((q+YX zs:Nat):Int))/\(Yw zs<=6*Xs (e.kids.take k))/\(TA WB zs)/\F=sF [0,3,5,6] fz [(15,ZY asl u),(16,.i k)]/\h=[Zh gz 1,Zh gz 2,.obj l [YS (xs++zs) w3,.i (((q+YX zs):Nat):Int)],.tail u 1,.tail w3 5]/\m=e.kids.length-k) _ _ _ ⟨0,[],v12,[],w,ob,ob,True.intro,(fun a ha=>by cases ha),(by simp [Yw]),True.intro,rfl,rfl,rfl⟩ (wk [1,1,1,0,0] (fr (Y5 fl)) (e:=(rc (rc (ro (ls:=[YS xs w,.i q]) (by simp [YX]) (rc (rc rz))))))) ?_)))
 rintro m F h ⟨k,asl,u,zs,w3,VA,XL,XI,GG,Zdp,Lz,rfl,rfl,rfl⟩
 refine Yf 3 [0] (iw (H2 e.kids) (ZZ ((k:Int)<(e.kids.length:Int)) (fun VF=>?_) (fun VF=>?_)))
 ·refine ak (aq (ab 4 (aD 10 (ZO 5 10 [0,1,2,3,4] [1,0] ?_))))
  obtain ⟨x7,EZ⟩:=Zr e.kids k om
  have hzl:=KL zs
  have hzd:=Aw zs
  have htk:=JO (xs:=e.kids) (k+1)
  have hekx7:=C6 hks EZ
  have hszx7:=Bj EZ
  have htzx7:=Ax EZ
  rw [V0] at hekx7
  rw [OZ om] at hekx7
  refine dx 5 (Zg none (k:Int) 3 (C3 EZ)) (Zk 2 4 [6,7] (Z8 8 (dc 8 [2,3] [] [] (ih l x7 us (xs++zs) w3 (q+YX zs) (by first|assumption|(rw [Yx];assumption)) (by first|assumption|exact E4 hu hlwhp1.v|exact G5 hu) (by first|omega|(simp only [Yx,YV,Xn];omega)) (by first|omega|(simp only [Yx,YV,Xn];omega)) ob ob) ?_)))
  rintro _ _ ⟨ys4,v13,w25,rfl,rfl,XX⟩
  have hlwhp6:=XX
  have hldhp6:=XX.dn
  exact Zk 0 1 [9] (de (az (Z2 2 (iL (Z7 [v13]) 1 1 fun v14=>ZQ 0 [(137,Z6 [v13])] (ip 5 (Z7 (asl++[v13])) (Z7 asl) (Z7 [v13]) u none 1 (YD _) (YD _) (W5 _) (by simp<;>omega) (by simp [W4,Z7]) fun v15=>Z0 (az (Z2 1 (ZG k (Z0 (ZH ⟨k+1,(asl++[v13]),v15,(zs++ys4),w25,ob,ob,(C8.2 ⟨XI,hlwhp6.fs⟩),(by rw [KD,<-Ag];exact E4 GG hlwhp6.v),(by have:=hlwhp6.sz;rw [Tc];omega),(Fu.2 ⟨Lz,hlwhp6.op⟩),rfl,rfl,rfl⟩ (wk [4,4,2,0,1] (fr (ZJ k fl)) (e:=(rc (rc (ro (ls:=[YS ((xs++zs)++ys4) w25,.i ((((q+YX zs)+YX ys4):Nat):Int)]) (by rw [KD,<-Ag,Ul]) (rc (rc rz)))))))))))))))))
 refine ax 3 (Zu 6 [0,0] (iL (YE []) 0 2 fun v16=>ZQ 1 [(146,.agg [.i e.op,.i e.num,.i 0,Z6 asl,Xq []])] (ic [3,4] (Mv l (xs++zs) w3 (q+YX zs) (Z4.mk e.op e.num 0 asl []) (hl:=(by first|(have h1:=KL zs;have h2:=JO (xs:=e.kids) k;have h3:=Aw zs;(try simp only [Yx]);omega)|((try simp only [Yx]);omega))) (hq:=(by first|(have h1:=KL zs;have h2:=JO (xs:=e.kids) k;have h3:=Aw zs;(try simp only [Yx]);omega)|((try simp only [Yx]);omega)))) ?_)))
 rintro _ _ ⟨w26,rfl,rfl⟩
 refine Z0 ?_
 have hcb:Yo e.op=false:=by simp [Yo];omega
 exact ZD (r1 [0,0] ⟨(zs++[Z4.mk e.op e.num 0 asl []]),(((q+YX zs):Nat):Int),w26,rfl,rfl,(LW.node om h9 hnum XI GG om (by have:=JO (xs:=e.kids) k;omega) Lz)⟩ (eq:=(ro (ls:=[YS ((xs++zs)++[(Z4.mk e.op e.num 0 asl [])]) w26,.i ((((q+YX zs)+1):Nat):Int)]) (by rw [CY (s:=Z4.mk e.op e.num 0 asl []) hcb,<-Ag,<-Ul]) (rc rz))))
theorem Z2o (l:Nat) (g:XZ) (e:Z1) (us:LI) (xs:List Z4) (w:Value) (q:Nat) (hd:GD g.decls) (he:eW g.decls g.funcs.length us.length e) (hu:∀a∈us,0<=a/\a<(q:Int)) (hul:us.length+4*e.sz<=100000) (hxl:xs.length+6*e.sz<=100000) (hql:q+6*e.sz<=100000):Zi 224 [.p l 0,JA g,Y2 e,Z6 us] [.obj l [YS xs w,.i q],.tail w 5] (fun r h=>∃(ys:List Z4) (v:Int) (w2:Value),r=.i v/\h=[.obj l [YS (xs++ys) w2,.i (((q+YX ys):Nat):Int)],.tail w2 5]/\LW g.decls g.funcs.length q e ys v):=by
 have key:∀k:Nat,∀(l:Nat) (e2:Z1) (us2:LI) (xs2:List Z4) (w2:Value) (q2:Nat),(eW g.decls g.funcs.length us2.length e2)->(∀a∈us2,0<=a/\a<(q2:Int))->(us2.length+4*e2.sz<=100000)->(xs2.length+6*e2.sz<=100000)->(q2+6*e2.sz<=100000)->(e2.sz<k)->Zi 224 [.p l 0,JA g,Y2 e2,Z6 us2] [.obj l [YS xs2 w2,.i q2],.tail w2 5] (fun r h=>∃(ys:List Z4) (v:Int) (w2:Value),r=.i v/\h=[.obj l [YS (xs2++ys) w2,.i (((q2+YX ys):Nat):Int)],.tail w2 5]/\LW g.decls g.funcs.length q2 e2 ys v):=by
  intro k
  induction k with
  | zero=>intro l e2 us2 xs2 w2 q2 h1 h2 h3 h4 h5 h6;omega
  | succ k ih=>intro l e2 us2 xs2 w2 q2 h1 h2 h3 h4 h5 h6;exact Z2p l g e2 us2 xs2 w2 q2 hd h1 h2 h3 h4 h5 fun l e3 us3 xs3 w3 q3 a1 a2 a3 a4 a5 a6=>ih l e3 us3 xs3 w3 q3 a1 a2 a3 a4 a5 om
 exact key (e.sz+1) l e us xs w q he hu hul hxl hql om
theorem Hn (g:XZ) (e:Z1) (us:LI) (q:Nat) (hd:GD g.decls:=by exact ob) (he:eW g.decls g.funcs.length us.length e:=by exact ob) (hu:∀a∈us,0<=a/\a<(q:Int)) (hul:us.length+4*e.sz<=100000:=by exact ob) (hql:q+6*e.sz<=100000:=by exact ob):Zi 174 [JA g,Y2 e,Z6 us,.i q] [] (fun r h=>∃(b:Z5),r=ZI b/\h=[]/\LB g.decls g.funcs.length q e b):=(MF g e us q (e.sz+1) he hu hul hql om (fun l e2 us2 xs2 w2 q2 h1 h2 h3 h4 h5 _=>Z2o l g e2 us2 xs2 w2 q2 hd h1 h2 h3 h4 h5))
theorem AS (ds:List Ze) (hd:Wb ds:=by exact ob):Zi 96 [Ya ds] [] (Yg (Ya ds)):=by
 have hdl:=hd.len
 refine ZF 55 Tryz.func96 (ZP (ar (iL (Yz []) 0 3 fun v1=>?_)))
 refine Z0 (Y7 (ab 0 (Y0 (fun fz gz m F h=>∃(k:Nat) (v:Value),(k<=ds.length)/\F=sF [0] fz [(3,Jl (ds.take k) v),(4,.i k)]/\h=[.tail v 3]/\m=ds.length-k) _ _ _ ⟨0,v1,ob,rfl,rfl,rfl⟩ (wk [0] (fc (x:=Jl [] v1) (Zc.slh _ (Yp Yz rfl)) (Y5 fl))) ?_)))
 rintro m F h ⟨k,v,Yb,rfl,rfl,rfl⟩
 refine YO 2 (iw (VC ds) (ZZ ((k:Int)<(ds.length:Int)) (fun Za=>?_) (fun Za=>?_)))
 ·obtain ⟨xd,hxd⟩:=Zr ds k om
  have hcl:=hd.cons_at hxd
  refine ak (aq (ab 1 (ar (iL (XF []) 0 1 fun v2=>?_))))
  refine Z0 (Y7 (ab 2 (Y0 (fun fz gz m F h=>∃(j:Nat) (u:Value),(j<=xd.cons.length)/\F=sF [0,3,4] fz [(5,Fq (xd.cons.take j) u),(6,.i j)]/\h=[.tail u 1,Zh gz 1]/\m=xd.cons.length-j) _ _ _ ⟨0,v2,ob,rfl,rfl,rfl⟩ (wk [0,0] (fc (x:=Fq [] v2) (Zc.slh _ (Yp XF rfl)) (Y5 fl))) ?_)))
  rintro m F h ⟨j,u,VA,rfl,rfl,rfl⟩
  refine YO 3 (Zm (Zg none (k:Int) 3 (Wz hxd)) (Z2 2 (iw (VQ xd.cons) (ZZ ((j:Int)<(xd.cons.length:Int)) (fun Zf=>?_) (fun Zf=>?_)))))
  ·refine ak (aq (ab 3 (az (Z2 3 (Zm (Zg none (k:Int) 3 (Wz hxd)) (Z2 3 ?_))))))
   obtain ⟨x1,Z3⟩:=Zr xd.cons j om
   have hfl:=hd.fields_at hxd Z3
   refine Zm (Zg none (j:Int) 1 (JI Z3)) (Z2 2 (ic [] (VK x1.fields) ?_))
   rintro _ _ ⟨v3,rfl,rfl⟩
   exact ZQ 1 [(36,BP x1)] (iL (XF [x1]) 1 1 fun v4=>ZQ 0 [(37,QT [x1])] (ip 2 (XF (xd.cons.take (j+1))) (XF (xd.cons.take j)) (XF [x1]) u none 1 (CZ _) (CZ _) (Z08 _) (by simp<;>omega) (by rw [Ww Z3];simp [XF]) fun v5=>Z0 (az (Z2 1 (ZG j (Z0 (ZH ⟨j+1,v5,ob,rfl,rfl,rfl⟩ (wk [0,2] (fr (ZJ j fl))))))))))
  exact ax 2 (aE 16 (Zk 13 16 [0,1,2] (dx 3 (Zg none (k:Int) 3 (Wz hxd)) (Zk 8 12 [4,5,6,7] (dx 8 (Zg none (k:Int) 3 (Wz hxd)) (Yr 3 7 [9,10,11,12] [(51,.agg [.i xd.frm,.i xd.to_,QT (xd.cons.take j)])] (Z8 13 (dL 13 [] [] (Yz [Ze.mk xd.frm xd.to_ (xd.cons.take j)]) 1 3 fun v6=>Yr 2 2 [] [(52,Ya [Ze.mk xd.frm xd.to_ (xd.cons.take j)])] (Z8 14 (dp 14 2 [] [] (Yz (ds.take (k+1))) (Yz (ds.take k)) (Yz [Ze.mk xd.frm xd.to_ (xd.cons.take j)]) v none 3 (QP _) (QP _) (Ex _) (by simp<;>omega) (by rw [Ww hxd];simp [Yz,Wx (show xd.cons.length<=j by omega)]) fun v7=>Zk 0 1 [15] (de (az (Z2 1 (ZG k (Z0 (ZH ⟨k+1,v7,ob,rfl,rfl,rfl⟩ (wk [0] (fr (ZJ k fl)))))))))))))))))))
 exact ax 0 (ar (Zt (ZU (Jl (ds.take k) v) (Zc.sl _ (Yp Yz (by rw [Wx om]))))))
theorem Z2w (g:XZ) (hg:Gk g:=by exact ob):Zi 133 [JA g] [] (fun r h=>∃(n:Zq),r=Yk n/\h=[]/\FO n 181 WB):=by
 have hgl:=hg.gp.len
 have Xy:=hg.gp.decls.ok
 refine ZF 49 Tryz.func133 (ar (iA (HN g) fun b1=>iA [nl,nl] fun b2=>ie (Zu 2 [1] (Zy [] (AS g.decls) (iL (Yy []) 0 5 fun v1=>Z2 1 (iA [nl,nl] fun b3=>?_))))))
 refine Zz 0 b3 [Ya g.decls,Wd [] v1] (ie (Y7 (ab 0 (Y0 (fun fz gz m F h=>∃(k:Nat) (rs:List ZV) (u:Value),(k<=g.funcs.length)/\(rs.length=k)/\(∀r∈rs,RN g.decls g.funcs.length r)/\F=sF [1,2,3] fz [(4,.i k)]/\h=[.obj b3 [Ya g.decls,Wd rs u],Zh gz 2,Zh gz 3,.tail u 5]/\m=g.funcs.length-k) _ _ _ ⟨0,[],v1,ob,ob,(fun r hr=>by cases hr),rfl,rfl,rfl⟩ (wk [0,1,1,0] (Y5 fl)) ?_))))
 rintro m F h ⟨k,rs,u,Yb,Zl,Zw,rfl,rfl,rfl⟩
 refine Yf 3 [2] (iw (C4 g.funcs) (ZZ ((k:Int)<(g.funcs.length:Int)) (fun Za=>?_) (fun Za=>?_)))
 ·refine ak (aq (ab 1 (Zu 3 [2] ?_)))
  obtain ⟨x1,Z3⟩:=Zr g.funcs k om
  have hso:=(hg.gp.sigs _ (Y1 Z3)).bd
  have hsi:=hg.gp.sigs _ (Y1 Z3)
  have hbo:=hg.body _ (Y1 Z3)
  refine Zm (Zg none (k:Int) 5 (Ey Z3)) (Z2 1 (iA [nl,.i 0,.i 0,.i 0,nl] fun b4=>?_))
  refine Zz 0 b4 (Fe x1) (ie (Zu 2 [0] (iw (Yi x1.params) (Z0 (aD 9 (ZO 4 9 [0,1,2,3,5] [3,0] (KC (fun fz gz F h=>∃(b5:Z5) (b6:Nat) (xs1:LI),(xs1.length=x1.params.length/\∀i∈xs1,(0:Int)<=i/\i<(0:Int)+x1.params.length)/\(LB g.decls g.funcs.length x1.params.length x1.body b5)/\F=sF [1,2,3,4,5] fz [(7,.p b6 0)]/\h=[.obj b6 (X3 b5),Zh gz 0,Zh gz 1,Zh gz 2,Zh gz 3,Zh gz 4]) ?_ ?_)))))))
  ·refine Vq 4 7 ?_ ?_
   ·refine dc 4 [] [0,3] [b4,b1] (Ho 0 x1.params.length) ?_
    rintro _ _ ⟨xs1,rfl,rfl,Y4⟩
    have hnx:=Y4
    refine Vq 6 7 ?_ ?_
    ·refine dc 6 [] [] [] (Hn g x1.body xs1 x1.params.length (hd:=hg.gp.decls) (he:=(by rw [hnx.1];exact hbo.1)) (hu:=(fun a ha=>by have:=hnx.2 a ha;omega))) ?_
     rintro _ _ ⟨b5,rfl,rfl,Ym⟩
     have hlb:=Ym
     exact Z8 7 (dA 7 [] [] [nl,.i 0] fun b6=>Z8 8 (YM 8 0 [] [] b6 (X3 b5) (de (ZT ⟨_,b6,_,(by assumption),(by assumption),rfl,rfl⟩ (ZM 6 fl)))))
    refine dA 7 [0,3] [b4,b1] [nl,.i 0] fun b7=>Z8 6 (dc 6 [] [] [] (Hn g x1.body xs1 x1.params.length (hd:=hg.gp.decls) (he:=(by rw [hnx.1];exact hbo.1)) (hu:=(fun a ha=>by have:=hnx.2 a ha;omega))) ?_)
    rintro _ _ ⟨b8,rfl,rfl,YQ⟩
    have hlb:=YQ
    exact Z8 8 (YM 8 0 [] [] b7 (X3 b8) (de (ZT ⟨_,b7,_,(by assumption),(by assumption),rfl,rfl⟩ (ZM 6 fl))))
   refine dA 7 [0,3] [b4,b1] [nl,.i 0] fun b9=>Z8 4 (dc 4 [] [1,4] [b4,b1] (Ho 0 x1.params.length) ?_)
   rintro _ _ ⟨xs2,rfl,rfl,YZ⟩
   have hnx:=YZ
   refine Z8 6 (dc 6 [] [] [] (Hn g x1.body xs2 x1.params.length (hd:=hg.gp.decls) (he:=(by rw [hnx.1];exact hbo.1)) (hu:=(fun a ha=>by have:=hnx.2 a ha;omega))) ?_)
   rintro _ _ ⟨b10,rfl,rfl,Xg⟩
   have hlb:=Xg
   exact Z8 8 (YM 8 0 [] [] b9 (X3 b10) (de (ZT ⟨_,b9,_,(by assumption),(by assumption),rfl,rfl⟩ (ZM 6 fl))))
  rintro F h ⟨b5,b6,xs1,Y4,Ym,rfl,rfl⟩
  have hnx:=Y4
  have hlb:=Ym
  refine aE 14 (ZO 7 14 [0,1,2,3,6,7,8] [2,1,1,0] (Vq 4 5 ?_ ?_))
  ·refine dc 4 [] [0,1,2] [b6,b4,b3] (VK x1.params) ?_
   rintro _ _ ⟨v2,rfl,rfl⟩
   exact Z8 5 (dL 5 [0,1,2] [b6,b4,b3] (Z7 []) 0 1 fun v3=>Yr 4 5 [9] [(44,.agg [Z6 x1.params,Z6 [],.i x1.result,WE b5.steps,.i b5.result])] (Z8 10 (dL 10 [2] [b3] (Yy [ZV.mk x1.params [] x1.result (Z5.mk b5.steps b5.result)]) 1 5 fun v4=>Yr 3 3 [] [(45,Tz [ZV.mk x1.params [] x1.result (Z5.mk b5.steps b5.result)])] (Z8 11 (dp 11 8 [] [] (Yy (rs++[ZV.mk x1.params [] x1.result (Z5.mk b5.steps b5.result)])) (Yy rs) (Yy [ZV.mk x1.params [] x1.result (Z5.mk b5.steps b5.result)]) u none 5 (U3 _) (U3 _) (Jb _) (by simp<;>omega) (by simp [JK,Yy]) fun v5=>Zk 1 2 [12] (Z8 13 (YM 13 6 [] [] b3 [Ya g.decls,Wd (rs++[ZV.mk x1.params [] x1.result (Z5.mk b5.steps b5.result)]) v5] (de (az (Z2 1 (ZG k (Z0 (ZH ⟨k+1,(rs++[ZV.mk x1.params [] x1.result (Z5.mk b5.steps b5.result)]),v5,ob,ob,(Xu Zw (RN.of hsi hlb hbo.2)),rfl,rfl,rfl⟩ (wk [0,6,6,0] (ZJ k fl)))))))))))))))
  refine dL 5 [0,1,1,2] [b6,b4,b4,b3] (Z7 []) 0 1 fun v6=>Z8 4 (dc 4 [] [0,1,2] [b6,b4,b3] (VK x1.params) ?_)
  rintro _ _ ⟨v7,rfl,rfl⟩
  exact Yr 4 5 [9] [(44,.agg [Z6 x1.params,Z6 [],.i x1.result,WE b5.steps,.i b5.result])] (Z8 10 (dL 10 [2] [b3] (Yy [ZV.mk x1.params [] x1.result (Z5.mk b5.steps b5.result)]) 1 5 fun v8=>Yr 3 3 [] [(45,Tz [ZV.mk x1.params [] x1.result (Z5.mk b5.steps b5.result)])] (Z8 11 (dp 11 8 [] [] (Yy (rs++[ZV.mk x1.params [] x1.result (Z5.mk b5.steps b5.result)])) (Yy rs) (Yy [ZV.mk x1.params [] x1.result (Z5.mk b5.steps b5.result)]) u none 5 (U3 _) (U3 _) (Jb _) (by simp<;>omega) (by simp [JK,Yy]) fun v9=>Zk 1 2 [12] (Z8 13 (YM 13 6 [] [] b3 [Ya g.decls,Wd (rs++[ZV.mk x1.params [] x1.result (Z5.mk b5.steps b5.result)]) v9] (de (az (Z2 1 (ZG k (Z0 (ZH ⟨k+1,(rs++[ZV.mk x1.params [] x1.result (Z5.mk b5.steps b5.result)]),v9,ob,ob,(Xu Zw (RN.of hsi hlb hbo.2)),rfl,rfl,rfl⟩ (wk [0,6,6,0] (ZJ k fl))))))))))))))
 exact ax 0 (Zu 1 [0] (Zz 1 b2 [Ya g.decls,Wd rs u] (ie (ZD (r3 [] [.agg [Ya g.decls,Wd rs u]] [0] [(b2,b2)] ⟨(Zq.mk g.decls rs),rfl,rfl,(RN.all hg.gp.decls (by show 1<=rs.length/\rs.length<=4;omega) (by show ∀r∈rs,RN g.decls rs.length r;rw [show rs.length=g.funcs.length by omega];exact Zw) om)⟩ (Zc.agg (.cons (lr _) (.cons (Zc.forget _ _) .nil))))))))
theorem Pu (n:Zq) (hz:Ua n:=by exact ob):Zi 83 [Yk n] [] (Yg (.b (V8 n))):=by
 have hzl:=hz.len
 refine ZF 35 Tryz.func83 (ar (iA (YJ n) fun b1=>Z0 (Yf 1 [0] (Zy [] (Zbd n (hz:=hz.decls) (hr:=(fun r hr=>⟨hz.params r hr,hz.lent r hr⟩))) (YG (!VW n) (p:=¬(VW n=true)) (Yn Iff.rfl) (fun Za=>?_) (fun Za=>?_))))))
 ·exact ar (Zt (ZU (.b false) (lb (by first|rfl|omega|grind [V8]))))
 have hok:=HZ hz (by simpa using Za)
 refine ak (Y7 (ab 0 (Y0 (fun fz gz m F h=>∃(k:Nat),(k<=n.routines.length)/\(TC n (n.routines.drop k)=TC n n.routines)/\F=sF [1] fz [(3,.i k)]/\h=gz/\m=n.routines.length-k) _ _ _ ⟨0,ob,ob,rfl,rfl,rfl⟩ (wk [0] (Y5 fl)) ?_)))
 rintro m F h ⟨k,Yb,Zl,rfl,rfl,rfl⟩
 refine Yf 3 [0] (iw (Vl n.routines) (ZZ ((k:Int)<(n.routines.length:Int)) (fun Zf=>?_) (fun Zf=>?_)))
 ·refine ak (aq (ab 1 (Zu 3 [0] ?_)))
  obtain ⟨x1,Z3⟩:=Zr n.routines k om
  have ZE:=hz.body _ (Y1 Z3)
  have hps:=hok.params_at Z3
  refine Zm (Zg none (k:Int) 5 (Wm Z3)) (Z2 1 (iA [nl,nl,.i 0,nl,.i 0] fun b2=>Zz 0 b2 (Tm x1) (ie (aD 15 (ZO 13 15 [0,1] [0] (Z8 2 (Yq 2 [] [] [] (Zb8 x1.body) (JF [1,3] [(34,.b ((decide ((Td x1.body)<0))||((X7 n x1.params x1.body) != x1.result)))] (fun gz=>gz) ?_ ?_))))))))
  ·refine Zk 10 12 [3,4] (db (b:=(decide ((Td x1.body)<0))) 24 (fun Zd=>?_) (fun Zd=>?_))
   ·exact Zk 0 10 [5,6,7,8,9,10,11,12,13,14] (de (wk [0,0] (Zp true Zd fl)))
   exact ZO 3 10 [5,6,7,8,9,11,12] [1,0,0,0] (Z8 10 (Yq 10 [] [0] [b2] (Pj n x1.params x1.body ob ob) (Zk 0 2 [13,14] (de (wk [0,0] (Zp ((X7 n x1.params x1.body) != x1.result) Zd fl))))))
  refine ac ((decide ((Td x1.body)<0))||((X7 n x1.params x1.body) != x1.result)) (p:=((Td x1.body)<0)∨((X7 n x1.params x1.body)≠x1.result)) (Yh dq Y6) (fun ZA=>?_) (fun ZA=>?_)
  ·refine ZP ?_
   rw [Y9 Z3] at Zl
   exact ZD (ZU (.b false) (lb (by clear Z3;first|rfl|omega|grind [TC,V8])))
  refine ak (az (Z2 1 (ZG k (Z0 ?_))))
  have hdr:=Y9 Z3
  exact ZH ⟨k+1,ob,(by rw [hdr] at Zl;clear hdr Z3;grind [TC]),rfl,rfl,rfl⟩ (wk [1] (ZJ k fl))
 refine ax 0 (ZP ?_)
 try rw [Xf (xs:=n.routines) (k:=k) om] at Zl
 exact ZD (ZU (.b true) (lb (by first|rfl|omega|grind [TC,V8])))
theorem Iy (op:Int) :Zi 110 [.i op] [] (Yg (.b (Yo op))):=by
 exact ZF 5 Tryz.func110 (ZP (Yc 1 (Zy [] (UY op 14 17) (Zt (ZU (.b (decide (14<=op/\op<=17))) (lb (by first|rfl|omega|grind [Yo])))))))
theorem Pl (op:Int) :Zi 267 [.i op] [] (Yg (.b (J3 op))):=by
 refine ZF 17 Tryz.func267 (ZP (ar (XG 6 [0] [(8,.b ((op==6)||(op==9)))] (fun gz=>gz) ?_ (fun hj1=>?_))))
 ·refine XG 10 [0] [(12,.b (((op==6)||(op==9))||(op==10)))] (fun gz=>gz) ?_ (fun hj2=>?_)
  ·refine XG 14 [] [(16,.b ((((op==6)||(op==9))||(op==10))||(op==11)))] (fun gz=>gz) ?_ (fun hj3=>?_)
   ·exact Zt (ZU (.b ((((op==6)||(op==9))||(op==10))||(op==11))) (lb (by first|rfl|omega|grind [J3])))
   refine Z2 1 (ib (b:=(((op==6)||(op==9))||(op==10))) 13 (fun Zd=>?_) (fun Zd=>?_))
   ·exact Z2 3 (Yv (wk [] (Zp true Zd fl)) hj3)
   exact Z2 3 (Yv (wk [] (Zp (op==11) Zd fl)) hj3)
  refine Z2 1 (ib (b:=((op==6)||(op==9))) 9 (fun ZC=>?_) (fun ZC=>?_))
  ·exact Z2 3 (Yv (wk [] (Zp true ZC fl)) hj2)
  exact Z2 3 (Yv (wk [] (Zp (op==10) ZC fl)) hj2)
 refine Z2 3 (ib (b:=(op==6)) 5 (fun YB=>?_) (fun YB=>?_))
 ·exact Z2 3 (Yv (wk [] (Zp true YB fl)) hj1)
 exact Z2 3 (Yv (wk [] (Zp (op==9) YB fl)) hj1)
theorem DX (n:Zq) (s:Z4) (i:Nat) (hn:Xe n:=by exact ob) (hnum:s.op=9->0<=s.num/\s.num<n.routines.length:=by exact ob):Zi 221 [Yk n,YC s,.i i] [] (Yg (.b (UE n s.op s.num i))):=by
 refine ZF 21 Tryz.func221 (ar (iA (YJ n) fun b1=>iA (Xm s) fun b2=>Z0 (Zu 4 [0] (ib (b:=(s.op==9)) 10 (fun Zd=>?_) (fun Zd=>?_)))))
 ·have Y4:s.op=9:=(Zs).1 Zd
  refine ZL 4 [1,0] ?_
  obtain ⟨x1,Z3⟩:=Zr n.routines s.num.toNat om
  have hlt:=hn.lent_at Z3
  have hlr:=Z6a (n:=n) Y4 Z3
  exact Zm (Zg none s.num 5 (Wm Z3)) (Z2 3 (Zy [] (Uw x1.lent (i:Int)) (Zt (ZU (.b (decide ((i:Int)∈x1.lent))) (lb (by rw [UE,hlr]))))))
 have Ym:¬(s.op=9):=Yd Zs Zd
 exact Zt (ZU (.b false) (lb (by rw [UE,Fk,Z9 Ym];simp)))
theorem FW (n:Zq) (us:LI) (s:Z4) (i:Nat) (a:Int) (hn:Xe n:=by exact ob) (hnum:s.op=9->0<=s.num/\s.num<n.routines.length:=by exact ob) (ha:s.args[i]? = some a:=by exact ob) (hi:0<=a/\a<us.length:=by exact ob):Zi 220 [Yk n,Z6 us,YC s,.i i] [] (Yg (.b (KA n us s.op s.num a i))):=by
 have hal:=(XS.1 ha).1
 refine ZF 30 Tryz.func220 (ar (iA (YJ n) fun b1=>iA (Xm s) fun b2=>Z0 (Zu 2 [0] (Zy [] (Pl s.op) (Z2 1 (ib (b:=J3 s.op) 12 (fun Zd=>?_) (fun Zd=>?_)))))))
 ·refine ZL 4 [0] ?_
  obtain ⟨x1,Z3⟩:=Zr s.args i om
  have hxa:x1=a:=by rw [ha] at Z3;exact (Ah Z3).symm
  subst hxa
  refine Zm (Zg none (i:Int) 1 (Y3 Z3)) (Z2 1 ?_)
  obtain ⟨x2,Zo⟩:=Zr us x1.toNat om
  have hga:=Tj Zo
  refine Zm (Zg none x1 1 (Y3 Zo)) (Z2 4 (ib (b:=(x2 != 0)) 23 (fun ZC=>?_) (fun ZC=>?_)))
  ·exact ZL 3 [1,0] (Zy [] (DX n s i) (Zt (ZU (.b (!UE n s.op s.num i)) (lb (by clear Z3 Zo;first|rfl|(rw [KA];grind))))))
  exact Zt (ZU (.b false) (lb (by clear Z3 Zo;first|rfl|(rw [KA];grind))))
 exact Zt (ZU (.b false) (lb (by  first|rfl|(rw [KA];grind))))
theorem Pq (xs:LI) (ys:LI) (hl_xs:xs.length<=4294967296:=by exact ob) (hl_ys:ys.length<=4294967296:=by exact ob):Zi 219 [Z6 xs,Z6 ys] [] (Yg (.b (decide (xs=ys)))):=by
 refine ZF 26 Tryz.func219 (ZP (YO 1 (iw (Yi xs) (Z2 1 (iw (Yi ys) (YG ((xs.length:Int) != (ys.length:Int)) Y6 (fun Za=>?_) (fun Za=>?_)))))))
 ·exact ar (Zt (ZU (.b false) (lb (eq_comm.1 (decide_eq_false (fun q=>by rw [q] at Za;exact Za rfl))))))
 refine ak (Y7 (ab 0 (Y0 (fun fz gz m F h=>∃(k:Nat),(k<=xs.length)/\(xs.take k=ys.take k)/\F=sF [0,1] fz [(5,.i k)]/\h=gz/\m=xs.length-k) _ _ _ ⟨0,ob,ob,rfl,rfl,rfl⟩ (wk [] (Y5 fl)) ?_)))
 rintro m F h ⟨k,Yb,Zl,rfl,rfl,rfl⟩
 refine YO 2 (iw (Yi xs) (ZZ ((k:Int)<(xs.length:Int)) (fun Zf=>?_) (fun Zf=>?_)))
 ·refine ak (aq (ab 1 (aD 9 (Zk 7 9 [0,1] ?_))))
  obtain ⟨x1,Z3⟩:=Zr xs k om
  refine dx 2 (Zg none (k:Int) 1 (Y3 Z3)) (Zk 3 6 [3,4,5] ?_)
  obtain ⟨x2,Zo⟩:=Zr ys k om
  refine dx 6 (Zg none (k:Int) 1 (Y3 Zo)) (Zk 0 2 [7,8] (de (ac (x1 != x2) Y6 (fun ZA=>?_) (fun ZA=>?_))))
  ·exact ar (Zt (ZU (.b false) (lb (eq_comm.1 (decide_eq_false (fun q=>by subst q;rw [Z3] at Zo;cases Zo;exact ZA rfl))))))
  refine ak (az (Z2 1 (ZG k (Z0 ?_))))
  have hdr:=Y9 Z3
  exact ZH ⟨k+1,ob,(by rw [Ww Z3,Ww Zo,Zl];have hxx:x1=x2:=om;rw [hxx]),rfl,rfl,rfl⟩ (wk [] (ZJ k fl))
 exact ax 0 (ar (Zt (ZU (.b true) (lb (eq_comm.1 (decide_eq_true (by rw [Wx om,Wx om] at Zl;exact Zl)))))))
theorem AT (xs:LI) (hlen:xs.length<=4294967296:=by exact ob):Zi 82 [Z6 xs] [] (fun r h=>∃(v:Hd),r=.h v/\h=[rV v xs]):=by
 exact ZF 6 Tryz.func82 (ZP (ar (iVL [] 0 fun v1=>Z2 1 (Ji 0 v1 [] xs none fun v2=>Zt (r1 [0] ⟨v2,rfl,rfl⟩ (eq:=(rv (xs:=([]++xs)) ob rz)))))))
theorem QS (b:Nat) (ga:Hd) (gb:Hd) (gc:Hd) (gd:Hd) (ge:Hd) (gf:Hd) (L:ZK) (ln:LI) (t:Int) (o:Int) (p:Int) (hlb:L.vars.length<=1000000000:=by exact ob) (hlk:T2 L:=by exact ob):Zi 163 [.p b 0,.i t,.i o,.i p] [.obj b [.h ga,.h gb,.h gc,.h gd,.h ge,.h gf,Z6 ln],rV ga L.vars,rV gb L.own,rV gc L.par,rV gd L.con,rV ge L.fst,rV gf L.tok] (fun r h=>∃(wa:Hd) (wb:Hd) (wc:Hd) (wd:Hd) (we:Hd) (wf:Hd),h=[.obj b [.h wa,.h wb,.h wc,.h wd,.h we,.h wf,Z6 ln],rV wa ((L.grow t o p).vars),rV wb ((L.grow t o p).own),rV wc ((L.grow t o p).par),rV wd ((L.grow t o p).con),rV we ((L.grow t o p).fst),rV wf ((L.grow t o p).tok)]):=by
 obtain ⟨e1,e2,e3,e4,e5⟩:=hlk
 exact ZF 65 Tryz.func163 (Zu 6 [0] (iL (Z7 [t]) 1 1 fun v1=>ZQ 0 [(14,Z6 [t])] (Ji 2 ga L.vars [t] none fun v2=>Z2 2 (Zz 2 b [.h v2,.h gb,.h gc,.h gd,.h ge,.h gf,Z6 ln] (ie (Zu 6 [0] (iL (Z7 [o]) 1 1 fun v3=>ZQ 0 [(24,Z6 [o])] (Ji 4 gb L.own [o] none fun v4=>Z2 2 (Zz 2 b [.h v2,.h v4,.h gc,.h gd,.h ge,.h gf,Z6 ln] (ie (Zu 6 [0] (iL (Z7 [p]) 1 1 fun v5=>ZQ 0 [(34,Z6 [p])] (Ji 6 gc L.par [p] none fun v6=>Z2 2 (Zz 2 b [.h v2,.h v4,.h v6,.h gd,.h ge,.h gf,Z6 ln] (ie (Zu 5 [0] (iL (Z7 [-1]) 1 1 fun v7=>ZQ 0 [(43,Z6 [-1])] (Ji 8 gd L.con [-1] none fun v8=>Z2 2 (Zz 2 b [.h v2,.h v4,.h v6,.h v8,.h ge,.h gf,Z6 ln] (ie (Zu 5 [0] (iL (Z7 [-1]) 1 1 fun v9=>ZQ 0 [(52,Z6 [-1])] (Ji 10 ge L.fst [-1] none fun v10=>Z2 2 (Zz 2 b [.h v2,.h v4,.h v6,.h v8,.h v10,.h gf,Z6 ln] (ie (az (ZL 5 [0] (iL (Z7 [-1]) 1 1 fun v11=>ZQ 0 [(61,Z6 [-1])] (Ji 12 gf L.tok [-1] none fun v12=>Z2 2 (Zz 2 b [.h v2,.h v4,.h v6,.h v8,.h v10,.h v12,Z6 ln] (ie (r2 [0,10,8,6,4,2,0] [] ⟨v2,v4,v6,v8,v10,v12,rfl⟩ (lr _) (eq:=(rc (rv (xs:=(L.vars++[t])) ob (rv (xs:=(L.own++[o])) ob (rv (xs:=(L.par++[p])) ob (rv (xs:=(L.con++[-1])) ob (rv (xs:=(L.fst++[-1])) ob (rv (xs:=(L.tok++[-1])) ob rz))))))))))))))))))))))))))))))))))))))))
theorem Z65 (b:Nat) (ga:Hd) (gb:Hd) (gc:Hd) (gd:Hd) (ge:Hd) (gf:Hd) (L:ZK) (ln:LI) (hlb:L.vars.length<=1000000000:=by exact ob) (hlk:T2 L:=by exact ob) (hln:ln.length<=4294967296:=by exact ob):Zi 266 [.p b 0] [.obj b [.h ga,.h gb,.h gc,.h gd,.h ge,.h gf,Z6 ln],rV ga L.vars,rV gb L.own,rV gc L.par,rV gd L.con,rV ge L.fst,rV gf L.tok] (fun r h=>∃(c:Nat) (wa:Hd) (wb:Hd) (wc:Hd) (wd:Hd) (we:Hd) (wf:Hd),r=.p c 0/\h=[.obj c [.h wa,.h wb,.h wc,.h wd,.h we,.h wf,Z6 ln],rV wa L.vars,rV wb L.own,rV wc L.par,rV wd L.con,rV we L.fst,rV wf L.tok,.obj b [.h ga,.h gb,.h gc,.h gd,.h ge,.h gf,Z6 ln],rV ga L.vars,rV gb L.own,rV gc L.par,rV gd L.con,rV ge L.fst,rV gf L.tok]):=by
 obtain ⟨e1,e2,e3,e4,e5⟩:=hlk
 refine ZF 40 Tryz.func266 (ZP (aD 38 (ZO 10 38 [0,1,2,3,5,6,7,8,10,11,12,13,15,16,17,18,20,21,22,23,25,26,27,28,30,31,32,33] [0,0,0,0,0,0,0] (Z8 4 (J5 4 [1] [0,0,0,0,0,0] [b,b,b,b,b,b] [rV ga L.vars] (AT L.vars) BV (gL (v:=ga) 0 gN) (Kh Jj) ?_)))))
 rintro _ _ ⟨v1,rfl,rfl⟩
 refine Z8 9 (J5 9 [3] [0,0,0,0,0] [b,b,b,b,b] [rV gb L.own] (AT L.own) BV (gL (v:=gb) 0 gN) (Kh Jj) ?_)
 rintro _ _ ⟨v2,rfl,rfl⟩
 refine Z8 14 (J5 14 [5] [0,0,0,0] [b,b,b,b] [rV gc L.par] (AT L.par) BV (gL (v:=gc) 0 gN) (Kh Jj) ?_)
 rintro _ _ ⟨v3,rfl,rfl⟩
 refine Z8 19 (J5 19 [7] [0,0,0] [b,b,b] [rV gd L.con] (AT L.con) BV (gL (v:=gd) 0 gN) (Kh Jj) ?_)
 rintro _ _ ⟨v4,rfl,rfl⟩
 refine Z8 24 (J5 24 [9] [0,0] [b,b] [rV ge L.fst] (AT L.fst) BV (gL (v:=ge) 0 gN) (Kh Jj) ?_)
 rintro _ _ ⟨v5,rfl,rfl⟩
 refine Z8 29 (J5 29 [11] [0] [b] [rV gf L.tok] (AT L.tok) BV (gL (v:=gf) 0 gN) (Kh Jj) ?_)
 rintro _ _ ⟨v6,rfl,rfl⟩
 refine Z8 34 (dc 34 [] [] [] (VK ln) ?_)
 rintro _ _ ⟨v7,rfl,rfl⟩
 exact Yr 2 3 [35] [(38,.agg [.h v1,.h v2,.h v3,.h v4,.h v5,.h v6,Z6 ln])] (Z8 36 (dA 36 [] [] [.h v1,.h v2,.h v3,.h v4,.h v5,.h v6,Z6 ln] fun b1=>Zk 0 1 [37] (de (ZD (r1 [0,11,9,7,5,3,1,7,6,5,4,3,2,1] ⟨b1,v1,v2,v3,v4,v5,v6,rfl,rfl⟩)))))
theorem Fh (b:Nat) (ga:Hd) (gb:Hd) (gc:Hd) (gd:Hd) (ge:Hd) (gf:Hd) (L:ZK) (ln:LI) (i:Int) (hlk:T2 L:=by exact ob) (hi:0<=i/\i<L.vars.length:=by exact ob) (hq:∀x∈L.own,0<=x/\x<=1000000000):Zi 165 [.p b 0,.i i] [.obj b [.h ga,.h gb,.h gc,.h gd,.h ge,.h gf,Z6 ln],rV ga L.vars,rV gb L.own,rV gc L.par,rV gd L.con,rV ge L.fst,rV gf L.tok] (fun r h=>(∃(wa:Hd) (wb:Hd) (wc:Hd) (wd:Hd) (we:Hd) (wf:Hd) (L':ZK),r=.b true/\h=[.obj b [.h wa,.h wb,.h wc,.h wd,.h we,.h wf,Z6 ln],rV wa L'.vars,rV wb L'.own,rV wc L'.par,rV wd L'.con,rV we L'.fst,rV wf L'.tok]/\TH L i=some L')∨(r=.b false/\h=[]/\TH L i=none)):=by
 obtain ⟨e1,e2,e3,e4,e5⟩:=hlk
 refine ZF 27 Tryz.func165 (ZP (Yf 5 [0] (Zm (VL 2 gb L.own i i.toNat (hq:=rfl)) ?_)))
 obtain ⟨x1,Z3⟩:=Zr L.own i.toNat om
 have hxq:=hq _ (Y1 Z3)
 have hgi:=Tj Z3
 refine VU (TW 2 gb L.own i.toNat x1 Z3) (ZZ (x1<1) (fun Za=>?_) (fun Za=>?_))
 ·exact ar (Zt (r1 [] (.inr ⟨rfl,rfl,(by rw [TH,hgi,Zj Za])⟩)))
 exact ak (aD 15 (ZO 5 15 [0,1,2,3,4,5,6,7,8,9] [0,0] (dx 10 (VL 2 gb L.own i i.toNat (hq:=rfl)) (U1 11 (TW 2 gb L.own i.toNat x1 Z3) (da 12 ((x1-1)) ((x1)-(1)) (dx 13 (VL 2 gb L.own i i.toNat (hq:=rfl)) (Z8 14 (Av 14 2 [] [] gb L.own i.toNat (x1-1) (de (ar (Zt (r1 [1,1,0,0,0,0,0] (.inl ⟨ga,gb,gc,gd,ge,gf,(ZK.mk L.vars (L.own.set i.toNat (x1-1)) L.par L.con L.fst L.tok),rfl,rfl,(by rw [TH,hgi,Z9 Za])⟩) (eq:=(rc (rv (xs:=L.vars) ob (rv (xs:=(L.own.set i.toNat (x1-1))) ob (rv (xs:=L.par) ob (rv (xs:=L.con) ob (rv (xs:=L.fst) ob (rv (xs:=L.tok) ob rz))))))))))))))))))))
theorem Fg (b:Nat) (ga:Hd) (gb:Hd) (gc:Hd) (gd:Hd) (ge:Hd) (gf:Hd) (L:ZK) (ln:LI) (i:Int) (hlk:T2 L:=by exact ob) (hln:ln.length<=4294967296:=by exact ob) (hi:0<=i/\i<L.vars.length:=by exact ob) (hd:∀j:Int,0<=j->j<L.vars.length->gI L.par j<j):Zi 88 [.p b 0,.i i] [.obj b [.h ga,.h gb,.h gc,.h gd,.h ge,.h gf,Z6 ln],rV ga L.vars,rV gb L.own,rV gc L.par,rV gd L.con,rV ge L.fst,rV gf L.tok] (fun r h=>r=.b (UL L ln i)/\h=[.obj b [.h ga,.h gb,.h gc,.h gd,.h ge,.h gf,Z6 ln],rV ga L.vars,rV gb L.own,rV gc L.par,rV gd L.con,rV ge L.fst,rV gf L.tok]):=by
 obtain ⟨e1,e2,e3,e4,e5⟩:=hlk
 refine ZF 31 Tryz.func88 (ZP (aq (ab 0 (Y0 (fun fz gz m F h=>∃(j:Int),(0<=j/\j<L.vars.length)/\(Ql L.own L.par ln (j.toNat+1) j=UL L ln i)/\F=sF [0] fz [(1,.i j)]/\h=gz/\m=j.toNat) _ _ _ ⟨i,ob,ob,rfl,rfl,rfl⟩ (ZM 7 fl) ?_))))
 rintro m F h ⟨j,Yb,Zl,rfl,rfl,rfl⟩
 refine Yf 5 [0] (Zm (VL 2 gb L.own j j.toNat (hq:=rfl)) ?_)
 obtain ⟨x1,Z3⟩:=Zr L.own j.toNat om
 have hg1:=Tj Z3
 refine VU (TW 2 gb L.own j.toNat x1 Z3) (Xi [0,1] [(21,.b ((decide (x1<1))&&(!(decide (j∈ln)))))] (fun gz=>gz) ?_ ?_)
 ·refine Z2 2 (ib (b:=(decide (x1<1))) 13 (fun Zd=>?_) (fun Zd=>?_))
  ·exact ZL 5 [0] (Zy [] (Uw ln j) (Z0 (ZM 7 (Zp (!(decide (j∈ln))) Zd fl))))
  exact Z0 (ZM 7 (Zp false Zd fl))
 refine ac ((decide (x1<1))&&(!(decide (j∈ln)))) (p:=(x1<1)/\(¬(j∈ln))) (YK dq (Yn dq)) (fun Za=>?_) (fun Za=>?_)
 ·refine ak (ab 1 (Zu 5 [0] (Zm (VL 3 gc L.par j j.toNat (hq:=rfl)) ?_)))
  obtain ⟨x2,Zo⟩:=Zr L.par j.toNat om
  have hg2:=Tj Zo
  have hdj:=hd j om om
  rw [hg2] at hdj
  refine VU (TW 3 gc L.par j.toNat x2 Zo) (Z0 (ar (ZZ (x2<0) (fun Zf=>?_) (fun Zf=>?_))))
  ·exact ar (Zt (r2 [0,0,0,0,0,0,0] [.b false] ⟨rfl,rfl⟩ (lb (Rt hg1 hg2 Za Zf Zl))))
  exact ak (ZH ⟨x2,om,(Ru hg1 hg2 Yb Za Zf hd Zl),rfl,rfl,rfl⟩ (ZM 7 fl))
 exact ax 0 (ar (Zt (r2 [0,0,0,0,0,0,0] [.b true] ⟨rfl,rfl⟩ (lb (Rv hg1 Za Zl)))))
theorem Nv (b:Nat) (ga:Hd) (gb:Hd) (gc:Hd) (gd:Hd) (ge:Hd) (gf:Hd) (L:ZK) (ln:LI) (mm:Nat) (hlk:T2 L:=by exact ob) (hlb:L.vars.length<=1000000000:=by exact ob) (hm:mm<=L.vars.length:=by exact ob):Zi 130 [.p b 0,.i mm] [.obj b [.h ga,.h gb,.h gc,.h gd,.h ge,.h gf,Z6 ln],rV ga L.vars,rV gb L.own,rV gc L.par,rV gd L.con,rV ge L.fst,rV gf L.tok] (fun r h=>(∃(wa:Hd) (wb:Hd) (wc:Hd) (wd:Hd) (we:Hd) (wf:Hd) (L':ZK),r=.b true/\h=[.obj b [.h wa,.h wb,.h wc,.h wd,.h we,.h wf,Z6 ln],rV wa L'.vars,rV wb L'.own,rV wc L'.par,rV wd L'.con,rV we L'.fst,rV wf L'.tok]/\J4 L mm=some L')∨(r=.b false/\h=[]/\J4 L mm=none)):=by
 obtain ⟨e1,e2,e3,e4,e5⟩:=hlk
 refine ZF 88 Tryz.func130 (ZP (Y7 (ab 0 (Y0 (fun fz gz m F h=>∃(k:Nat),(mm<=k/\k<=L.vars.length)/\(B1 (L.own.drop k) (L.tok.drop k)=B1 (L.own.drop mm) (L.tok.drop mm))/\F=sF [0,1] fz [(5,.i k)]/\h=gz/\m=L.vars.length-k) _ _ _ ⟨mm,ob,ob,rfl,rfl,rfl⟩ (ZM 7 fl) ?_))))
 rintro m F h ⟨k,Yb,Zl,rfl,rfl,rfl⟩
 refine Yf 5 [0] (Zm (Aa 1 ga L.vars) (ZZ ((k:Int)<(L.vars.length:Int)) (fun Za=>?_) (fun Za=>?_)))
 ·refine ak (aq (ab 1 (Zu 5 [0] (Zm (VL 2 gb L.own (k:Int) k) ?_))))
  obtain ⟨x1,Z3⟩:=Zr L.own k om
  refine VU (TW 2 gb L.own k x1 Z3) (Z2 2 (ib (b:=(x1 != 0)) 24 (fun Zd=>?_) (fun Zd=>?_)))
  ·have Y4:x1≠0:=(Y6).1 Zd
   refine Z0 (WU (ZP ?_))
   obtain ⟨y2,hy2⟩:=Zr L.tok k om
   exact ZD (r1 [] (.inr ⟨rfl,rfl,(by rw [J4,<-Zl,Y9 Z3,Y9 hy2,B1,Zj (show x1≠0∨0<=y2 by omega)];rfl)⟩))
  have Ym:¬(x1≠0):=Yd Y6 Zd
  refine ZL 5 [0] (Zm (VL 6 gf L.tok (k:Int) k) ?_)
  obtain ⟨x2,Zo⟩:=Zr L.tok k om
  refine VU (TW 6 gf L.tok k x2 Zo) (ZZ (x2>=0) (fun Zf=>?_) (fun Zf=>?_))
  ·exact ar (Zt (r1 [] (.inr ⟨rfl,rfl,(by rw [J4,<-Zl,Y9 Z3,Y9 Zo,B1,Zj (show x1≠0∨0<=x2 by omega)];rfl)⟩)))
  exact ak (az (Z2 1 (ZG k (Z0 (ZH ⟨k+1,ob,(by rw [Y9 Z3,Y9 Zo,B1,Z9 om] at Zl;exact Zl),rfl,rfl,rfl⟩ (ZM 7 (ZJ k fl)))))))
 exact ax 0 (Zu 6 [0] (Zm (B0 1 ga L.vars mm) (Z2 2 (XN (BG 1 mm ga L.vars) (Zz 1 b [.h (ga.cut mm),.h gb,.h gc,.h gd,.h ge,.h gf,Z6 ln] (ie (Zu 6 [0] (Zm (B0 2 gb L.own mm) (Z2 2 (XN (BG 2 mm gb L.own) (Zz 1 b [.h (ga.cut mm),.h (gb.cut mm),.h gc,.h gd,.h ge,.h gf,Z6 ln] (ie (Zu 6 [0] (Zm (B0 3 gc L.par mm) (Z2 2 (XN (BG 3 mm gc L.par) (Zz 1 b [.h (ga.cut mm),.h (gb.cut mm),.h (gc.cut mm),.h gd,.h ge,.h gf,Z6 ln] (ie (Zu 6 [0] (Zm (B0 4 gd L.con mm) (Z2 2 (XN (BG 4 mm gd L.con) (Zz 1 b [.h (ga.cut mm),.h (gb.cut mm),.h (gc.cut mm),.h (gd.cut mm),.h ge,.h gf,Z6 ln] (ie (Zu 6 [0] (Zm (B0 5 ge L.fst mm) (Z2 2 (XN (BG 5 mm ge L.fst) (Zz 1 b [.h (ga.cut mm),.h (gb.cut mm),.h (gc.cut mm),.h (gd.cut mm),.h (ge.cut mm),.h gf,Z6 ln] (ie (Zu 6 [0] (Zm (B0 6 gf L.tok mm) (Z2 2 (XN (BG 6 mm gf L.tok) (Zz 1 b [.h (ga.cut mm),.h (gb.cut mm),.h (gc.cut mm),.h (gd.cut mm),.h (ge.cut mm),.h (gf.cut mm),Z6 ln] (ie (ar (Zt (r1 [0,5,4,3,2,1,0] (.inl ⟨(ga.cut mm),(gb.cut mm),(gc.cut mm),(gd.cut mm),(ge.cut mm),(gf.cut mm),(ZK.mk (L.vars.take mm) (L.own.take mm) (L.par.take mm) (L.con.take mm) (L.fst.take mm) (L.tok.take mm)),rfl,rfl,(by rw [J4,Zj (by rw [<-Zl,Xf om];rfl)];rfl)⟩) (eq:=(rc (rv (xs:=(L.vars.take mm)) ob (rv (xs:=(L.own.take mm)) ob (rv (xs:=(L.par.take mm)) ob (rv (xs:=(L.con.take mm)) ob (rv (xs:=(L.fst.take mm)) ob (rv (xs:=(L.tok.take mm)) ob rz)))))))))))))))))))))))))))))))))))))))))))))))
theorem Z67 (b:Nat) (ga:Hd) (gb:Hd) (gc:Hd) (gd:Hd) (ge:Hd) (gf:Hd) (n:Zq) (s:Z4) (L:ZK) (ln:LI) (q:Int) (x:Int) (hn:Xe n:=by exact ob) (hk:XD n.decls L q:=by exact ob) (hlb:L.vars.length<=1000000000:=by exact ob) (ha:s.args[0]? = some x:=by exact ob) (hx:0<=x/\x<L.vars.length:=by exact ob) (hq:0<=q/\q<=999999990:=by exact ob):Zi 166 [.p b 0,Yk n,YC s] [.obj b [.h ga,.h gb,.h gc,.h gd,.h ge,.h gf,Z6 ln],rV ga L.vars,rV gb L.own,rV gc L.par,rV gd L.con,rV ge L.fst,rV gf L.tok] (fun r h=>(∃(wa:Hd) (wb:Hd) (wc:Hd) (wd:Hd) (we:Hd) (wf:Hd) (L':ZK),r=.b true/\h=[.obj b [.h wa,.h wb,.h wc,.h wd,.h we,.h wf,Z6 ln],rV wa L'.vars,rV wb L'.own,rV wc L'.par,rV wd L'.con,rV we L'.fst,rV wf L'.tok]/\Jm n.decls L s.op x=some L')∨(r=.b false/\h=[]/\Jm n.decls L s.op x=none)):=by
 obtain ⟨e1,e2,e3,e4,e5⟩:=hk.len
 have Xy:=hn.decls
 have hal:=(XS.1 ha).1
 obtain ⟨xcon,hxcon⟩:=Zr L.con ((x).toNat) om
 have hgcon:=Tj hxcon
 obtain ⟨xtok,hxtok⟩:=Zr L.tok ((x).toNat) om
 have hgtok:=Tj hxtok
 obtain ⟨xfst,hxfst⟩:=Zr L.fst ((x).toNat) om
 have hgfst:=Tj hxfst
 have hfl:=VP Xy xcon
 have har:=hk.arm x om om
 rw [hgcon,hgfst] at har
 refine ZF 105 Tryz.func166 (ar (iA (YJ n) fun b1=>iA (Xm s) fun b2=>Z0 (Zu 2 [0] (Zm (Zg none 0 1 (Y3 ha)) (Z0 (Yf 5 [2] (Zm (VL 6 gd L.con x x.toNat (hq:=rfl)) (VU (TW 6 gd L.con x.toNat xcon hxcon) (XG 23 [0,4,5,7] [(36,.b ((decide (xcon<0))||((s.op==17)&&(decide (xtok>=0)))))] (fun gz=>gz) ?_ (fun hj1=>?_))))))))))
 ·refine Z2 1 (ib (b:=((decide (xcon<0))||((s.op==17)&&(decide (xtok>=0))))) 37 (fun Zd=>?_) (fun Zd=>?_))
  ·have Y4:(xcon<0)∨((s.op=17)/\(xtok>=0)):=((Yh dq (YK Zs dq))).1 Zd
   exact Z0 (WU (ar (Zt (r1 [] (.inr ⟨rfl,rfl,(by rw [Jm,hgcon,hgtok,Zj om])⟩)))))
  have Ym:¬((xcon<0)∨((s.op=17)/\(xtok>=0))):=Yd (Yh dq (YK Zs dq)) Zd
  refine Z2 2 (ic [2,2,2,2,2,2,2] (Fh b ga gb gc gd ge gf L ln x (hlk:=hk.len) (hq:=(fun y hy=>⟨hk.nn y hy,by have:=hk.bd y hy;omega⟩))) ?_)
  rintro _ _ (⟨wa1,wb1,wc1,wd1,we1,wf1,L'1,rfl,rfl,YQ⟩|⟨rfl,rfl,YZ⟩)
  ·obtain ⟨t1,t2,t3,t4,t5,t6,t7⟩:=KO YQ
   have hk1:=hk.take YQ
   obtain ⟨f1,f2,f3,f4,f5⟩:=hk1.len
   have hxcon1:L'1.con[x.toNat]? = some xcon:=by rw [t4];exact hxcon
   have hvl:L'1.vars.length=L.vars.length:=by rw [t2]
   have har2:=har om
   have hxfst1:L'1.fst[x.toNat]? = some xfst:=by rw [t5];exact hxfst
   refine Z0 (WT (ak (aD 11 (ZO 4 11 [0,1,2,3,4,5,6] [8,0] (dx 7 (VL 4 wd1 L'1.con x x.toNat (hq:=rfl)) (U1 8 (TW 4 wd1 L'1.con x.toNat xcon hxcon1) (Z8 9 (Yq 9 [] [] [] (QW n.decls xcon) (Zk 0 1 [10] (de (Y7 (ab 0 (Y0 (fun fz gz m F h=>∃(k:Nat) (o:LI),(k<=(ZX n.decls xcon).length)/\(o.length=L.vars.length)/\(∀y∈o,0<=y/\y<=q+k)/\(Q1 o (xfst+k) ((ZX n.decls xcon).drop k)=Q1 L'1.own xfst (ZX n.decls xcon))/\F=sF [0,5,7,8] fz [(9,.i k)]/\h=[Zh gz 0,Zh gz 1,rV wb1 o,Zh gz 3,Zh gz 4,Zh gz 5,Zh gz 6,Zh gz 7]/\m=(ZX n.decls xcon).length-k) _ _ _ ⟨0,L'1.own,ob,om,(by intro y hy;have h1:=hk1.nn y hy;have h2:=hk1.bd y hy;omega),(by rw [show xfst+((0:Nat):Int)=xfst by omega,Jt]),rfl,rfl,rfl⟩ (ZM 8 (Y5 fl)) ?_)))))))))))))
   rintro m F h ⟨k,o,Yb,Zl,Zw,YN,rfl,rfl,rfl⟩
   refine YO 2 (io (.i (((ZX n.decls xcon).length:Nat):Int)) (.i (((Z7 (ZX n.decls xcon)).length:Nat):Int)) (li (by rw [Yi])) (ZZ ((k:Int)<(((ZX n.decls xcon).length:Nat):Int)) (fun Za=>?_) (fun Za=>?_)))
   ·refine ak (aq (ab 1 (Yc 2 ?_)))
    obtain ⟨x1,Z3⟩:=Zr (ZX n.decls xcon) k om
    refine Zm (Zg none (k:Int) 1 (Y3 Z3)) (YG (x1 != 0) Y6 (fun Zf=>?_) (fun Zf=>?_))
    ·refine aE 31 (ZO 22 31 [0,1,2,3,4,5,6,7,8] [0,0] (dx 9 (VL 5 we1 L'1.fst x x.toNat (hq:=rfl)) (U1 10 (TW 5 we1 L'1.fst x.toNat xfst hxfst1) (Zk 19 20 [11] (da 12 ((xfst+(k:Int))) ((xfst)+((k:Int))) (ZO 9 18 [13,14,15,16,17,18,19,20,21] [0,0] (dx 22 (VL 5 we1 L'1.fst x x.toNat (hq:=rfl)) (U1 23 (TW 5 we1 L'1.fst x.toNat xfst hxfst1) (Zk 6 7 [24] (da 25 ((xfst+(k:Int))) ((xfst)+((k:Int))) (dx 26 (VL 2 wb1 o (xfst+(k:Int)) ((xfst+(k:Int)).toNat) (hq:=rfl)) ?_)))))))))))
     obtain ⟨x2,Zo⟩:=Zr o ((xfst+(k:Int)).toNat) om
     have hy2:=Zw _ (Y1 Zo)
     exact U1 27 (TW 2 wb1 o ((xfst+(k:Int)).toNat) x2 Zo) (da 28 ((x2+1)) ((x2)+(1)) (dx 29 (VL 2 wb1 o (xfst+(k:Int)) ((xfst+(k:Int)).toNat) (hq:=rfl)) (Z8 30 (Av 30 2 [] [] wb1 o ((xfst+(k:Int)).toNat) (x2+1) (de (az (Z2 1 (ZG k (Z0 (ZH ⟨k+1,(o.set (xfst+(k:Nat)).toNat (x2+1)),ob,ob,(by intro y hy;first|(rcases Jk hy with hy|rfl<;>first|(have:=Zw y hy;omega)|omega)|(have:=Zw y hy;omega)),(by rw [Y9 Z3,Q1] at YN;first|(rw [Zj Zf,Tj Zo] at YN;rw [show xfst+((k+1:Nat):Int)=xfst+k+1 by omega];exact YN)|(rw [Z9 Zf] at YN;rw [show xfst+((k+1:Nat):Int)=xfst+k+1 by omega];exact YN)),rfl,rfl,rfl⟩ (wk [1,1,0,0,0,0,0,0] (ZJ k fl) (e:=(rc (rc (rv (xs:=(o.set ((xfst+(k:Int)).toNat) (x2+1))) ob (rc (rc (rc (rc (rc rz))))))))))))))))))))
    exact ak (az (Z2 1 (ZG k (Z0 (ZH ⟨k+1,o,ob,ob,(by intro y hy;first|(rcases Jk hy with hy|rfl<;>first|(have:=Zw y hy;omega)|omega)|(have:=Zw y hy;omega)),(by rw [Y9 Z3,Q1] at YN;first|(rw [Zj Zf,Tj Zo] at YN;rw [show xfst+((k+1:Nat):Int)=xfst+k+1 by omega];exact YN)|(rw [Z9 Zf] at YN;rw [show xfst+((k+1:Nat):Int)=xfst+k+1 by omega];exact YN)),rfl,rfl,rfl⟩ (ZM 8 (ZJ k fl)))))))
   refine ax 0 (X4 (VY [7] (ac (s.op==17) Zs (fun ZA=>?_) (fun ZA=>?_))))
   ·refine az (ZL 6 [0] (io (.i (((ZX n.decls xcon).length:Nat):Int)) (.i (((Z7 (ZX n.decls xcon)).length:Nat):Int)) (li (by rw [Yi])) (Zm (VL 6 wf1 L'1.tok x x.toNat (hq:=rfl)) (MV 6 wf1 L'1.tok x.toNat (((ZX n.decls xcon).length:Nat):Int) (ie (ZP ?_))))))
    have hof:o=Q1 L'1.own xfst (ZX n.decls xcon):=by rw [<-YN,Xf om];rfl
    exact ZD (r1 [1,1,1,1,1,1,0] (.inl ⟨wa1,wb1,wc1,wd1,we1,wf1,(ZK.mk L'1.vars o L'1.par L'1.con L'1.fst (L'1.tok.set x.toNat (((ZX n.decls xcon).length:Nat):Int))),rfl,rfl,(by rw [Jm,hgcon,hgfst,hgtok,Z9 om,YQ,hof,t6];simp [ZA,t2,t3,t4,t5])⟩) (eq:=(rc (rv (xs:=L'1.vars) ob (rv (xs:=o) ob (rv (xs:=L'1.par) ob (rv (xs:=L'1.con) ob (rv (xs:=L'1.fst) ob (rv (xs:=(L'1.tok.set x.toNat (((ZX n.decls xcon).length:Nat):Int))) ob rz)))))))))
   refine ak (ZP ?_)
   have hof:o=Q1 L'1.own xfst (ZX n.decls xcon):=by rw [<-YN,Xf om];rfl
   exact ZD (r1 [0,0,0,0,0,0,0] (.inl ⟨wa1,wb1,wc1,wd1,we1,wf1,(ZK.mk L'1.vars o L'1.par L'1.con L'1.fst L'1.tok),rfl,rfl,(by rw [Jm,hgcon,hgfst,hgtok,Z9 om,YQ,hof,t6];simp [ZA,t2,t3,t4,t5])⟩) (eq:=(rc (rv (xs:=L'1.vars) ob (rv (xs:=o) ob (rv (xs:=L'1.par) ob (rv (xs:=L'1.con) ob (rv (xs:=L'1.fst) ob (rv (xs:=L'1.tok) ob rz)))))))))
  exact Z0 (WU (ar (Zt (r1 [] (.inr ⟨rfl,rfl,(by rw [Jm,hgcon,hgtok,Z9 om,YZ])⟩)))))
 refine Z2 2 (ib (b:=(decide (xcon<0))) 22 (fun ZC=>?_) (fun ZC=>?_))
 ·have Xg:xcon<0:=(dq).1 ZC
  exact Z2 14 (Yv (ZM 9 (Zp true ZC fl)) hj1)
 have XX:¬(xcon<0):=Yd dq ZC
 refine ZL 4 [0] (ib (b:=(s.op==17)) 26 (fun YB=>?_) (fun YB=>?_))
 ·have Wu:s.op=17:=(Zs).1 YB
  exact ZL 5 [2] (Zm (VL 8 gf L.tok x x.toNat (hq:=rfl)) (VU (TW 8 gf L.tok x.toNat xtok hxtok) (Z2 3 (Yv (ZM 9 (Zp (decide (xtok>=0)) (And.intro ZC YB) fl)) hj1))))
 have WZ:¬(s.op=17):=Yd Zs YB
 exact Z2 10 (Yv (ZM 9 (Zp false (And.intro ZC YB) fl)) hj1)
theorem Z66 (b:Nat) (ga:Hd) (gb:Hd) (gc:Hd) (gd:Hd) (ge:Hd) (gf:Hd) (n:Zq) (s:Z4) (L:ZK) (ln:LI) (q:Int) (hn:Xe n:=by exact ob) (hnum:s.op=9->0<=s.num/\s.num<n.routines.length:=by exact ob) (hk:XD n.decls L q:=by exact ob) (hlb:L.vars.length<=1000000000:=by exact ob) (hargs:∀a∈s.args,0<=a/\a<L.vars.length) (hinto:0<s.into->s.into<=L.vars.length:=by exact ob) (hal:s.args.length<=1000000000:=by exact ob) (hln:ln.length<=4294967296:=by exact ob) (hq:0<=q/\q<=999999990:=by exact ob):Zi 168 [.p b 0,Yk n,YC s] [.obj b [.h ga,.h gb,.h gc,.h gd,.h ge,.h gf,Z6 ln],rV ga L.vars,rV gb L.own,rV gc L.par,rV gd L.con,rV ge L.fst,rV gf L.tok] (fun r h=>(∃(wa:Hd) (wb:Hd) (wc:Hd) (wd:Hd) (we:Hd) (wf:Hd) (L':ZK),r=.b true/\h=[.obj b [.h wa,.h wb,.h wc,.h wd,.h we,.h wf,Z6 ln],rV wa L'.vars,rV wb L'.own,rV wc L'.par,rV wd L'.con,rV we L'.fst,rV wf L'.tok]/\KE n ln L s.op s.num s.into s.args=some L')∨(r=.b false/\h=[]/\KE n ln L s.op s.num s.into s.args=none)):=by
 obtain ⟨e1,e2,e3,e4,e5⟩:=hk.len
 refine ZF 79 Tryz.func168 (ar (iA (YJ n) fun b1=>iA (Xm s) fun b2=>?_))
 refine Z0 (Y7 (ab 0 (Y0 (fun fz gz m F h=>∃(k:Nat) (L2:ZK) (ka:Hd) (kb:Hd) (kc:Hd) (kd:Hd) (ke:Hd) (kf:Hd),(k<=s.args.length)/\(XD n.decls L2 q)/\(L2.vars=L.vars)/\(QQ n s.op s.num (s.args.drop k) k L2=QQ n s.op s.num s.args 0 L)/\F=sF [0,4,5] fz [(7,.i k)]/\h=[Zh gz 0,Zh gz 1,.obj b [.h ka,.h kb,.h kc,.h kd,.h ke,.h kf,Z6 ln],rV ka L2.vars,rV kb L2.own,rV kc L2.par,rV kd L2.con,rV ke L2.fst,rV kf L2.tok]/\m=s.args.length-k) _ _ _ ⟨0,L,ga,gb,gc,gd,ge,gf,ob,hk,ob,ob,rfl,rfl,rfl⟩ (ZM 9 (Y5 fl)) ?_)))
 rintro m F h ⟨k,L2,ka,kb,kc,kd,ke,kf,Yb,Zl,Zw,YN,rfl,rfl,rfl⟩
 refine Yf 3 [0] (iw (Yi s.args) (ZZ ((k:Int)<(s.args.length:Int)) (fun Za=>?_) (fun Za=>?_)))
 ·obtain ⟨a1,ha1⟩:=Zr s.args k om
  obtain ⟨e6,e7,e8,e9,e10⟩:=Zl.len
  have hav:=hargs a1 (Y1 ha1)
  have hvl:L2.vars.length=L.vars.length:=by rw [Zw]
  refine ak (aq (ab 1 (aD 18 (ZO 11 18 [0,1,2,3,4,5,6] [1,2,0] (Z8 7 (J5 7 [3] [] [] [rV ka L2.vars] (FW n L2.vars s k a1 (ha:=ha1)) En (gS (gL (v:=ka) 0 (gS (gS gN)))) (Kh Jj) ?_))))))
  rintro _ _ ⟨rfl,rfl⟩
  refine Zk 9 10 [8] (db (b:=KA n L2.vars s.op s.num a1 k) 24 (fun Zd=>?_) (fun Zd=>?_))
  ·have Y4:KA n L2.vars s.op s.num a1 k=true:=(Iff.rfl).1 Zd
   refine ZO 5 9 [9,10,11,12] [1] (dx 13 (Zg none (k:Int) 1 (Y3 ha1)) (Zk 3 4 [14] (Z8 15 (dc 15 [3,0,2,2,2,2,2] [] [] (Fh b ka kb kc kd ke kf L2 ln a1 (hlk:=Zl.len) (hq:=(fun y hy=>⟨Zl.nn y hy,by have:=Zl.bd y hy;omega⟩))) ?_))))
   rintro _ _ (⟨wa1,wb1,wc1,wd1,we1,wf1,L'1,rfl,rfl,Ym⟩|⟨rfl,rfl,YQ⟩)
   ·obtain ⟨t1,t2,t3,t4,t5,t6,t7⟩:=KO Ym
    have hk2:=Zl.take Ym
    exact Zk 0 2 [16,17] (de (WT (ak (az (Z2 1 (ZG k (Z0 (ZH ⟨k+1,L'1,wa1,wb1,wc1,wd1,we1,wf1,ob,hk2,(t2.trans Zw),(by rw [Y9 ha1,QQ,Zj Y4] at YN;simp only [Ym] at YN;exact YN),rfl,rfl,rfl⟩ (wk [7,7,0,0,0,0,0,0,0] (ZJ k fl))))))))))
   exact Zk 0 2 [16,17] (de (WU (ar (Zt (r1 [] (.inr ⟨rfl,rfl,(by rw [KE,<-YN,Y9 ha1,QQ,Zj Y4,YQ])⟩))))))
  have YZ:¬(KA n L2.vars s.op s.num a1 k=true):=Yd Iff.rfl Zd
  exact Zk 0 9 [9,10,11,12,13,14,15,16,17] (de (WT (ak (az (Z2 1 (ZG k (Z0 (ZH ⟨k+1,L2,ka,kb,kc,kd,ke,kf,ob,Zl,Zw,(by rw [Y9 ha1,QQ,Z9 YZ] at YN;exact YN),rfl,rfl,rfl⟩ (wk [1,1,1,0,0,0,0,0,0] (ZJ k fl))))))))))
 have hT:QQ n s.op s.num s.args 0 L=some L2:=by rw [<-YN,Xf om];rfl
 obtain ⟨e6,e7,e8,e9,e10⟩:=Zl.len
 have hvl:L2.vars.length=L.vars.length:=by rw [Zw]
 refine ax 0 (Y7 (ab 2 (Y0 (fun fz gz m F h=>∃(j:Nat),(j<=s.args.length)/\(AA n s.op s.num ln L2 (s.args.drop j) j=AA n s.op s.num ln L2 s.args 0)/\F=sF [0,4,5] fz [(8,.i j)]/\h=gz/\m=s.args.length-j) _ _ _ ⟨0,ob,ob,rfl,rfl,rfl⟩ (ZM 9 (Y5 fl)) ?_)))
 rintro m F h ⟨j,VA,XL,rfl,rfl,rfl⟩
 refine Yf 3 [0] (iw (Yi s.args) (ZZ ((j:Int)<(s.args.length:Int)) (fun Zf=>?_) (fun Zf=>?_)))
 ·obtain ⟨a2,ha2⟩:=Zr s.args j om
  have hav:=hargs a2 (Y1 ha2)
  refine ak (aq (ab 3 (Zu 3 [1,0] (Zy [] (DX n s j) (Xi [0,4,5,8] [(54,.b (UE n s.op s.num j&&(!UL L2 ln a2)))] (fun gz=>[Zh gz 2,Zh gz 3,Zh gz 4,Zh gz 5,Zh gz 6,Zh gz 7,Zh gz 8,Zh gz 0,Zh gz 1]) ?_ ?_)))))
  ·refine Z2 1 (ib (b:=UE n s.op s.num j) 45 (fun ZC=>?_) (fun ZC=>?_))
   ·exact ZL 4 [0] (Zm (Zg none (j:Int) 1 (Y3 ha2)) (Z2 1 (Zy [2,2,2,2,2,2,2] (Fg b ka kb kc kd ke kf L2 ln a2 (hlk:=Zl.len) (hd:=Zl.down)) (Z0 (ZM 9 (Zp (!UL L2 ln a2) ZC fl))))))
   exact Z0 (wk [2,2,2,2,2,2,2,0,0] (Zp false ZC fl))
  refine ac (UE n s.op s.num j&&(!UL L2 ln a2)) (p:=(UE n s.op s.num j=true)/\(¬(UL L2 ln a2=true))) (YK Iff.rfl (Yn Iff.rfl)) (fun ZA=>?_) (fun ZA=>?_)
  ·refine ZP ?_
   have hA:AA n s.op s.num ln L2 s.args 0=false:=by rw [<-XL,Y9 ha2,AA,Zj ZA]
   exact ZD (r1 [] (.inr ⟨rfl,rfl,(by rw [KE,hT];simp only [hA];rfl)⟩))
  exact ak (az (Z2 1 (ZG j (Z0 (ZH ⟨j+1,ob,(by rw [Y9 ha2,AA,Z9 ZA] at XL;exact XL),rfl,rfl,rfl⟩ (wk [7,7,0,0,0,0,0,0,0] (ZJ j fl)))))))
 have hA:AA n s.op s.num ln L2 s.args 0=true:=by rw [<-XL,Xf om];rfl
 refine ax 2 (X4 (VY [0] (We (s.into>0) (fun Yl=>?_) (fun Yl=>?_))))
 ·obtain ⟨xt,hxt⟩:=Zr L2.tok ((s.into-1).toNat) (by have:=hinto Yl;omega)
  have hgt:=Tj hxt
  refine aq (aD 13 (ZO 7 13 [0,1,2,3,4,5] [2,0] (da 6 ((s.into-1)) ((s.into)-(1)) (dx 7 (VL 8 kf L2.tok (s.into-1) ((s.into-1).toNat) (hq:=rfl)) (U1 8 (TW 8 kf L2.tok ((s.into-1).toNat) xt hxt) (ZO 2 4 [9,10] [0] (dw 11 (Yi s.args) (Zk 0 1 [12] (de (ac (xt != (s.args.length:Int)) Y6 (fun Xd=>?_) (fun Xd=>?_)))))))))))
  ·exact ar (Zt (r1 [] (.inr ⟨rfl,rfl,(by rw [KE,hT];simp only [hA,↓reduceIte];rw [Dg,Zj Yl,hgt,Zj Xd])⟩)))
  exact ak (aE 9 (ZO 3 9 [0,1,2,3,4,5] [2,0] (da 6 ((s.into-1)) ((s.into)-(1)) (dx 7 (VL 8 kf L2.tok (s.into-1) ((s.into-1).toNat) (hq:=rfl)) (Z8 8 (Av 8 8 [] [] kf L2.tok ((s.into-1).toNat) (-1) (de (ar (Zt (r1 [3,3,3,3,3,3,0] (.inl ⟨ka,kb,kc,kd,ke,kf,(ZK.mk L2.vars L2.own L2.par L2.con L2.fst (L2.tok.set ((s.into-1).toNat) (-1))),rfl,rfl,(by rw [KE,hT];simp only [hA,↓reduceIte];rw [Dg,Zj Yl,hgt,Z9 Xd])⟩) (eq:=(rc (rv (xs:=L2.vars) ob (rv (xs:=L2.own) ob (rv (xs:=L2.par) ob (rv (xs:=L2.con) ob (rv (xs:=L2.fst) ob (rv (xs:=(L2.tok.set ((s.into-1).toNat) (-1))) ob rz))))))))))))))))))
 exact ak (ar (Zt (r1 [2,2,2,2,2,2,2] (.inl ⟨ka,kb,kc,kd,ke,kf,L2,rfl,rfl,(by rw [KE,hT];simp only [hA,↓reduceIte];rw [Dg,Z9 Yl])⟩))))
theorem Z1v (b:Z5) (t:Int) (hz:b.sz<=1000000) (ih:∀(b2:Z5) (t:Int),(b2.sz<=1000000)->(b2.sz<b.sz)->Zi 276 [ZI b2,.i t] [] (fun r h=>∃(wr:Bool),r=.b wr/\h=[])):Zi 276 [ZI b,.i t] [] (fun r h=>∃(wr:Bool),r=.b wr/\h=[]):=by
 have ZE:=V7 b
 have hbl:=KL b.steps
 have hbe:=b.sz_eq
 refine ZF 53 Tryz.func276 (ar (iA (X3 b) fun b1=>?_))
 refine Z0 (Y7 (ab 0 (Y0 (fun fz gz m F h=>∃(k:Nat),(k<=b.steps.length)/\F=sF [1,2] fz [(5,.i k)]/\h=gz/\m=b.steps.length-k) _ _ _ ⟨0,ob,rfl,rfl,rfl⟩ (wk [0] (Y5 fl)) ?_)))
 rintro m F h ⟨k,Yb,rfl,rfl,rfl⟩
 refine Yf 3 [0] (iw (V3 b.steps) (ZZ ((k:Int)<(b.steps.length:Int)) (fun Za=>?_) (fun Za=>?_)))
 ·refine ak (aq (ab 1 (Yf 3 [0] ?_)))
  obtain ⟨x1,Z3⟩:=Zr b.steps k om
  have hxs:=IC (Y1 Z3)
  have hxe:=(x1).sz_eq
  have hxk:=Ut x1
  refine Zm (Zg none (k:Int) 5 (Wc Z3)) (Xi [1,2,5] [(30,.b ((x1.op==10)&&(x1.num==t)))] (fun gz=>gz) ?_ ?_)
  ·refine Z2 4 (ib (b:=(x1.op==10)) 21 (fun Zd=>?_) (fun Zd=>?_))
   ·exact ZL 3 [0] (Zm (Zg none (k:Int) 5 (Wc Z3)) (Z0 (wk [0] (Zp (x1.num==t) Zd fl))))
   exact Z0 (wk [0] (Zp false Zd fl))
  refine ac ((x1.op==10)&&(x1.num==t)) (p:=(x1.op=10)/\(x1.num=t)) (YK Zs Zs) (fun Zf=>?_) (fun Zf=>?_)
  ·exact ar (Zt (r1 [] ⟨true,rfl,rfl⟩))
  refine ak (ZP (ab 2 (Y0 (fun fz gz m F h=>∃(j:Nat),(j<=x1.kids.length)/\F=sF [1,2,5] fz [(6,.i j)]/\h=gz/\m=x1.kids.length-j) _ _ _ ⟨0,ob,rfl,rfl,rfl⟩ (wk [0] (Y5 fl)) ?_)))
  rintro m F h ⟨j,VA,rfl,rfl,rfl⟩
  refine Yf 4 [0] (Zm (Zg none (k:Int) 5 (Wc Z3)) (Z2 2 (iw (Vr x1.kids) (ZZ ((j:Int)<(x1.kids.length:Int)) (fun ZA=>?_) (fun ZA=>?_)))))
  ·refine ak (aq (ab 3 (Zu 3 [0] (Zm (Zg none (k:Int) 5 (Wc Z3)) (Z2 3 ?_)))))
   obtain ⟨x2,Zo⟩:=Zr x1.kids j om
   have hkx:=Gz (Y1 Zo)
   refine Zm (Zg none (j:Int) 2 (U2 Zo)) (Z2 2 (ic [] (ih x2 t ob ob) ?_))
   rintro _ _ ⟨wr1,rfl,rfl⟩
   refine ie (ac wr1 Iff.rfl (fun Yl=>?_) (fun Yl=>?_))
   ·exact ar (Zt (r1 [] ⟨true,rfl,rfl⟩))
   exact ak (az (Z2 1 (ZG j (Z0 (ZH ⟨j+1,ob,rfl,rfl,rfl⟩ (wk [0] (ZJ j fl)))))))
  exact ax 2 (az (Z2 1 (ZG k (Z0 (ZH ⟨k+1,ob,rfl,rfl,rfl⟩ (wk [0] (ZJ k fl)))))))
 exact ax 0 (ar (Zt (r1 [] ⟨false,rfl,rfl⟩)))
theorem Z1u (b:Z5) (t:Int) (hz:b.sz<=1000000:=by exact ob):Zi 276 [ZI b,.i t] [] (fun r h=>∃(wr:Bool),r=.b wr/\h=[]):=by
 have key:∀k:Nat,∀(b2:Z5) (t:Int),(b2.sz<=1000000)->(b2.sz<k)->Zi 276 [ZI b2,.i t] [] (fun r h=>∃(wr:Bool),r=.b wr/\h=[]):=by
  intro k
  induction k with
  | zero=>intro b2 t h1 h2;omega
  | succ k ih=>intro b2 t h1 h2;exact Z1v b2 t h1 fun b3 t3 q1 q2=>ih b3 t3 q1 om
 exact key (b.sz+1) b t hz om
theorem Z2d (n:Zq) (t:Int) (qz:Nat) (hn:FN n qz:=by exact ob) (hqz:qz<=100000:=by exact ob):Zi 233 [Yk n,.i t] [] (fun r h=>∃(wr:Bool),r=.b wr/\h=[]):=by
 have hnl:=hn.len
 refine ZF 21 Tryz.func233 (ar (iA (YJ n) fun b1=>?_))
 refine Z0 (Y7 (ab 0 (Y0 (fun fz gz m F h=>∃(k:Nat),(k<=n.routines.length)/\F=sF [1,2] fz [(5,.i k)]/\h=gz/\m=n.routines.length-k) _ _ _ ⟨0,ob,rfl,rfl,rfl⟩ (wk [0] (Y5 fl)) ?_)))
 rintro m F h ⟨k,Yb,rfl,rfl,rfl⟩
 refine Yf 3 [0] (iw (Vl n.routines) (ZZ ((k:Int)<(n.routines.length:Int)) (fun Za=>?_) (fun Za=>?_)))
 ·refine ak (aq (ab 1 (Zu 3 [0] ?_)))
  obtain ⟨x1,Z3⟩:=Zr n.routines k om
  have hbz:=(hn.body _ (Y1 Z3)).2
  refine Zm (Zg none (k:Int) 5 (Wm Z3)) (Z2 3 (ic [] (Z1u x1.body t) ?_))
  rintro _ _ ⟨wr1,rfl,rfl⟩
  refine ie (ac wr1 Iff.rfl (fun Zf=>?_) (fun Zf=>?_))
  ·exact ar (Zt (r1 [] ⟨true,rfl,rfl⟩))
  exact ak (az (Z2 1 (ZG k (Z0 (ZH ⟨k+1,ob,rfl,rfl,rfl⟩ (wk [0] (ZJ k fl)))))))
 exact ax 0 (ar (Zt (r1 [] ⟨false,rfl,rfl⟩)))
theorem MC (fs:LI) (q:Nat) (hl:fs.length<=1000000:=by exact ob) (hq:q<=1000000:=by exact ob):Zi 234 [Z6 fs,.i q] [] (fun r h=>∃(xs:LI),r=Z6 xs/\h=[]/\xs.length<=fs.length/\∀i∈xs,(q:Int)<=i/\i<(q:Int)+fs.length):=by
 refine ZF 26 Tryz.func234 (ZP (ar (iL (Z7 []) 0 1 fun v1=>?_)))
 refine Z0 (Y7 (ab 0 (Y0 (fun fz gz m F h=>∃(k:Nat) (ys:LI) (u:Value),(k<=fs.length)/\(ys.length<=k)/\(∀i∈ys,(q:Int)<=i/\i<(q:Int)+fs.length)/\F=sF [0,1] fz [(5,ZY ys u),(6,.i k)]/\h=[.tail u 1]/\m=fs.length-k) _ _ _ ⟨0,[],v1,ob,ob,(fun i hi=>by cases hi),rfl,rfl,rfl⟩ (wk [0] (fr (Y5 fl))) ?_)))
 rintro m F h ⟨k,ys,u,Yb,Zl,Zw,rfl,rfl,rfl⟩
 refine YO 2 (iw (Yi fs) (ZZ ((k:Int)<(fs.length:Int)) (fun Za=>?_) (fun Za=>?_)))
 ·refine ak (aq (ab 1 (Yc 2 ?_)))
  obtain ⟨x1,Z3⟩:=Zr fs k om
  refine Zm (Zg none (k:Int) 1 (Y3 Z3)) (YG (x1 != 0) Y6 (fun Zf=>?_) (fun Zf=>?_))
  ·exact az (Z2 3 (ia (((q+k:Nat):Int)) (((q:Int))+((k:Int))) (iL (Z7 [((q+k:Nat):Int)]) 1 1 fun v2=>ZQ 0 [(23,Z6 [((q+k:Nat):Int)])] (ip 1 (Z7 (ys++[((q+k:Nat):Int)])) (Z7 ys) (Z7 [((q+k:Nat):Int)]) u none 1 (YD _) (YD _) (W5 _) (by simp<;>omega) (by simp [W4,Z7]) fun v3=>Z0 (az (Z2 1 (ZG k (Z0 (ZH ⟨k+1,(ys++[((q+k:Nat):Int)]),v3,ob,ob,(Xu Zw om),rfl,rfl,rfl⟩ (wk [0] (fr (ZJ k fl))))))))))))
  exact ak (az (Z2 1 (ZG k (Z0 (ZH ⟨k+1,ys,u,ob,ob,ob,rfl,rfl,rfl⟩ (wk [0] (fr (ZJ k fl))))))))
 exact ax 0 (ar (Zt (r2 [] [ZY ys u] ⟨ys,rfl,rfl,⟨by omega,Zw⟩⟩ (Zc.forget _ _))))
theorem Mw (n:Zq) (qz:Nat) (hn:FN n qz:=by exact ob) (hqz:qz<=100000:=by exact ob):Zi 178 [Yk n] [] (fun r h=>∃(xs:List LI),r=Q8 xs/\h=[]/\LC n n.routines.length xs):=by
 have hnl:=hn.len
 refine ZF 31 Tryz.func178 (ar (iA (YJ n) fun b1=>Z0 (ar (iL (XU []) 0 1 fun v1=>?_))))
 refine Z0 (Y7 (ab 0 (Y0 (fun fz gz m F h=>∃(k:Nat) (ys:List LI) (u:Value),(k<=n.routines.length)/\(ys.length=k)/\(LC n k ys)/\F=sF [1] fz [(3,Bz ys u),(4,.i k)]/\h=[Zh gz 1,.tail u 1]/\m=n.routines.length-k) _ _ _ ⟨0,[],v1,ob,ob,LC.nil,rfl,rfl,rfl⟩ (wk [1,0] (fr (Y5 fl))) ?_)))
 rintro m F h ⟨k,ys,u,Yb,Zl,Zw,rfl,rfl,rfl⟩
 refine Yf 3 [0] (iw (Vl n.routines) (ZZ ((k:Int)<(n.routines.length:Int)) (fun Za=>?_) (fun Za=>?_)))
 ·refine ak (aq (ab 1 (Zu 2 [0] (ic [] (Z2d n (k:Int) qz) ?_))))
  rintro _ _ ⟨wr1,rfl,rfl⟩
  refine ie (ac wr1 Iff.rfl (fun Zf=>?_) (fun Zf=>?_))
  ·exact az (Z2 1 (iL (Z7 []) 0 1 fun v2=>ZQ 0 [(17,Z6 [])] (iL (XU [[]]) 1 1 fun v3=>ZQ 0 [(18,Q8 [[]])] (ip 3 (XU (ys++[[]])) (XU ys) (XU [[]]) u none 1 (Ja _) (Ja _) (D3 _) (by simp<;>omega) (by simp [EA,XU]) fun v4=>Z0 (az (Z2 1 (ZG k (Z0 (ZH ⟨k+1,(ys++[[]]),v4,ob,ob,(Zw.snoc (by simp) (fun r hr v hv=>by cases hv)),rfl,rfl,rfl⟩ (wk [3,0] (fr (ZJ k fl))))))))))))
  refine az (ZL 4 [0] ?_)
  obtain ⟨x1,Z3⟩:=Zr n.routines k om
  have hrp:=(FN.ok hn).params_at Z3
  have hss:=(T3.bd (f:=⟨(x1).params,(x1).result,default⟩) (hn.sigs _ (Y1 Z3))).1
  refine Zm (Zg none (k:Int) 5 (Wm Z3)) (Z2 2 (ic [] (MC x1.params 0) ?_))
  rintro _ _ ⟨xs1,rfl,rfl,Y4⟩
  have hhf:=Y4
  exact iL (XU [xs1]) 1 1 fun v5=>ZQ 0 [(28,Q8 [xs1])] (ip 2 (XU (ys++[xs1])) (XU ys) (XU [xs1]) u none 1 (Ja _) (Ja _) (D3 _) (by simp<;>omega) (by simp [EA,XU]) fun v6=>Z0 (az (Z2 1 (ZG k (Z0 (ZH ⟨k+1,(ys++[xs1]),v6,ob,ob,(Zw.snoc om (fun r hr v hv=>by rw [Z3] at hr;cases hr;have:=hhf.2 v hv;omega)),rfl,rfl,rfl⟩ (wk [2,0] (fr (ZJ k fl)))))))))
 exact ax 0 (ar (Zt (r2 [] [Bz ys u] ⟨ys,rfl,rfl,(by rw [show n.routines.length=k by omega];exact Zw)⟩ (Zc.forget _ _))))
theorem Z1y (n:Zq) (b:Z5) (t:Int) (mq:Nat) (hn:Xe n) (hf:fB n.decls n.routines.length mq b) (hz:b.sz<=1000000) (ih:∀(b2:Z5) (t:Int) (m2:Nat),(fB n.decls n.routines.length m2 b2)->(b2.sz<=1000000)->(b2.sz<b.sz)->Zi 235 [Yk n,ZI b2,.i t] [] (fun r h=>∃(wr:Bool),r=.b wr/\h=[])):Zi 235 [Yk n,ZI b,.i t] [] (fun r h=>∃(wr:Bool),r=.b wr/\h=[]):=by
 have hbl:=KL b.steps
 have hbe:=b.sz_eq
 refine ZF 68 Tryz.func235 (ar (iA (YJ n) fun b1=>iA (X3 b) fun b2=>Z0 (X4 (VY [0] (ac (b.result==t) Zs (fun Za=>?_) (fun Za=>?_))))))
 ·exact ar (Zt (r1 [] ⟨true,rfl,rfl⟩))
 refine ak (Y7 (ab 0 (Y0 (fun fz gz m F h=>∃(k:Nat),(k<=b.steps.length)/\F=sF [2,3,4] fz [(7,.i k)]/\h=gz/\m=b.steps.length-k) _ _ _ ⟨0,ob,rfl,rfl,rfl⟩ (wk [0,0] (Y5 fl)) ?_)))
 rintro m F h ⟨k,Yb,rfl,rfl,rfl⟩
 refine Yf 3 [0] (iw (V3 b.steps) (ZZ ((k:Int)<(b.steps.length:Int)) (fun Zf=>?_) (fun Zf=>?_)))
 ·refine ak (aq (ab 1 (Zu 3 [0] ?_)))
  obtain ⟨x1,Z3⟩:=Zr b.steps k om
  have hfs:=(EE x1).1 (Db ((D9 b).1 hf).1 Z3)
  have hxs:=IC (Y1 Z3)
  have hxe:=(x1).sz_eq
  have hxk:=Ut x1
  refine Zm (Zg none (k:Int) 5 (Wc Z3)) (Z2 1 (iA [.i 0,.i 0,.i 0,nl,nl] fun b3=>?_))
  refine Zz 0 b3 (Xm x1) (ie (Y7 (ab 2 (Y0 (fun fz gz m F h=>∃(j:Nat),(j<=x1.args.length)/\F=sF [2,3,4,7,8] fz [(9,.i j)]/\h=gz/\m=x1.args.length-j) _ _ _ ⟨0,ob,rfl,rfl,rfl⟩ (ZM 3 (Y5 fl)) ?_))))
  rintro m F h ⟨j,VA,rfl,rfl,rfl⟩
  refine Yf 3 [0] (iw (Yi x1.args) (ZZ ((j:Int)<(x1.args.length:Int)) (fun ZA=>?_) (fun ZA=>?_)))
  ·refine ak (aq (ab 3 (Zu 3 [0] ?_)))
   obtain ⟨x2,Zo⟩:=Zr x1.args j om
   refine Zm (Zg none (j:Int) 1 (Y3 Zo)) (XG 12 [2,3,4,7,8,9] [(45,.b ((x2==t)&&J3 x1.op))] (fun gz=>gz) ?_ (fun hj1=>?_))
   ·refine Xi [2,3,4,7,8,9] [(52,.b (((x2==t)&&J3 x1.op)&&(!UE n x1.op x1.num j)))] (fun gz=>gz) ?_ ?_
    ·refine Z2 1 (ib (b:=((x2==t)&&J3 x1.op)) 46 (fun Zd=>?_) (fun Zd=>?_))
     ·exact ZL 3 [2,0] (Zy [] (DX n x1 j (hnum:=hfs.call)) (Z0 (ZM 3 (Zp (!UE n x1.op x1.num j) Zd fl))))
     exact Z0 (ZM 3 (Zp false Zd fl))
    refine ac (((x2==t)&&J3 x1.op)&&(!UE n x1.op x1.num j)) (p:=((x2=t)/\(J3 x1.op=true))/\(¬(UE n x1.op x1.num j=true))) (YK (YK Zs Iff.rfl) (Yn Iff.rfl)) (fun Yl=>?_) (fun Yl=>?_)
    ·exact ar (Zt (r1 [] ⟨true,rfl,rfl⟩))
    exact ak (az (Z2 1 (ZG j (Z0 (ZH ⟨j+1,ob,rfl,rfl,rfl⟩ (ZM 3 (ZJ j fl)))))))
   refine Z2 4 (ib (b:=(x2==t)) 41 (fun ZC=>?_) (fun ZC=>?_))
   ·exact ZL 2 [0] (Zy [] (Pl x1.op) (Z2 1 (Yv (ZM 3 (Zp (J3 x1.op) ZC fl)) hj1)))
   exact Z2 4 (Yv (ZM 3 (Zp false ZC fl)) hj1)
  refine ax 2 (ZP (ab 4 (Y0 (fun fz gz m F h=>∃(j:Nat),(j<=x1.kids.length)/\F=sF [2,3,4,7,8] fz [(10,.i j)]/\h=gz/\m=x1.kids.length-j) _ _ _ ⟨0,ob,rfl,rfl,rfl⟩ (ZM 3 (Y5 fl)) ?_)))
  rintro m F h ⟨j,LA,rfl,rfl,rfl⟩
  refine Yf 3 [0] (iw (Vr x1.kids) (ZZ ((j:Int)<(x1.kids.length:Int)) (fun Xd=>?_) (fun Xd=>?_)))
  ·refine ak (aq (ab 5 (aD 8 (ZO 4 8 [0,1,2,3] [2,0] ?_))))
   obtain ⟨x3,YP⟩:=Zr x1.kids j om
   have hkx:=Gz (Y1 YP)
   have hfk:=Da hfs.kids YP
   refine dx 4 (Zg none (j:Int) 2 (U2 YP)) (Zk 1 3 [5,6] (Z8 7 (dc 7 [] [] [] (ih x3 t (Uv n.decls x1.op x1.num (mq+YX (b.steps.take k)) (0+j)) hfk ob ob) ?_)))
   rintro _ _ ⟨wr1,rfl,rfl⟩
   refine de (ac wr1 Iff.rfl (fun Xp=>?_) (fun Xp=>?_))
   ·exact ar (Zt (r1 [] ⟨true,rfl,rfl⟩))
   exact ak (az (Z2 1 (ZG j (Z0 (ZH ⟨j+1,ob,rfl,rfl,rfl⟩ (ZM 3 (ZJ j fl)))))))
  exact ax 4 (az (Z2 1 (ZG k (Z0 (ZH ⟨k+1,ob,rfl,rfl,rfl⟩ (wk [1,1] (ZJ k fl)))))))
 exact ax 0 (ar (Zt (r1 [] ⟨false,rfl,rfl⟩)))
theorem Z1x (n:Zq) (b:Z5) (t:Int) (mq:Nat) (hn:Xe n:=by exact ob) (hf:fB n.decls n.routines.length mq b:=by exact ob) (hz:b.sz<=1000000:=by exact ob):Zi 235 [Yk n,ZI b,.i t] [] (fun r h=>∃(wr:Bool),r=.b wr/\h=[]):=by
 have key:∀k:Nat,∀(b2:Z5) (t:Int) (m2:Nat),(fB n.decls n.routines.length m2 b2)->(b2.sz<=1000000)->(b2.sz<k)->Zi 235 [Yk n,ZI b2,.i t] [] (fun r h=>∃(wr:Bool),r=.b wr/\h=[]):=by
  intro k
  induction k with
  | zero=>intro b2 t m2 h1 h2 h3;omega
  | succ k ih=>intro b2 t m2 h1 h2 h3;exact Z1y n b2 t m2 hn h1 h2 fun b3 t3 m3 q1 q2 q3=>ih b3 t3 m3 q1 q2 om
 exact key (b.sz+1) b t mq hf hz om
theorem Z2e (n:Zq) (rt:ZV) (i:Nat) (qz:Nat) (hn:FN n qz:=by exact ob) (hqz:qz<=100000:=by exact ob) (hr:n.routines[i]? = some rt:=by exact ob):Zi 179 [Yk n,.i i] [] (fun r h=>∃(xs:LI),r=Z6 xs/\h=[]/\xs.length<=rt.lent.length/\∀v∈xs,v∈rt.lent):=by
 have hok:=FN.ok hn
 have hrl:=hn.lent rt (Y1 hr)
 have hrb:=hn.body rt (Y1 hr)
 obtain ⟨hil,_⟩:=XS.1 hr
 have hnl:=hn.len
 refine ZF 50 Tryz.func179 (ar (iA (YJ n) fun b1=>Z0 (ar (iL (Z7 []) 0 1 fun v1=>?_))))
 refine Z0 (Y7 (ab 0 (Y0 (fun fz gz m F h=>∃(k:Nat) (ys:LI) (u:Value),(k<=rt.lent.length)/\(ys.length<=k)/\(∀v∈ys,v∈rt.lent)/\F=sF [1,2] fz [(5,ZY ys u),(6,.i k)]/\h=[Zh gz 1,.tail u 1]/\m=rt.lent.length-k) _ _ _ ⟨0,[],v1,ob,ob,(fun v hv=>by cases hv),rfl,rfl,rfl⟩ (wk [1,0] (fr (Y5 fl))) ?_)))
 rintro m F h ⟨k,ys,u,Yb,Zl,Zw,rfl,rfl,rfl⟩
 refine Yf 4 [0] (Zm (Zg none (i:Int) 5 (Wm hr)) (Z2 2 (iw (Yi rt.lent) (ZZ ((k:Int)<(rt.lent.length:Int)) (fun Za=>?_) (fun Za=>?_)))))
 ·refine ak (aq (ab 1 (aD 18 (ZO 14 18 [0,1,2,3] [0,0] (dx 4 (Zg none (i:Int) 5 (Wm hr)) (ZO 8 13 [5,6,7,8,9] [0] (dx 10 (Zg none (i:Int) 5 (Wm hr)) (Zk 4 7 [11,12,13] ?_))))))))
  obtain ⟨x1,Z3⟩:=Zr rt.lent k om
  refine dx 14 (Zg none (k:Int) 1 (Y3 Z3)) (Zk 2 3 [15] (Z8 16 (dc 16 [] [] [] (Z1x n rt.body x1 rt.params.length (hn:=hok) (hf:=hrb.1)) ?_)))
  rintro _ _ ⟨wr1,rfl,rfl⟩
  refine Zk 0 1 [17] (de (ac (!wr1) (p:=¬(wr1=true)) (Yn Iff.rfl) (fun Zf=>?_) (fun Zf=>?_)))
  ·exact az (ZL 4 [0] (Zm (Zg none (i:Int) 5 (Wm hr)) (Z2 3 (Zm (Zg none (k:Int) 1 (Y3 Z3)) (Z2 1 (iL (Z7 [x1]) 1 1 fun v2=>ZQ 0 [(47,Z6 [x1])] (ip 2 (Z7 (ys++[x1])) (Z7 ys) (Z7 [x1]) u none 1 (YD _) (YD _) (W5 _) (by simp<;>omega) (by simp [W4,Z7]) fun v3=>Z0 (az (Z2 1 (ZG k (Z0 (ZH ⟨k+1,(ys++[x1]),v3,ob,ob,(Xu Zw (Y1 Z3)),rfl,rfl,rfl⟩ (wk [2,0] (fr (ZJ k fl)))))))))))))))
  exact ak (az (Z2 1 (ZG k (Z0 (ZH ⟨k+1,ys,u,ob,ob,ob,rfl,rfl,rfl⟩ (wk [0,0] (fr (ZJ k fl))))))))
 exact ax 0 (ar (Zt (r2 [] [ZY ys u] ⟨ys,rfl,rfl,⟨by omega,Zw⟩⟩ (Zc.forget _ _))))
theorem Zal (s:Z4) (ih:∀(b2:Z5),(b2.sz<s.sz)->(b2.sz<=1000000000)->Zi 97 [ZI b2] [] (Yg (ZI b2))) (hz:s.sz<=1000000000):Zi 139 [YC s] [] (Yg (YC s)):=by
 have hkz:=Ut s
 have haz:=TJ s
 refine ZF 33 Tryz.func139 (ar (iA (Xm s) fun b1=>iA [.i 0,.i 0,.i 0,nl,nl] fun b2=>ie (ar (iL (YE []) 0 2 fun v1=>?_))))
 refine Z0 (Y7 (ab 0 (Y0 (fun fz gz m F h=>∃(k:Nat) (v:Value),(k<=s.kids.length)/\F=sF [1,2] fz [(3,UF (s.kids.take k) v),(4,.i k)]/\h=[Zh gz 1,Zh gz 2,.tail v 2]/\m=s.kids.length-k) _ _ _ ⟨0,v1,ob,rfl,rfl,rfl⟩ (wk [1,1,0] (fc (x:=UF [] v1) (Zc.slh _ (Yp YE rfl)) (Y5 fl))) ?_)))
 rintro m F h ⟨k,v,Yb,rfl,rfl,rfl⟩
 refine Yf 3 [1] (iw (Vr s.kids) (ZZ ((k:Int)<(s.kids.length:Int)) (fun Za=>?_) (fun Za=>?_)))
 ·refine ak (aq (ab 1 (az (ZL 4 [1] ?_))))
  obtain ⟨x1,Z3⟩:=Zr s.kids k om
  have hks:=Us Z3
  exact Zm (Zg none (k:Int) 2 (U2 Z3)) (Z2 1 (Zy [] (ih x1 ob ob) (iL [ZI x1] 1 2 fun v2=>ZQ 0 [(20,.sl [ZI x1] none)] (ip 3 (YE (s.kids.take (k+1))) (YE (s.kids.take k)) [ZI x1] v none 2 (Th _) (Ty rfl) rfl (by simp<;>omega) (by rw [Ww Z3];simp [UC]) fun v3=>Z0 (az (Z2 1 (ZG k (Z0 (ZH ⟨k+1,v3,ob,rfl,rfl,rfl⟩ (wk [2,2,0] (fr (ZJ k fl))))))))))))
 refine ax 0 (aD 12 (ZO 3 12 [0,1,2,3,4,5,6,7,9] [1,1,1,1] (Z8 8 (dc 8 [] [1,1,1] [b1,b1,b1] (VK s.args) ?_))))
 rintro _ _ ⟨v4,rfl,rfl⟩
 exact Zk 1 2 [10] (Z8 11 (YM 11 1 [] [] b2 [.i s.op,.i s.num,.i s.into,ZY s.args v4,UF (s.kids.take k) v] (de (ZD (r3 [] [.agg [.i s.op,.i s.num,.i s.into,ZY s.args v4,UF (s.kids.take k) v]] [0] [(b2,b2)] ⟨rfl,rfl⟩ (Zc.agg (.cons (lr _) (.cons (lr _) (.cons (lr _) (.cons (Zc.forget _ _) (.cons (Zc.sl _ (Yp YE (by rw [Wx om]))) .nil)))))))))))
theorem Zak (b:Z5) (ih:∀(s2:Z4),(s2.sz<b.sz)->(s2.sz<=1000000000)->Zi 139 [YC s2] [] (Yg (YC s2))) (hz:b.sz<=1000000000):Zi 97 [ZI b] [] (Yg (ZI b)):=by
 have hbz:=V7 b
 refine ZF 28 Tryz.func97 (ar (iA (X3 b) fun b1=>iA [nl,.i 0] fun b2=>ie (ar (iL (Zv []) 0 5 fun v1=>ZL 3 [2] (iA [nl,.i 0] fun b3=>?_)))))
 refine Zz 0 b3 [YS [] v1,.i b.result] (ie (Y7 (ab 0 (Y0 (fun fz gz m F h=>∃(k:Nat) (v:Value),(k<=b.steps.length)/\F=sF [1,2,3] fz [(4,.i k)]/\h=[.obj b3 [YS (b.steps.take k) v,.i b.result],Zh gz 2,Zh gz 3,.tail v 5]/\m=b.steps.length-k) _ _ _ ⟨0,v1,ob,rfl,rfl,rfl⟩ (wk [0,1,1,0] (Y5 fl)) ?_))))
 rintro m F h ⟨k,v,Yb,rfl,rfl,rfl⟩
 refine Yf 3 [2] (iw (V3 b.steps) (ZZ ((k:Int)<(b.steps.length:Int)) (fun Za=>?_) (fun Za=>?_)))
 ·refine ak (aq (ab 1 (aE 12 (ZO 7 12 [0,1,2,3,4] [0,2] ?_))))
  obtain ⟨x1,Z3⟩:=Zr b.steps k om
  have hss:=Qf Z3
  exact dx 5 (Zg none (k:Int) 5 (Wc Z3)) (Zk 5 6 [6] (Z8 7 (Yq 7 [] [0] [b3] (ih x1 ob ob) (Z8 8 (dL 8 [0] [b3] [YC x1] 1 5 fun v2=>Yr 3 3 [] [(24,.sl [YC x1] none)] (Z8 9 (dp 9 4 [] [] (Zv (b.steps.take (k+1))) (Zv (b.steps.take k)) [YC x1] v none 5 (Xc _) (Ty rfl) rfl (by simp<;>omega) (by rw [Ww Z3];simp [Vc]) fun v3=>Zk 1 2 [10] (Z8 11 (YM 11 2 [] [] b3 [YS (b.steps.take (k+1)) v3,.i b.result] (de (az (Z2 1 (ZG k (Z0 (ZH ⟨k+1,v3,ob,rfl,rfl,rfl⟩ (wk [0,2,2,0] (ZJ k fl)))))))))))))))))
 exact ax 0 (Zu 1 [0] (Zz 1 b2 [YS (b.steps.take k) v,.i b.result] (ie (ZD (r3 [] [.agg [YS (b.steps.take k) v,.i b.result]] [0] [(b2,b2)] ⟨rfl,rfl⟩ (Zc.agg (.cons (Zc.sl _ (Yp Zv (by rw [Wx om]))) (.cons (lr _) .nil))))))))
theorem Pn (k:Nat):(∀(s:Z4),(s.sz<=k)->(s.sz<=1000000000)->Zi 139 [YC s] [] (Yg (YC s)))/\(∀(b:Z5),(b.sz<=k)->(b.sz<=1000000000)->Zi 97 [ZI b] [] (Yg (ZI b))):=by
 induction k with
 | zero=>exact ⟨fun s h=>by have:=s.sz_pos;omega,fun s h=>by have:=s.sz_pos;omega⟩
 | succ k ih=>exact ⟨fun s h hz=>Zal s (fun b2 h2 h3=>ih.2 b2 om h3) hz,fun b h hz=>Zak b (fun s2 h2 h3=>ih.1 s2 om h3) hz⟩
theorem Pm (s:Z4) (hz:s.sz<=1000000000:=by exact ob):Zi 139 [YC s] [] (Yg (YC s)):=(Pn s.sz).1 s (X9 _) hz
theorem DV (b:Z5) (hz:b.sz<=1000000000:=by exact ob):Zi 97 [ZI b] [] (Yg (ZI b)):=(Pn b.sz).2 b (X9 _) hz
theorem EP (n:Zq) (ls:List LI) (qz:Nat) (hn:FO n qz WB:=by exact ob) (hqz:qz<=100000:=by exact ob) (hls:LC n n.routines.length ls:=by exact ob):Zi 57 [Yk n,Q8 ls] [] (fun r h=>∃(n2:Zq),r=Yk n2/\h=[]/\FO n2 qz WB/\n2.routines.length=n.routines.length):=by
 have hnl:=hn.fn.len
 have Xy:=hn.fn.decls.ok
 have hll:=hls.len
 refine ZF 45 Tryz.func57 (ar (iA (YJ n) fun b1=>iA [nl,nl] fun b2=>ie (Zu 2 [1] (Zy [] (AS n.decls) (iL (Yy []) 0 5 fun v1=>Z2 1 (iA [nl,nl] fun b3=>?_))))))
 refine Zz 0 b3 [Ya n.decls,Wd [] v1] (ie (Y7 (ab 0 (Y0 (fun fz gz m F h=>∃(k:Nat) (rs:List ZV) (u:Value),(k<=n.routines.length)/\(rs.length=k)/\(∀r∈rs,RF n.decls n.routines.length qz WB r)/\F=sF [1,2,4,5] fz [(6,.i k)]/\h=[.obj b3 [Ya n.decls,Wd rs u],Zh gz 2,Zh gz 3,.tail u 5]/\m=n.routines.length-k) _ _ _ ⟨0,[],v1,ob,ob,(fun r hr=>by cases hr),rfl,rfl,rfl⟩ (wk [0,1,1,0] (Y5 fl)) ?_))))
 rintro m F h ⟨k,rs,u,Yb,Zl,Zw,rfl,rfl,rfl⟩
 refine Yf 3 [2] (iw (Vl n.routines) (ZZ ((k:Int)<(n.routines.length:Int)) (fun Za=>?_) (fun Za=>?_)))
 ·refine ak (aq (ab 1 (Zu 3 [2] ?_)))
  obtain ⟨x1,Z3⟩:=Zr n.routines k om
  have hrf:=hn.rf (Y1 Z3)
  have hrp:=hn.fn.ok.params_at Z3
  have hrz:=hrf.body.2
  refine Zm (Zg none (k:Int) 5 (Wm Z3)) (Z2 1 (iA [nl,nl,.i 0,nl,.i 0] fun b4=>Zz 0 b4 (Tm x1) (ie (aE 20 (ZO 14 20 [0,1,2,3,5,6] [1,0] ?_)))))
  obtain ⟨x2,Zo⟩:=Zr ls k om
  have hlc:=hls.at Zo Z3
  refine dx 7 (Zg none (k:Int) 1 (D0 Zo)) (ZO 8 13 [8,10,11,12,13] [0,0] (Z8 4 (dc 4 [] [0,0,1] [b4,b4,b3] (VK x1.params) ?_)))
  rintro _ _ ⟨v2,rfl,rfl⟩
  refine Z8 9 (dc 9 [] [0,0,1] [b4,b4,b3] (VK x2) ?_)
  rintro _ _ ⟨v3,rfl,rfl⟩
  exact Z8 14 (Yq 14 [] [0,1] [b4,b3] (DV x1.body) (Yr 4 5 [15] [(40,.agg [Z6 x1.params,Z6 x2,.i x1.result,WE x1.body.steps,.i x1.body.result])] (Z8 16 (dL 16 [1] [b3] (Yy [ZV.mk x1.params x2 x1.result (Z5.mk x1.body.steps x1.body.result)]) 1 5 fun v4=>Yr 3 3 [] [(41,Tz [ZV.mk x1.params x2 x1.result (Z5.mk x1.body.steps x1.body.result)])] (Z8 17 (dp 17 7 [] [] (Yy (rs++[ZV.mk x1.params x2 x1.result (Z5.mk x1.body.steps x1.body.result)])) (Yy rs) (Yy [ZV.mk x1.params x2 x1.result (Z5.mk x1.body.steps x1.body.result)]) u none 5 (U3 _) (U3 _) (Jb _) (by simp<;>omega) (by simp [JK,Yy]) fun v5=>Zk 1 2 [18] (Z8 19 (YM 19 5 [] [] b3 [Ya n.decls,Wd (rs++[ZV.mk x1.params x2 x1.result (Z5.mk x1.body.steps x1.body.result)]) v5] (de (az (Z2 1 (ZG k (Z0 (ZH ⟨k+1,(rs++[ZV.mk x1.params x2 x1.result (Z5.mk x1.body.steps x1.body.result)]),v5,ob,ob,(Xu Zw (by rw [Z5.eta];exact hrf.lend hlc.1 hlc.2)),rfl,rfl,rfl⟩ (wk [0,5,5,0] (ZJ k fl))))))))))))))))
 exact ax 0 (Zu 1 [0] (Zz 1 b2 [Ya n.decls,Wd rs u] (ie (ZD (r3 [] [.agg [Ya n.decls,Wd rs u]] [0] [(b2,b2)] ⟨(Zq.mk n.decls rs),rfl,rfl,(FO.fin hn.fn om Zw)⟩ (Zc.agg (.cons (lr _) (.cons (Zc.forget _ _) .nil))))))))
theorem Z2m (n:Zq) (qz:Nat) (hn:FO n qz WB:=by exact ob) (hqz:qz<=100000:=by exact ob):Zi 135 [Yk n] [] (fun r h=>∃(n2:Zq),r=Yk n2/\h=[]/\FO n2 qz WB):=by
 refine ZF 33 Tryz.func135 (ar (iA (YJ n) fun b1=>iA [nl,nl] fun b2=>?_))
 refine ie (aD 6 (ZO 4 6 [0,1] [1,1] (KC (fun fz gz F h=>∃(n21:Zq) (b3:Nat) (xs1:List LI),(LC n n.routines.length xs1)/\(FO n21 qz WB/\n21.routines.length=n.routines.length)/\F=sF [2] fz [(3,.p b3 0)]/\h=[.obj b3 (YJ n21),Zh gz 0,Zh gz 1]) ?_ ?_)))
 ·refine Vq 2 4 ?_ ?_
  ·refine dc 2 [] [1] [b1] (Mw n qz (hn:=hn.fn)) ?_
   rintro _ _ ⟨xs1,rfl,rfl,Y4⟩
   refine Vq 3 4 ?_ ?_
   ·refine dc 3 [] [] [] (EP n xs1 qz (hls:=(by first|assumption|(rw [<-hjl];exact XL)))) ?_
    rintro _ _ ⟨n21,rfl,rfl,Ym⟩
    have hwl:=Ym
    exact Z8 4 (dA 4 [] [] [nl,nl] fun b3=>Z8 5 (YM 5 0 [] [] b3 (YJ n21) (de (ZT ⟨_,b3,_,(by assumption),(by assumption),rfl,rfl⟩ (ZM 3 fl)))))
   refine dA 4 [1] [b1] [nl,nl] fun b4=>Z8 3 (dc 3 [] [] [] (EP n xs1 qz (hls:=(by first|assumption|(rw [<-hjl];exact XL)))) ?_)
   rintro _ _ ⟨n22,rfl,rfl,YQ⟩
   have hwl:=YQ
   exact Z8 5 (YM 5 0 [] [] b4 (YJ n22) (de (ZT ⟨_,b4,_,(by assumption),(by assumption),rfl,rfl⟩ (ZM 3 fl))))
  refine dA 4 [1,1] [b1,b1] [nl,nl] fun b5=>Z8 2 (dc 2 [] [2] [b1] (Mw n qz (hn:=hn.fn)) ?_)
  rintro _ _ ⟨xs2,rfl,rfl,YZ⟩
  refine Z8 3 (dc 3 [] [] [] (EP n xs2 qz (hls:=(by first|assumption|(rw [<-hjl];exact XL)))) ?_)
  rintro _ _ ⟨n23,rfl,rfl,Xg⟩
  have hwl:=Xg
  exact Z8 5 (YM 5 0 [] [] b5 (YJ n23) (de (ZT ⟨_,b5,_,(by assumption),(by assumption),rfl,rfl⟩ (ZM 3 fl))))
 rintro F h ⟨n21,b3,xs1,Y4,Ym,rfl,rfl⟩
 have hwl:=Ym
 refine Y7 (ab 0 (Y0 (fun fz gz m F h=>∃(k:Nat) (nn:Zq),(k<=13)/\(FO nn qz WB)/\F=sF [2,3] fz [(4,.i k)]/\h=[.obj b3 (YJ nn),Zh gz 1]/\m=13-k) _ _ _ ⟨0,n21,ob,hwl.1,rfl,rfl,rfl⟩ (wk [0,0] (Y5 fl)) ?_))
 rintro m F h ⟨k,nn,Yb,Zl,rfl,rfl,rfl⟩
 refine X4 (ZZ ((k:Int)<=12) (fun Za=>?_) (fun Za=>?_))
 ·refine ak (aq (ab 1 (ar (iL (XU []) 0 1 fun v1=>?_))))
  refine Z0 (Y7 (ab 2 (Y0 (fun fz gz m F h=>∃(j:Nat) (ls:List LI) (u:Value),(j<=nn.routines.length)/\(LC nn j ls)/\(ls.length=j)/\F=sF [2,3,4] fz [(5,Bz ls u),(6,.i j)]/\h=[Zh gz 1,Zh gz 2,.tail u 1]/\m=nn.routines.length-j) _ _ _ ⟨0,[],v1,ob,LC.nil,ob,rfl,rfl,rfl⟩ (wk [1,1,0] (fr (Y5 fl))) ?_)))
  rintro m F h ⟨j,ls,u,VA,XL,XI,rfl,rfl,rfl⟩
  refine Yf 3 [0] (iw (Vl nn.routines) (ZZ ((j:Int)<(nn.routines.length:Int)) (fun Zf=>?_) (fun Zf=>?_)))
  ·obtain ⟨rt,hrt⟩:=Zr nn.routines j om
   have hrl:=(Zl.rf (Y1 hrt)).lent
   have hnl4:=Zl.fn.len
   refine ak (aq (ab 3 (az (ZL 3 [0] (ic [] (Z2e nn rt j qz (hn:=Zl.fn) (hr:=hrt)) ?_)))))
   rintro _ _ ⟨xs3,rfl,rfl,XX⟩
   have hkl:=XX
   exact iL (XU [xs3]) 1 1 fun v2=>ZQ 0 [(27,Q8 [xs3])] (ip 3 (XU (ls++[xs3])) (XU ls) (XU [xs3]) u none 1 (Ja _) (Ja _) (D3 _) (by simp<;>omega) (by simp [EA,XU]) fun v3=>Z0 (az (Z2 1 (ZG j (Z0 (ZH ⟨j+1,(ls++[xs3]),v3,ob,(XL.snoc om (fun r hr v hv=>by rw [hrt] at hr;cases hr;exact hrl.2 v (hkl.2 v hv))),ob,rfl,rfl,rfl⟩ (wk [2,2,0] (fr (ZJ j fl)))))))))
  have hjl:j=nn.routines.length:=by omega
  refine ax 2 (az (TE 2 [(30,Q8 ls)] [0] (ic [] (EP nn ls qz (hls:=(by first|assumption|(rw [<-hjl];exact XL)))) ?_)))
  rintro _ _ ⟨n24,rfl,rfl,Wu⟩
  have hwl:=Wu
  exact Zz 0 b3 (YJ n24) (ie (az (Z2 1 (ZG k (Z0 (ZH ⟨k+1,n24,ob,hwl.1,rfl,rfl,rfl⟩ (wk [0,0] (ZJ k fl))))))))
 exact ax 0 (Zu 1 [0] (Zz 1 b2 (YJ nn) (ie (ZD (r3 [] [Yk nn] [0] [(b2,b2)] ⟨nn,rfl,rfl,(by first|exact Zl|exact hwl.1)⟩ (lr _))))))
theorem Df (xs:LI) (y:Int) (hl:xs.length<=1000000000:=by exact ob):Zi 256 [Z6 xs,.i y] [] (fun r h=>∃(v:Value),r=ZY (VT xs y) v/\h=[.tail v 1]):=by
 refine ZF 49 Tryz.func256 (ZP (ar (iL (Z7 []) 0 1 fun v1=>?_)))
 refine Z0 (ZP (Y7 (ab 0 (Y0 (fun fz gz m F h=>∃(k:Nat) (acc:LI) (d:Bool) (v:Value),(k<=xs.length)/\(acc.length<=k+(if d=true then 1 else 0))/\(acc++TQ d (xs.drop k) y=VT xs y)/\F=sF [0,1] fz [(5,ZY acc v),(6,.b d),(7,.i k)]/\h=[.tail v 1]/\m=xs.length-k) _ _ _ ⟨0,[],false,v1,ob,(by simp),rfl,rfl,rfl,rfl⟩ (wk [0] (fw (Y5 fl))) ?_))))
 rintro m F h ⟨k,acc,d,v,Yb,Zl,Zw,rfl,rfl,rfl⟩
 refine YO 2 (iw (Yi xs) (ZZ ((k:Int)<(xs.length:Int)) (fun Za=>?_) (fun Za=>?_)))
 ·obtain ⟨x1,Z3⟩:=Zr xs k om
  have hil:acc.length<=k+1:=V9 Zl (by split<;>omega)
  refine ak (aq (ab 1 (X4 (Xi [0,1,5,6,7] [(24,.b ((!d)&&(decide (x1>=y))))] (fun gz=>gz) ?_ ?_))))
  ·refine Z2 3 (ib (b:=(!d)) 17 (fun Zd=>?_) (fun Zd=>?_))
   ·exact Z2 2 (Zm (Zg none (k:Int) 1 (Y3 Z3)) (Z0 (wk [0] (Zp (decide (x1>=y)) Zd fl))))
   exact Z0 (wk [0] (Zp false Zd fl))
  refine XP (fun fz gz F h=>∃(acc2:LI) (d2:Bool) (w:Value),((acc2=acc/\d2=d/\(d=true∨¬x1>=y))∨(acc2=acc++[y]/\d2=true/\¬d=true/\x1>y)∨(acc2=acc/\d2=true/\¬d=true/\x1=y))/\(acc2.length<=k+(if d2=true then 1 else 0))/\(acc2.length<=k+1)/\F=sF [0,1,7] fz [(5,ZY acc2 w),(6,.b d2)]/\h=[.tail w 1]) ?_ ?_
  ·refine ac ((!d)&&(decide (x1>=y))) (p:=(¬(d=true))/\(x1>=y)) (YK (Yn Iff.rfl) dq) (fun Zf=>?_) (fun Zf=>?_)
   ·refine YO 2 (Zm (Zg none (k:Int) 1 (Y3 Z3)) (Z0 (XP (fun fz gz F h=>∃(w3:Value),F=sF [0,1,7] fz [(5,ZY (if x1>y then (acc++[y]) else acc) w3)]/\h=[.tail w3 1]) ?_ ?_)))
    ·refine We (x1>y) (fun ZA=>?_) (fun ZA=>?_)
     ·exact az (Z2 2 (iL (Z7 [y]) 1 1 fun v2=>ZQ 0 [(33,Z6 [y])] (ip 1 (Z7 (acc++[y])) (Z7 acc) (Z7 [y]) v none 1 (YD _) (YD _) (W5 _) (by simp<;>omega) (by simp [W4,Z7]) fun v3=>Z0 (ZT ⟨v3,rfl,rfl⟩ (wk [0] (fc (x:=ZY (acc++[y]) v3) (Zc.slh _ (Yp Z7 (by first|rfl|(rw [Zj ZA])|(rw [Z9 ZA])|(simp [ZA];done)|(rw [Xr];simp [ZA];done)|omega))) fl))))))
     exact ak (ZT ⟨v,rfl,rfl⟩ (wk [0] (fc (x:=ZY acc v) (Zc.slh _ (Yp Z7 (by first|rfl|(rw [Zj ZA])|(rw [Z9 ZA])|(simp [ZA];done)|(rw [Xr];simp [ZA];done)|omega))) fl)))
    rintro F h ⟨w3,rfl,rfl⟩
    exact T6 (ZT ⟨(if x1>y then (acc++[y]) else acc),true,w3,(if h:x1>y then (by rw [Zj h];exact .inr (.inl ⟨rfl,rfl,Zf.1,h⟩)) else (by rw [Z9 h];exact .inr (.inr ⟨rfl,rfl,Zf.1,by have:=Zf.2;omega⟩))),(by have h1:=Zl;rw [Z9 Zf.1] at h1;split<;>(simp<;>omega)),(by have h1:=Zl;rw [Z9 Zf.1] at h1;split<;>(simp<;>omega)),rfl,rfl⟩ (wk [0] fl))
   exact ak (ZT ⟨acc,d,v,(.inl ⟨rfl,rfl,by by_cases q:d=true;exact .inl q;exact .inr (fun z=>Zf ⟨q,z⟩)⟩),Zl,hil,rfl,rfl⟩ (wk [0] fl))
  rintro F h ⟨acc2,d2,w,VH,A0,HG,rfl,rfl⟩
  exact az (Z2 3 (Zm (Zg none (k:Int) 1 (Y3 Z3)) (Z2 1 (iL (Z7 [x1]) 1 1 fun v4=>ZQ 0 [(40,Z6 [x1])] (ip 1 (Z7 (acc2++[x1])) (Z7 acc2) (Z7 [x1]) w none 1 (YD _) (YD _) (W5 _) (by simp<;>omega) (by simp [W4,Z7]) fun v5=>Z0 (az (Z2 1 (ZG k (Z0 (ZH ⟨k+1,(acc2++[x1]),d2,v5,ob,(by simp only [Yx,YV,Xn];omega),(Z55 Z3 Zw VH),rfl,rfl,rfl⟩ (wk [0] (fw (ZJ k fl)))))))))))))
 have hil:acc.length<=k+1:=V9 Zl (by split<;>omega)
 refine ax 0 (Y7 (XP (fun fz gz F h=>∃(w4:Value),F=sF [] fz [(5,ZY (if d=true then acc else (acc++[y])) w4)]/\h=[.tail w4 1]) ?_ ?_))
 ·refine ac (!d) (p:=¬(d=true)) (Yn Iff.rfl) (fun Yl=>?_) (fun Yl=>?_)
  ·exact az (Z2 2 (iL (Z7 [y]) 1 1 fun v6=>ZQ 0 [(46,Z6 [y])] (ip 1 (Z7 (acc++[y])) (Z7 acc) (Z7 [y]) v none 1 (YD _) (YD _) (W5 _) (by simp<;>omega) (by simp [W4,Z7]) fun v7=>Z0 (ZT ⟨v7,rfl,rfl⟩ (wk [0] (fc (x:=ZY (acc++[y]) v7) (Zc.slh _ (Yp Z7 (by first|rfl|(rw [Zj Yl])|(rw [Z9 Yl])|(simp [Yl];done)|(rw [Xr];simp [Yl];done)|omega))) fl))))))
  exact ak (ZT ⟨v,rfl,rfl⟩ (wk [0] (fc (x:=ZY acc v) (Zc.slh _ (Yp Z7 (by first|rfl|(rw [Zj Yl])|(rw [Z9 Yl])|(simp [Yl];done)|(rw [Xr];simp [Yl];done)|omega))) fl)))
 rintro F h ⟨w4,rfl,rfl⟩
 exact ar (Zt (r2 [0] [ZY (if d=true then acc else (acc++[y])) w4] ⟨w4,rfl,rfl⟩ (Zc.slh _ (Yp Z7 (Z54 om Zw)))))
theorem ML (xs:LI) (y:Int) (hl:xs.length<=1000000000:=by exact ob):Zi 284 [Z6 xs,.i y] [] (fun r h=>∃(v:Value),r=ZY (TB xs y) v/\h=[.tail v 1]):=by
 refine ZF 28 Tryz.func284 (ZP (ar (iL (Z7 []) 0 1 fun v1=>?_)))
 refine Z0 (Y7 (ab 0 (Y0 (fun fz gz m F h=>∃(k:Nat) (acc:LI) (v:Value),(k<=xs.length)/\(acc.length<=k)/\(acc++TB (xs.drop k) y=TB xs y)/\F=sF [0,1] fz [(5,ZY acc v),(6,.i k)]/\h=[.tail v 1]/\m=xs.length-k) _ _ _ ⟨0,[],v1,ob,ob,rfl,rfl,rfl,rfl⟩ (wk [0] (fr (Y5 fl))) ?_)))
 rintro m F h ⟨k,acc,v,Yb,Zl,Zw,rfl,rfl,rfl⟩
 refine YO 2 (iw (Yi xs) (ZZ ((k:Int)<(xs.length:Int)) (fun Za=>?_) (fun Za=>?_)))
 ·refine ak (aq (ab 1 (Yc 2 ?_)))
  obtain ⟨x1,Z3⟩:=Zr xs k om
  refine Zm (Zg none (k:Int) 1 (Y3 Z3)) (Z0 (At (fun fz gz F h=>∃(w:Value),F=sF [0,1,6] fz [(5,ZY (if x1≠y then (acc++[x1]) else acc) w)]/\h=[.tail w 1]) (fun _ _=>rfl) ?_ ?_))
  ·refine ac (x1 != y) Y6 (fun Zf=>?_) (fun Zf=>?_)
   ·exact az (Z2 3 (Zm (Zg none (k:Int) 1 (Y3 Z3)) (Z2 1 (iL (Z7 [x1]) 1 1 fun v2=>ZQ 0 [(25,Z6 [x1])] (ip 1 (Z7 (acc++[x1])) (Z7 acc) (Z7 [x1]) v none 1 (YD _) (YD _) (W5 _) (by simp<;>omega) (by simp [W4,Z7]) fun v3=>Z0 (ZT ⟨v3,rfl,rfl⟩ (wk [0] (fc (x:=ZY (acc++[x1]) v3) (Zc.slh _ (Yp Z7 (by first|rfl|(rw [Zj Zf])|(rw [Z9 Zf])|(simp [Zf];done)|(rw [Xr];simp [Zf];done)|omega))) fl))))))))
   exact ak (ZT ⟨v,rfl,rfl⟩ (wk [0] (fc (x:=ZY acc v) (Zc.slh _ (Yp Z7 (by first|rfl|(rw [Zj Zf])|(rw [Z9 Zf])|(simp [Zf];done)|(rw [Xr];simp [Zf];done)|omega))) fl)))
  rintro F h ⟨w,rfl,rfl⟩
  exact az (Z2 1 (ZG k (Z0 (ZH ⟨k+1,(if x1≠y then (acc++[x1]) else acc),w,ob,(by split<;>(try simp)<;>omega),(Z7k Z3 Zw),rfl,rfl,rfl⟩ (wk [0] (fr (ZJ k fl)))))))
 exact ax 0 (ar (Zt (r2 [0] [ZY acc v] ⟨v,rfl,rfl⟩ (Zc.slh _ (Yp Z7 (Z7j om Zw))))))
theorem Zaf (s:Z4) (q:Int) (xs:LI) (ih:∀(b2:Z5) (q:Int) (k2:Nat) (xs2:LI),(b2.sz<s.sz)->(k2<=b2.steps.length)->(xs2.length+b2.sz<=1000000000)->Zi 278 [ZI b2,.i q,.i k2,Z6 xs2] [] (Yg (Z6 (Ux q (UI q (b2.steps.drop k2) xs2) b2.result)))) (hz:xs.length+s.sz<=1000000000):Zi 298 [YC s,.i q,Z6 xs] [] (Yg (Z6 (KP q s xs))):=by
 have hkz:=Ut s
 have haz:=TJ s
 have hse:=s.sz_eq
 refine ZF 58 Tryz.func298 (ar (iA (Xm s) fun b1=>Z0 (Yf 2 [0] (Zy [] (Iy s.op) (ie (ac (Yo s.op) Iff.rfl (fun Za=>?_) (fun Za=>?_)))))))
 ·exact ar (Zt (ZU (Z6 xs) (Zc.sl _ (Yp Z7 (by rw [R3,Zj (by assumption)])))))
 refine ak (Y7 (ab 0 (Y0 (fun fz gz m F h=>∃(j:Nat) (ys:LI),(j<=s.args.length)/\(ys.length<=xs.length+j)/\(Qg q (s.args.drop j) ys=Qg q s.args xs)/\F=sF [1,3] fz [(2,Z6 ys),(7,.i j)]/\h=gz/\m=s.args.length-j) _ _ _ ⟨0,xs,ob,ob,rfl,rfl,rfl,rfl⟩ (wk [0] (fr (Y5 fl))) ?_)))
 rintro m F h ⟨j,ys,Yb,Zl,Zw,rfl,rfl,rfl⟩
 refine Yf 3 [0] (iw (Yi s.args) (ZZ ((j:Int)<(s.args.length:Int)) (fun Zf=>?_) (fun Zf=>?_)))
 ·refine ak (aq (ab 1 (Zu 3 [0] ?_)))
  obtain ⟨x1,Z3⟩:=Zr s.args j om
  refine Zm (Zg none (j:Int) 1 (Y3 Z3)) (Xi [1,2,3,7] [(34,.b ((decide (x1>=0))&&(decide (x1<q))))] (fun gz=>gz) ?_ ?_)
  ·refine Z2 3 (ib (b:=(decide (x1>=0))) 26 (fun Zd=>?_) (fun Zd=>?_))
   ·exact ZL 3 [0] (Zm (Zg none (j:Int) 1 (Y3 Z3)) (Z0 (wk [0] (Zp (decide (x1<q)) Zd fl))))
   exact Z0 (wk [0] (Zp false Zd fl))
  refine At (fun fz gz F h=>F=sF [1,3,7] fz [(2,Z6 (Ux q ys x1))]/\h=gz) (fun _ _=>rfl) ?_ ?_
  ·refine ac ((decide (x1>=0))&&(decide (x1<q))) (p:=(x1>=0)/\(x1<q)) (YK dq dq) (fun ZA=>?_) (fun ZA=>?_)
   ·refine az (ZL 4 [0] (Zm (Zg none (j:Int) 1 (Y3 Z3)) (Z2 1 (ic [] (Df ys x1) ?_))))
    rintro _ _ ⟨v1,rfl,rfl⟩
    exact Z0 (ZT ⟨rfl,rfl⟩ (wk [1] (fc (x:=ZY (VT ys x1) v1) (Zc.sl _ (Yp Z7 (by rw [Ux,Zj (by assumption)]))) fl)))
   exact ak (ZT ⟨rfl,rfl⟩ (wk [0] (fc (x:=Z6 ys) (Zc.sl _ (Yp Z7 (by rw [Ux,Z9 (by assumption)]))) fl)))
  rintro F h ⟨rfl,rfl⟩
  exact az (Z2 1 (ZG j (Z0 (ZH ⟨j+1,(Ux q ys x1),ob,(by have:=G4 (n:=q) ys x1;omega),(Zcx Z3 Zw),rfl,rfl,rfl⟩ (wk [0] (fr (ZJ j fl)))))))
 have hA:Qg q s.args xs=ys:=(Zcw om Zw).symm
 refine ax 0 (Y7 (ab 2 (Y0 (fun fz gz m F h=>∃(j:Nat) (zs:LI),(j<=s.kids.length)/\(zs.length<=xs.length+s.args.length+X1 (s.kids.take j))/\(Kq q (s.kids.drop j) zs=Kq q s.kids (Qg q s.args xs))/\F=sF [1,3] fz [(2,Z6 zs),(8,.i j)]/\h=gz/\m=s.kids.length-j) _ _ _ ⟨0,ys,ob,(by rw [List.take_zero,X1];omega),(by rw [hA];rfl),rfl,rfl,rfl⟩ (wk [0] (fr (Y5 fl))) ?_)))
 rintro m F h ⟨j,zs,VA,XL,XI,rfl,rfl,rfl⟩
 refine Yf 3 [0] (iw (Vr s.kids) (ZZ ((j:Int)<(s.kids.length:Int)) (fun Yl=>?_) (fun Yl=>?_)))
 ·refine ak (aq (ab 3 (az (ZL 3 [0] ?_))))
  obtain ⟨x2,Zo⟩:=Zr s.kids j om
  have hks:=Us Zo
  have hbt:=Ek Zo
  have hbx:=Ej Zo
  have hul:=G3 (n:=q) x2 zs
  exact Zm (Zg none (j:Int) 2 (U2 Zo)) (Z2 3 (Zy [] (ih x2 q 0 zs ob ob ob) (Z0 (az (Z2 1 (ZG j (Z0 (ZH ⟨j+1,(UH q x2 zs),ob,om,(Zcz Zo XI),rfl,rfl,rfl⟩ (wk [0] (fc (x:=Z6 (Ux q (UI q (x2.steps.drop 0) zs) x2.result)) (Zc.sl _ (Yp Z7 (by rw [PZ];rfl))) (ZJ j fl)))))))))))
 exact ax 2 (ar (Zt (ZU (Z6 zs) (Zc.sl _ (Yp Z7 (by rw [R3,Z9 (by assumption)];exact (Zcy om XI)))))))
theorem Zag (b:Z5) (q:Int) (k0:Nat) (xs:LI) (ih:∀(s2:Z4) (q:Int) (xs2:LI),(s2.sz<b.sz)->(xs2.length+s2.sz<=1000000000)->Zi 298 [YC s2,.i q,Z6 xs2] [] (Yg (Z6 (KP q s2 xs2)))) (hk:k0<=b.steps.length) (hz:xs.length+b.sz<=1000000000):Zi 278 [ZI b,.i q,.i k0,Z6 xs] [] (Yg (Z6 (Ux q (UI q (b.steps.drop k0) xs) b.result))):=by
 have hbz:=V7 b
 have hbe:=b.sz_eq
 have hsd:=Py b.steps k0
 refine ZF 40 Tryz.func278 (ar (iA (X3 b) fun b1=>?_))
 refine Z0 (Y7 (ab 0 (Y0 (fun fz gz m F h=>∃(k:Nat) (ys:LI),(k<=b.steps.length)/\(ys.length+Yw (b.steps.drop k)<=xs.length+Yw (b.steps.drop k0))/\(UI q (b.steps.drop k) ys=UI q (b.steps.drop k0) xs)/\F=sF [1,4] fz [(3,Z6 ys),(9,.i k)]/\h=gz/\m=b.steps.length-k) _ _ _ ⟨k0,xs,ob,(X9 _),rfl,rfl,rfl,rfl⟩ (wk [0] fl) ?_)))
 rintro m F h ⟨k,ys,Yb,Zl,Zw,rfl,rfl,rfl⟩
 refine Yf 3 [0] (iw (V3 b.steps) (ZZ ((k:Int)<(b.steps.length:Int)) (fun Za=>?_) (fun Za=>?_)))
 ·refine ak (aq (ab 1 (az (ZL 3 [0] ?_))))
  obtain ⟨x1,Z3⟩:=Zr b.steps k om
  have hss:=Qf Z3
  have hsd1:=Px Z3
  have hul:=R4 (n:=q) x1 ys
  exact Zm (Zg none (k:Int) 5 (Wc Z3)) (Z2 3 (Zy [] (ih x1 q ys ob ob) (Z0 (az (Z2 1 (ZG k (Z0 (ZH ⟨k+1,(KP q x1 ys),ob,ob,(Zd1 Z3 Zw),rfl,rfl,rfl⟩ (wk [0] (fr (ZJ k fl)))))))))))
 refine ax 0 (X4 (Xi [3,4] [(34,.b ((decide (b.result>=0))&&(decide (b.result<q))))] (fun gz=>gz) ?_ ?_))
 ·refine ZL 4 [0] (ib (b:=(decide (b.result>=0))) 29 (fun Zd=>?_) (fun Zd=>?_))
  ·exact VY [0] (wk [0] (Zp (decide (b.result<q)) Zd fl))
  exact Z0 (wk [0] (Zp false Zd fl))
 refine XP (fun fz gz F h=>F=sF [] fz [(3,Z6 (Ux q ys b.result))]/\h=[]) ?_ ?_
 ·refine ac ((decide (b.result>=0))&&(decide (b.result<q))) (p:=(b.result>=0)/\(b.result<q)) (YK dq dq) (fun Zf=>?_) (fun Zf=>?_)
  ·refine az (ZL 3 [0] (ic [] (Df ys b.result) ?_))
   rintro _ _ ⟨v1,rfl,rfl⟩
   exact Z0 (ZT ⟨rfl,rfl⟩ (wk [] (fc (x:=ZY (VT ys b.result) v1) (Zc.sl _ (Yp Z7 (by rw [Ux,Zj (by assumption)]))) fl)))
  exact ak (ZT ⟨rfl,rfl⟩ (wk [] (fc (x:=Z6 ys) (Zc.sl _ (Yp Z7 (by rw [Ux,Z9 (by assumption)]))) fl)))
 rintro F h ⟨rfl,rfl⟩
 exact ar (Zt (ZU (Z6 (Ux q ys b.result)) (Zc.sl _ (Yp Z7 (by rw [Zd0 om Zw])))))
theorem Zb9 (k:Nat):(∀(s:Z4) (q:Int) (xs:LI),(s.sz<=k)->(xs.length+s.sz<=1000000000)->Zi 298 [YC s,.i q,Z6 xs] [] (Yg (Z6 (KP q s xs))))/\(∀(b:Z5) (q:Int) (k0:Nat) (xs:LI),(b.sz<=k)->(k0<=b.steps.length)->(xs.length+b.sz<=1000000000)->Zi 278 [ZI b,.i q,.i k0,Z6 xs] [] (Yg (Z6 (Ux q (UI q (b.steps.drop k0) xs) b.result)))):=by
 induction k with
 | zero=>exact ⟨fun s q xs h=>by have:=s.sz_pos;omega,fun b q k0 xs h=>by have:=b.sz_pos;omega⟩
 | succ k ih=>exact ⟨fun s q xs h hz=>Zaf s q xs (fun b2 q k2 xs2 h2 hk h3=>ih.2 b2 q k2 xs2 om hk h3) hz,fun b q k0 xs h hk hz=>Zag b q k0 xs (fun s2 q xs2 h2 h3=>ih.1 s2 q xs2 om h3) hk hz⟩
theorem Pf (b:Z5) (q:Int) (k0:Nat) (xs:LI) (hk:k0<=b.steps.length:=by exact ob) (hz:xs.length+b.sz<=1000000000:=by exact ob):Zi 278 [ZI b,.i q,.i k0,Z6 xs] [] (Yg (Z6 (Ux q (UI q (b.steps.drop k0) xs) b.result))):=(Zb9 b.sz).2 b q k0 xs (X9 _) hk hz
theorem Pt (b:Z5) (q:Int) (hz:b.sz<=100000000:=by exact ob):Zi 242 [ZI b,.i q] [] (Yg (Z6 (UH q b []))):=by
 exact ZF 9 Tryz.func242 (ar (iA (X3 b) fun b1=>Z0 (Zu 2 [0] (iL (Z7 []) 0 1 fun v1=>ZQ 0 [(7,Z6 [])] (Zy [] (Pf b q 0 [] (hk:=(K3 _))) (Zt (ZU (Z6 (Ux q (UI q (b.steps.drop 0) []) b.result)) (Zc.sl _ (Yp Z7 (by rw [PZ];rfl))))))))))
theorem Z3c (xs:LI) (ys:LI) (hz:xs.length+ys.length<=100000000:=by exact ob):Zi 279 [Z6 xs,Z6 ys] [] (fun r h=>∃(zs:LI),r=Z6 zs/\h=[]/\zs.length<=xs.length+ys.length):=by
 refine ZF 22 Tryz.func279 (ZP (Yc 1 (ic [] (VK xs) ?_)))
 rintro _ _ ⟨v1,rfl,rfl⟩
 refine Z0 (Y7 (ab 0 (Y0 (fun fz gz m F h=>∃(k:Nat) (zs:LI),(k<=ys.length)/\(zs.length<=xs.length+k)/\F=sF [1] fz [(5,Z6 zs),(6,.i k)]/\h=[]/\m=ys.length-k) _ _ _ ⟨0,xs,ob,ob,rfl,rfl,rfl⟩ (wk [] (fc (x:=ZY xs v1) (Zc.forget _ _) (Y5 fl))) ?_)))
 rintro m F h ⟨k,zs,Yb,Zl,rfl,rfl,rfl⟩
 refine YO 2 (iw (Yi ys) (ZZ ((k:Int)<(ys.length:Int)) (fun Za=>?_) (fun Za=>?_)))
 ·refine ak (aq (ab 1 (az (Z2 3 ?_))))
  obtain ⟨x1,Z3⟩:=Zr ys k om
  refine Zm (Zg none (k:Int) 1 (Y3 Z3)) (Z2 1 (ic [] (Df zs x1) ?_))
  rintro _ _ ⟨v2,rfl,rfl⟩
  exact Z0 (az (Z2 1 (ZG k (Z0 (ZH ⟨k+1,(VT zs x1),ob,(by have:=Ck zs x1;omega),rfl,rfl,rfl⟩ (wk [] (fc (x:=ZY (VT zs x1) v2) (Zc.forget _ _) (ZJ k fl))))))))
 exact ax 0 (ar (Zt (r1 [] ⟨zs,rfl,rfl,ob⟩)))
theorem My (xs:LI) (ys:LI) (hz:xs.length<=100000000:=by exact ob) (hy:ys.length<=100000000:=by exact ob):Zi 301 [Z6 xs,Z6 ys] [] (fun r h=>∃(zs:LI) (v:Value),r=ZY zs v/\h=[.tail v 1]/\zs.length<=xs.length/\∀z∈zs,z∈xs):=by
 refine ZF 28 Tryz.func301 (ZP (ar (iL (Z7 []) 0 1 fun v1=>?_)))
 refine Z0 (Y7 (ab 0 (Y0 (fun fz gz m F h=>∃(k:Nat) (zs:LI) (u:Value),(k<=xs.length)/\(zs.length<=k)/\(∀z∈zs,z∈xs)/\F=sF [0,1] fz [(5,ZY zs u),(6,.i k)]/\h=[.tail u 1]/\m=xs.length-k) _ _ _ ⟨0,[],v1,ob,ob,(fun z hz=>by cases hz),rfl,rfl,rfl⟩ (wk [0] (fr (Y5 fl))) ?_)))
 rintro m F h ⟨k,zs,u,Yb,Zl,Zw,rfl,rfl,rfl⟩
 refine YO 2 (iw (Yi xs) (ZZ ((k:Int)<(xs.length:Int)) (fun Za=>?_) (fun Za=>?_)))
 ·refine ak (aq (ab 1 (Yc 3 ?_)))
  obtain ⟨x1,Z3⟩:=Zr xs k om
  refine Zm (Zg none (k:Int) 1 (Y3 Z3)) (Z2 1 (Zy [] (Uw ys x1) (ie (We (x1∈ys) (fun Zf=>?_) (fun Zf=>?_)))))
  ·exact az (Z2 3 (Zm (Zg none (k:Int) 1 (Y3 Z3)) (Z2 1 (iL (Z7 [x1]) 1 1 fun v2=>ZQ 0 [(25,Z6 [x1])] (ip 1 (Z7 (zs++[x1])) (Z7 zs) (Z7 [x1]) u none 1 (YD _) (YD _) (W5 _) (by simp<;>omega) (by simp [W4,Z7]) fun v3=>Z0 (az (Z2 1 (ZG k (Z0 (ZH ⟨k+1,(zs++[x1]),v3,ob,ob,(by first|exact Zw|exact Xu Zw (Y1 Z3)),rfl,rfl,rfl⟩ (wk [0] (fr (ZJ k fl)))))))))))))
  exact ak (az (Z2 1 (ZG k (Z0 (ZH ⟨k+1,zs,u,ob,ob,(by first|exact Zw|exact Xu Zw (Y1 Z3)),rfl,rfl,rfl⟩ (wk [0] (fr (ZJ k fl))))))))
 exact ax 0 (ar (Zt (r1 [0] ⟨zs,u,rfl,rfl,⟨by omega,Zw⟩⟩)))
theorem Hm (xs:LI) (q:Int) (hz:xs.length<=100000000:=by exact ob):Zi 308 [Z6 xs,.i q] [] (fun r h=>∃(zs:LI) (v:Value),r=ZY zs v/\h=[.tail v 1]/\zs.length<=xs.length/\∀z∈zs,z∈xs):=by
 refine ZF 28 Tryz.func308 (ZP (ar (iL (Z7 []) 0 1 fun v1=>?_)))
 refine Z0 (Y7 (ab 0 (Y0 (fun fz gz m F h=>∃(k:Nat) (zs:LI) (u:Value),(k<=xs.length)/\(zs.length<=k)/\(∀z∈zs,z∈xs)/\F=sF [0,1] fz [(5,ZY zs u),(6,.i k)]/\h=[.tail u 1]/\m=xs.length-k) _ _ _ ⟨0,[],v1,ob,ob,(fun z hz=>by cases hz),rfl,rfl,rfl⟩ (wk [0] (fr (Y5 fl))) ?_)))
 rintro m F h ⟨k,zs,u,Yb,Zl,Zw,rfl,rfl,rfl⟩
 refine YO 2 (iw (Yi xs) (ZZ ((k:Int)<(xs.length:Int)) (fun Za=>?_) (fun Za=>?_)))
 ·refine ak (aq (ab 1 (Yc 2 ?_)))
  obtain ⟨x1,Z3⟩:=Zr xs k om
  refine Zm (Zg none (k:Int) 1 (Y3 Z3)) (ZZ (x1<q) (fun Zf=>?_) (fun Zf=>?_))
  ·exact az (Z2 3 (Zm (Zg none (k:Int) 1 (Y3 Z3)) (Z2 1 (iL (Z7 [x1]) 1 1 fun v2=>ZQ 0 [(25,Z6 [x1])] (ip 1 (Z7 (zs++[x1])) (Z7 zs) (Z7 [x1]) u none 1 (YD _) (YD _) (W5 _) (by simp<;>omega) (by simp [W4,Z7]) fun v3=>Z0 (az (Z2 1 (ZG k (Z0 (ZH ⟨k+1,(zs++[x1]),v3,ob,ob,(by first|exact Zw|exact Xu Zw (Y1 Z3)),rfl,rfl,rfl⟩ (wk [0] (fr (ZJ k fl)))))))))))))
  exact ak (az (Z2 1 (ZG k (Z0 (ZH ⟨k+1,zs,u,ob,ob,(by first|exact Zw|exact Xu Zw (Y1 Z3)),rfl,rfl,rfl⟩ (wk [0] (fr (ZJ k fl))))))))
 exact ax 0 (ar (Zt (r1 [0] ⟨zs,u,rfl,rfl,⟨by omega,Zw⟩⟩)))
theorem Jq (op:Int) (v:Int) :Zi 146 [.i op,.i v] [] (Yg (YC (Zx op v))):=by
 exact ZF 10 Tryz.func146 (ar (iA [.i 0,.i 0,.i 0,nl,nl] fun b1=>ie (Yc 2 (iL (Z7 [v]) 1 1 fun v1=>iL (YE []) 0 2 fun v2=>Z2 1 (Zz 2 b1 [.i op,.i 0,.i 0,ZY [v] v1,UF [] v2] (ie (ZD (r3 [] [.agg [.i op,.i 0,.i 0,ZY [v] v1,UF [] v2]] [0] [(b1,b1)] ⟨rfl,rfl⟩ (Zc.agg (.cons li (.cons li (.cons li (.cons (Zc.sl _ (Yp Z7 rfl)) (.cons (Zc.sl _ (Yp YE rfl)) .nil))))))))))))))
theorem QX (op:Int) (xs:LI) (hl:xs.length<=1000000000:=by exact ob):Zi 244 [.i op,Z6 xs] [] (fun r h=>∃(v:Value),r=YS (xs.map (Zx op)) v/\h=[.tail v 5]):=by
 refine ZF 24 Tryz.func244 (ZP (ar (iL (Zv []) 0 5 fun v1=>?_)))
 refine Z0 (Y7 (ab 0 (Y0 (fun fz gz m F h=>∃(k:Nat) (v:Value),(k<=xs.length)/\F=sF [0,1] fz [(5,YS ((xs.take k).map (Zx op)) v),(6,.i k)]/\h=[.tail v 5]/\m=xs.length-k) _ _ _ ⟨0,v1,ob,rfl,rfl,rfl⟩ (wk [0] (fc (x:=YS [] v1) (Zc.slh _ (Yp Zv rfl)) (Y5 fl))) ?_)))
 rintro m F h ⟨k,v,Yb,rfl,rfl,rfl⟩
 refine YO 2 (iw (Yi xs) (ZZ ((k:Int)<(xs.length:Int)) (fun Za=>?_) (fun Za=>?_)))
 ·refine ak (aq (ab 1 (az (Z2 4 ?_))))
  obtain ⟨x1,Z3⟩:=Zr xs k om
  exact Zm (Zg none (k:Int) 1 (Y3 Z3)) (Z2 1 (Zy [] (Jq op x1) (iL [YC (Zx op x1)] 1 5 fun v2=>ZQ 0 [(21,.sl [YC (Zx op x1)] none)] (ip 1 (Zv ((xs.take (k+1)).map (Zx op))) (Zv ((xs.take k).map (Zx op))) [YC (Zx op x1)] v none 5 (Xc _) (Ty rfl) rfl (by simp<;>omega) (by rw [Ww Z3];simp [Vc]) fun v3=>Z0 (az (Z2 1 (ZG k (Z0 (ZH ⟨k+1,v3,ob,rfl,rfl,rfl⟩ (wk [0] (fr (ZJ k fl))))))))))))
 exact ax 0 (ar (Zt (r2 [0] [YS ((xs.take k).map (Zx op)) v] ⟨v,rfl,rfl⟩ (Zc.slh _ (Yp Zv (by rw [Wx om]))))))
theorem Z2r (n:Zq) (s:Z4) (i:Nat) (mm:Nat) (hn:Xe n:=by exact ob) (hf:FS n.decls n.routines.length mm s:=by exact ob) (hi:i<s.args.length:=by exact ob):Zi 307 [Yk n,YC s,.i i] [] (fun r h=>∃(wr:Bool),r=.b wr/\h=[]):=by
 have hal:=hf.alen
 refine ZF 42 Tryz.func307 (ar (iA (YJ n) fun b1=>iA (Xm s) fun b2=>?_))
 refine Z0 (Y7 (ab 0 (Y0 (fun fz gz m F h=>∃(k:Nat),(k<=s.args.length)/\F=sF [2,3,4] fz [(7,.i k)]/\h=gz/\m=s.args.length-k) _ _ _ ⟨0,ob,rfl,rfl,rfl⟩ (wk [0,0] (Y5 fl)) ?_)))
 rintro m F h ⟨k,Yb,rfl,rfl,rfl⟩
 refine Yf 3 [0] (iw (Yi s.args) (ZZ ((k:Int)<(s.args.length:Int)) (fun Za=>?_) (fun Za=>?_)))
 ·refine ak (aq (ab 1 (aD 27 (Zk 23 27 [0,1,2,3] (db (b:=((k:Int) != (i:Int))) 18 (fun Zd=>?_) (fun Zd=>?_))))))
  ·refine ZO 20 23 [4,5,6] [0] ?_
   obtain ⟨x1,Z3⟩:=Zr s.args k om
   refine dx 7 (Zg none (k:Int) 1 (Y3 Z3)) (ZO 15 19 [8,9,10,11] [0] ?_)
   obtain ⟨x2,Zo⟩:=Zr s.args i om
   refine dx 12 (Zg none (i:Int) 1 (Y3 Zo)) (Zk 10 14 [13,14,15,16] (db (b:=(x1==x2)) 31 (fun ZC=>?_) (fun ZC=>?_)))
   ·refine Zk 6 10 [17,18,19,20] (db (b:=(decide ((k:Int)>(i:Int)))) 35 (fun YB=>?_) (fun YB=>?_))
    ·exact Zk 0 6 [21,22,23,24,25,26] (de (WU (ar (Zt (r1 [] ⟨true,rfl,rfl⟩)))))
    refine ZO 3 6 [21,22,23] [1,0] (Z8 24 (Yq 24 [] [] [] (DX n s k (hnum:=hf.call)) (Zk 0 2 [25,26] (de (ac (UE n s.op s.num k) Iff.rfl (fun Zf=>?_) (fun Zf=>?_))))))
    ·exact ar (Zt (r1 [] ⟨true,rfl,rfl⟩))
    exact ak (az (Z2 1 (ZG k (Z0 (ZH ⟨k+1,ob,rfl,rfl,rfl⟩ (wk [0,0] (ZJ k fl)))))))
   exact Zk 0 10 [17,18,19,20,21,22,23,24,25,26] (de (WT (ak (az (Z2 1 (ZG k (Z0 (ZH ⟨k+1,ob,rfl,rfl,rfl⟩ (wk [0,0] (ZJ k fl))))))))))
  exact Zk 0 23 [4,5,6,7,8,9,10,11,12,13,14,15,16,17,18,19,20,21,22,23,24,25,26] (de (WT (ak (az (Z2 1 (ZG k (Z0 (ZH ⟨k+1,ob,rfl,rfl,rfl⟩ (wk [0,0] (ZJ k fl))))))))))
 exact ax 0 (ar (Zt (r1 [] ⟨false,rfl,rfl⟩)))
theorem ME (n:Zq) (s:Z4) (i:Nat) (mm:Nat) (os:LI) (ls:LI) (hn:Xe n:=by exact ob) (hf:FS n.decls n.routines.length mm s:=by exact ob) (hi:i<s.args.length:=by exact ob) (ho:os.length<=100000000:=by exact ob) (hl:ls.length<=100000000:=by exact ob):Zi 299 [Yk n,YC s,.i i,Z6 os,Z6 ls] [] (fun r h=>∃(wr:Bool),r=.b wr/\h=[]):=by
 refine ZF 34 Tryz.func299 (ar (iA (YJ n) fun b1=>iA (Xm s) fun b2=>Z0 (Zu 4 [0] ?_)))
 obtain ⟨x1,Z3⟩:=Zr s.args i om
 refine Zm (Zg none (i:Int) 1 (Y3 Z3)) (Z2 1 (Zy [] (Uw ls x1) (Z2 1 (ib (b:=(decide (x1∈ls))) 18 (fun Zd=>?_) (fun Zd=>?_)))))
 ·exact Zt (r1 [] ⟨true,rfl,rfl⟩)
 refine ZL 4 [0] (Zm (Zg none (i:Int) 1 (Y3 Z3)) (Z2 1 (Zy [] (Uw os x1) (Z2 3 (ib (b:=(!(decide (x1∈os)))) 28 (fun ZC=>?_) (fun ZC=>?_))))))
 ·exact Zt (r1 [] ⟨true,rfl,rfl⟩)
 refine ZL 3 [1,0] (ic [] (Z2r n s i mm) ?_)
 rintro _ _ ⟨wr1,rfl,rfl⟩
 exact Zt (r1 [] ⟨wr1,rfl,rfl⟩)
theorem Z27 (n:Zq) (us:LI) (s:Z4) (os:LI) (ls:LI) (mm:Nat) (hn:Xe n:=by exact ob) (hf:FS n.decls n.routines.length mm s:=by exact ob) (hvl:us.length=mm:=by exact ob) (hm:mm<=100000000:=by exact ob) (ho:os.length<=100000000:=by exact ob) (hl:ls.length<=100000000:=by exact ob):Zi 280 [Yk n,Z6 us,YC s,Z6 os,Z6 ls] [] (fun r h=>∃(zs:LI),r=Z6 zs/\h=[]/\zs.length<=s.args.length/\∀z∈zs,z∈s.args):=by
 have hal:=hf.alen
 refine ZF 43 Tryz.func280 (ar (iA (YJ n) fun b1=>iA (Xm s) fun b2=>Z0 (ar (iL (Z7 []) 0 1 fun v1=>?_))))
 refine Z0 (Y7 (ab 0 (Y0 (fun fz gz m F h=>∃(k:Nat) (zs:LI) (u:Value),(k<=s.args.length)/\(zs.length<=k)/\(∀z∈zs,z∈s.args)/\F=sF [1,3,4,5,7] fz [(11,ZY zs u),(12,.i k)]/\h=[Zh gz 1,Zh gz 2,.tail u 1]/\m=s.args.length-k) _ _ _ ⟨0,[],v1,ob,ob,(fun z hz=>by cases hz),rfl,rfl,rfl⟩ (wk [1,1,0] (fr (Y5 fl))) ?_)))
 rintro m F h ⟨k,zs,u,Yb,Zl,Zw,rfl,rfl,rfl⟩
 refine Yf 3 [0] (iw (Yi s.args) (ZZ ((k:Int)<(s.args.length:Int)) (fun Za=>?_) (fun Za=>?_)))
 ·obtain ⟨a1,ha1⟩:=Zr s.args k om
  have har:=hf.args a1 (Y1 ha1)
  refine ak (aq (ab 1 (Zu 4 [1,0] (Zy [] (FW n us s k a1 (hnum:=hf.call) (ha:=ha1)) (Z2 1 (ib (b:=KA n us s.op s.num a1 k) 26 (fun Zd=>?_) (fun Zd=>?_)))))))
  ·refine ZL 5 [1,0] (ic [] (ME n s k mm os ls) ?_)
   rintro _ _ ⟨wr1,rfl,rfl⟩
   refine YG wr1 Iff.rfl (fun Zf=>?_) (fun Zf=>?_)
   ·exact az (ZL 4 [0] (Zm (Zg none (k:Int) 1 (Y3 ha1)) (Z2 1 (iL (Z7 [a1]) 1 1 fun v2=>ZQ 0 [(40,Z6 [a1])] (ip 3 (Z7 (zs++[a1])) (Z7 zs) (Z7 [a1]) u none 1 (YD _) (YD _) (W5 _) (by simp<;>omega) (by simp [W4,Z7]) fun v3=>Z0 (az (Z2 1 (ZG k (Z0 (ZH ⟨k+1,(zs++[a1]),v3,ob,ob,(by first|exact Zw|exact Xu Zw (Y1 ha1)),rfl,rfl,rfl⟩ (wk [2,2,0] (fr (ZJ k fl)))))))))))))
   exact ak (az (Z2 1 (ZG k (Z0 (ZH ⟨k+1,zs,u,ob,ob,(by first|exact Zw|exact Xu Zw (Y1 ha1)),rfl,rfl,rfl⟩ (ZM 3 (fr (ZJ k fl))))))))
  exact Z0 (WT (ak (az (Z2 1 (ZG k (Z0 (ZH ⟨k+1,zs,u,ob,ob,(by first|exact Zw|exact Xu Zw (Y1 ha1)),rfl,rfl,rfl⟩ (ZM 3 (fr (ZJ k fl))))))))))
 exact ax 0 (ar (Zt (r2 [] [ZY zs u] ⟨zs,rfl,rfl,⟨by omega,Zw⟩⟩ (Zc.forget _ _))))
theorem Z2k (n:Zq) (us:LI) (s:Z4) (os:LI) (ls:LI) (mm:Nat) (hn:Xe n:=by exact ob) (hf:FS n.decls n.routines.length mm s:=by exact ob) (hvl:us.length=mm:=by exact ob) (hm:mm<=100000000:=by exact ob) (ho:os.length<=100000000:=by exact ob) (hl:ls.length<=100000000:=by exact ob):Zi 282 [Yk n,Z6 us,YC s,Z6 os,Z6 ls] [] (fun r h=>∃(zs:LI) (v:Value),r=ZY zs v/\h=[.tail v 1]/\zs.length<=os.length/\∀z∈zs,z∈os):=by
 have hal:=hf.alen
 refine ZF 55 Tryz.func282 (ar (iA (YJ n) fun b1=>iA (Xm s) fun b2=>Z0 (Yf 4 [0] (ib (b:=(s.op==7)) 16 (fun Zd=>?_) (fun Zd=>?_)))))
 ·refine Z0 (WU (Yc 2 (ic [] (My os ls) ?_)))
  rintro _ _ ⟨zs1,v1,rfl,rfl,Ym⟩
  have hco:=Ym
  exact Zt (r1 [0] ⟨zs1,v1,rfl,rfl,(by first|exact hco|exact ⟨by omega,Zw⟩)⟩)
 refine VY [0] (ac (s.op==8) Zs (fun Za=>?_) (fun Za=>?_))
 ·refine Yc 2 (ic [] (My os ls) ?_)
  rintro _ _ ⟨zs2,v2,rfl,rfl,YZ⟩
  have hco:=YZ
  exact Zt (r1 [0] ⟨zs2,v2,rfl,rfl,(by first|exact hco|exact ⟨by omega,Zw⟩)⟩)
 refine ak (Yc 1 (ic [] (VK os) ?_))
 rintro _ _ ⟨v3,rfl,rfl⟩
 refine Z0 (Y7 (ab 0 (Y0 (fun fz gz m F h=>∃(k:Nat) (zs:LI) (u:Value),(k<=s.args.length)/\(zs.length<=os.length)/\(∀z∈zs,z∈os)/\F=sF [1,3,4,5,7] fz [(11,ZY zs u),(12,.i k)]/\h=[Zh gz 1,Zh gz 2,.tail u 1]/\m=s.args.length-k) _ _ _ ⟨0,os,v3,ob,ob,(fun z hz=>hz),rfl,rfl,rfl⟩ (wk [1,1,0] (fr (Y5 fl))) ?_)))
 rintro m F h ⟨k,zs,u,Yb,Zl,Zw,rfl,rfl,rfl⟩
 refine Yf 3 [0] (iw (Yi s.args) (ZZ ((k:Int)<(s.args.length:Int)) (fun Zf=>?_) (fun Zf=>?_)))
 ·obtain ⟨a1,ha1⟩:=Zr s.args k om
  have har:=hf.args a1 (Y1 ha1)
  refine ak (aq (ab 1 (Zu 4 [1,0] (Zy [] (FW n us s k a1 (hnum:=hf.call) (ha:=ha1)) (Z2 1 (ib (b:=KA n us s.op s.num a1 k) 38 (fun ZC=>?_) (fun ZC=>?_)))))))
  ·refine ZL 5 [1,0] (ic [] (ME n s k mm os ls) ?_)
   rintro _ _ ⟨wr1,rfl,rfl⟩
   refine YG (!wr1) (p:=¬(wr1=true)) (Yn Iff.rfl) (fun ZA=>?_) (fun ZA=>?_)
   ·refine az (ZL 4 [0] (Zm (Zg none (k:Int) 1 (Y3 ha1)) (ZQ 1 [(47,Z6 zs)] (ic [] (ML zs a1) ?_))))
    rintro _ _ ⟨v4,rfl,rfl⟩
    exact Z0 (az (Z2 1 (ZG k (Z0 (ZH ⟨k+1,(TB zs a1),v4,ob,(by first|exact Zl|exact V9 (DI _ _) Zl),(by first|exact Zw|exact (fun z hz=>Zw z (Cu hz))),rfl,rfl,rfl⟩ (wk [1,1,0] (fr (ZJ k fl))))))))
   exact ak (az (Z2 1 (ZG k (Z0 (ZH ⟨k+1,zs,u,ob,(by first|exact Zl|exact V9 (DI _ _) Zl),(by first|exact Zw|exact (fun z hz=>Zw z (Cu hz))),rfl,rfl,rfl⟩ (ZM 3 (fr (ZJ k fl))))))))
  exact Z0 (WT (ak (az (Z2 1 (ZG k (Z0 (ZH ⟨k+1,zs,u,ob,(by first|exact Zl|exact V9 (DI _ _) Zl),(by first|exact Zw|exact (fun z hz=>Zw z (Cu hz))),rfl,rfl,rfl⟩ (ZM 3 (fr (ZJ k fl))))))))))
 exact ax 0 (ar (Zt (r1 [2] ⟨zs,u,rfl,rfl,(by first|exact hco|exact ⟨by omega,Zw⟩)⟩)))
theorem Z2l (n:Zq) (s:Z4) (os:LI) (ls:LI) (mm:Nat) (hn:Xe n:=by exact ob) (hf:FS n.decls n.routines.length mm s:=by exact ob) (ho:os.length<=100000000:=by exact ob) (hl:ls.length<=100000000:=by exact ob):Zi 283 [Yk n,YC s,Z6 os,Z6 ls] [] (fun r h=>∃(zs:LI),r=Z6 zs/\h=[]/\zs.length<=s.args.length/\∀z∈zs,z∈s.args):=by
 have hal:=hf.alen
 refine ZF 50 Tryz.func283 (ar (iA (YJ n) fun b1=>iA (Xm s) fun b2=>Z0 (ar (iL (Z7 []) 0 1 fun v1=>?_))))
 refine Z0 (Y7 (ab 0 (Y0 (fun fz gz m F h=>∃(k:Nat) (zs:LI) (u:Value),(k<=s.args.length)/\(zs.length<=k)/\(∀z∈zs,z∈s.args)/\F=sF [2,3,4,5] fz [(9,ZY zs u),(10,.i k)]/\h=[Zh gz 1,Zh gz 2,.tail u 1]/\m=s.args.length-k) _ _ _ ⟨0,[],v1,ob,ob,(fun z hz=>by cases hz),rfl,rfl,rfl⟩ (wk [1,1,0] (fr (Y5 fl))) ?_)))
 rintro m F h ⟨k,zs,u,Yb,Zl,Zw,rfl,rfl,rfl⟩
 refine Yf 3 [0] (iw (Yi s.args) (ZZ ((k:Int)<(s.args.length:Int)) (fun Za=>?_) (fun Za=>?_)))
 ·obtain ⟨a1,ha1⟩:=Zr s.args k om
  have har:=hf.args a1 (Y1 ha1)
  refine ak (aq (ab 1 (Zu 3 [1,0] (Zy [] (DX n s k (hnum:=hf.call)) (XG 13 [2,3,4,5,9,10] [(31,.b (UE n s.op s.num k&&(decide (a1∈os))))] (fun gz=>gz) ?_ (fun hj1=>?_))))))
  ·refine Xi [2,3,4,5,9,10] [(41,.b ((UE n s.op s.num k&&(decide (a1∈os)))&&(!(decide (a1∈ls)))))] (fun gz=>gz) ?_ ?_
   ·refine Z2 1 (ib (b:=(UE n s.op s.num k&&(decide (a1∈os)))) 32 (fun Zd=>?_) (fun Zd=>?_))
    ·exact ZL 4 [0] (Zm (Zg none (k:Int) 1 (Y3 ha1)) (Z2 1 (Zy [] (Uw ls a1) (Z0 (ZM 3 (Zp (!(decide (a1∈ls))) Zd fl))))))
    exact Z0 (ZM 3 (Zp false Zd fl))
   refine ac ((UE n s.op s.num k&&(decide (a1∈os)))&&(!(decide (a1∈ls)))) (p:=((UE n s.op s.num k=true)/\(a1∈os))/\(¬(a1∈ls))) (YK (YK Iff.rfl dq) (Yn dq)) (fun Zf=>?_) (fun Zf=>?_)
   ·refine az (ZL 4 [0] (Zm (Zg none (k:Int) 1 (Y3 ha1)) (ZQ 1 [(42,Z6 zs)] (ic [] (Df zs a1) ?_))))
    rintro _ _ ⟨v2,rfl,rfl⟩
    exact Z0 (az (Z2 1 (ZG k (Z0 (ZH ⟨k+1,(VT zs a1),v2,ob,(by first|omega|(have:=Ck zs a1;omega)),(by first|exact Zw|exact (fun z hz=>(Ds.1 hz).elim (Zw z) (fun e=>e▸Y1 ha1))),rfl,rfl,rfl⟩ (wk [1,1,0] (fr (ZJ k fl))))))))
   exact ak (az (Z2 1 (ZG k (Z0 (ZH ⟨k+1,zs,u,ob,(by first|omega|(have:=Ck zs a1;omega)),(by first|exact Zw|exact (fun z hz=>(Ds.1 hz).elim (Zw z) (fun e=>e▸Y1 ha1))),rfl,rfl,rfl⟩ (ZM 3 (fr (ZJ k fl))))))))
  refine Z2 1 (ib (b:=UE n s.op s.num k) 23 (fun ZC=>?_) (fun ZC=>?_))
  ·exact ZL 4 [0] (Zm (Zg none (k:Int) 1 (Y3 ha1)) (Z2 1 (Zy [] (Uw os a1) (Z2 1 (Yv (ZM 3 (Zp (decide (a1∈os)) ZC fl)) hj1)))))
  exact Z2 8 (Yv (ZM 3 (Zp false ZC fl)) hj1)
 exact ax 0 (ar (Zt (r2 [] [ZY zs u] ⟨zs,rfl,rfl,⟨by omega,Zw⟩⟩ (Zc.forget _ _))))
theorem CF (rt:ZV) (b:Z5) (hp:rt.params.length<=4294967296:=by exact ob) (hl:rt.lent.length<=4294967296:=by exact ob):Zi 142 [UK rt,ZI b] [] (Yg (UK (ZV.mk rt.params rt.lent rt.result b))):=by
 refine ZF 15 Tryz.func142 (ar (iA (Tm rt) fun b1=>iA (X3 b) fun b2=>iA [nl,nl,.i 0,nl,.i 0] fun b3=>ie (aD 11 (ZO 4 11 [0,1,3,4,6,7,8] [2,2,2,1] (Z8 2 (dc 2 [] [1,2,2] [b2,b1,b1] (VK rt.params) ?_))))))
 rintro _ _ ⟨v1,rfl,rfl⟩
 refine Z8 5 (dc 5 [] [1,2] [b2,b1] (VK rt.lent) ?_)
 rintro _ _ ⟨v2,rfl,rfl⟩
 exact Zk 1 2 [9] (Z8 10 (YM 10 2 [] [] b3 [ZY rt.params v1,ZY rt.lent v2,.i rt.result,WE b.steps,.i b.result] (de (ZD (r3 [] [.agg [ZY rt.params v1,ZY rt.lent v2,.i rt.result,WE b.steps,.i b.result]] [0] [(b3,b3)] ⟨rfl,rfl⟩ (Zc.agg (.cons (Zc.sl _ (Yp Z7 ob)) (.cons (Zc.sl _ (Yp Z7 ob)) (.cons li (.cons (Zc.sl _ (Yp Zv ob)) (.cons li .nil)))))))))))
theorem Z22 (n:Zq) (us:LI) (fds:LI) (kd:Z5) (os:LI) (ls:LI) (mm:Nat) (bb:Nat) (hn:Xe n:=by exact ob) (hf:fB n.decls n.routines.length (mm+fds.length) kd:=by exact ob) (hop:V5 WB kd:=by exact ob) (hul:us.length=mm:=by exact ob) (hfl:fds.length<=3:=by exact ob) (hm:mm+3+4*kd.sz<=100000:=by exact ob) (hor:∀v∈os,0<=v/\v<(mm:Int)) (hol:os.length+3+4*kd.sz<=730:=by exact ob) (hal:ls.length+2000*kd.sz<=1000000:=by exact ob) (hbz:kd.sz<=500:=by exact ob) (hb:kd.sz<bb:=by exact ob) (ih:∀(us2:LI) (b2:Z5) (os2:LI) (as2:LI) (m2:Nat),(fB n.decls n.routines.length m2 b2)->(V5 WB b2)->(us2.length=m2)->(m2+4*b2.sz<=100000)->(∀v∈os2,0<=v/\v<(m2:Int))->(os2.length+4*b2.sz<=730)->(as2.length+2000*b2.sz<=1000000)->(b2.sz<=500)->(b2.sz<bb)->Zi 243 [Yk n,Z6 us2,ZI b2,Z6 os2,Z6 as2] [] (fun r h=>∃(y:Z5),r=ZI y/\h=[]/\KB n.decls n.routines.length m2 y (4500*b2.sz))):Zi 300 [Yk n,Z6 us,Z6 fds,ZI kd,Z6 os,Z6 ls] [] (fun r h=>∃(y:Z5),r=ZI y/\h=[]/\KB n.decls n.routines.length (mm+fds.length) y (4500*kd.sz+1470)):=by
 refine ZF 115 Tryz.func300 (ar (iA (YJ n) fun b1=>iA (X3 kd) fun b2=>iA [nl,.i 0] fun b3=>ie (Yc 1 (iw (Yi us) (Z0 (Yc 2 (ic [] (QE us fds) ?_)))))))
 rintro _ _ ⟨v1,rfl,rfl⟩
 refine Z0 (Zu 2 [2] (io (.i (((us++fds).length:Nat):Int)) (.i (((Z7 (us++fds)).length:Nat):Int)) (li (by rw [Yi])) (Zy [] (Pt kd (((us++fds).length:Nat):Int)) ?_)))
 have hub:=G3 (n:=(((us++fds).length:Nat):Int)) kd []
 simp only [Xn,V0] at hub
 refine Z0 (ar (iL (Z7 []) 0 1 fun v2=>Z0 (ar (iL (Z7 []) 0 1 fun v3=>?_))))
 refine Z0 (Y7 (ab 0 (Y0 (fun fz gz m F h=>∃(k:Nat) (ms:LI) (u:Value) (dr:LI) (w:Value),(k<=os.length)/\(ms.length<=k)/\(dr.length<=k)/\(∀v∈ms,0<=v/\v<(mm:Int))/\(∀v∈dr,0<=v/\v<(mm:Int))/\F=sF [2,4,5,6,9,12,13,15] fz [(14,Z6 (us++fds)),(16,ZY ms u),(17,ZY dr w),(18,.i k)]/\h=[Zh gz 3,Zh gz 4,Zh gz 5,.tail u 1,.tail w 1]/\m=os.length-k) _ _ _ ⟨0,[],v2,[],v3,ob,ob,ob,(fun v hv=>by cases hv),(fun v hv=>by cases hv),rfl,rfl,rfl⟩ (wk [3,3,3,1,0] (fc (x:=ZY (us++fds) v1) (Zc.forget _ _) (fw (Y5 fl)))) ?_)))
 rintro m F h ⟨k,ms,u,dr,w,Yb,Zl,Zw,YN,Wj,rfl,rfl,rfl⟩
 refine YO 2 (iw (Yi os) (ZZ ((k:Int)<(os.length:Int)) (fun Za=>?_) (fun Za=>?_)))
 ·obtain ⟨o1,ho1⟩:=Zr os k om
  have hor1:=hor o1 (Y1 ho1)
  refine ak (aq (ab 1 (Yc 3 (Zm (Zg none (k:Int) 1 (Y3 ho1)) (Z2 1 (Zy [] (Uw (UH (((us++fds).length:Nat):Int) kd []) o1) (Xi [2,4,5,6,9,12,13,14,15,16,17,18] [(53,.b ((decide (o1∈(UH (((us++fds).length:Nat):Int) kd [])))||(decide (o1∈ls))))] (fun gz=>gz) ?_ ?_)))))))
  ·refine Z2 1 (ib (b:=(decide (o1∈(UH (((us++fds).length:Nat):Int) kd [])))) 46 (fun Zd=>?_) (fun Zd=>?_))
   ·exact Z0 (ZM 5 (Zp true Zd fl))
   exact Z2 3 (Zm (Zg none (k:Int) 1 (Y3 ho1)) (Z2 1 (Zy [] (Uw ls o1) (Z0 (ZM 5 (Zp (decide (o1∈ls)) Zd fl))))))
  refine ac ((decide (o1∈(UH (((us++fds).length:Nat):Int) kd [])))||(decide (o1∈ls))) (p:=(o1∈(UH (((us++fds).length:Nat):Int) kd []))∨(o1∈ls)) (Yh dq dq) (fun Zf=>?_) (fun Zf=>?_)
  ·exact az (Z2 3 (Zm (Zg none (k:Int) 1 (Y3 ho1)) (Z2 1 (iL (Z7 [o1]) 1 1 fun v4=>ZQ 0 [(59,Z6 [o1])] (ip 4 (Z7 (ms++[o1])) (Z7 ms) (Z7 [o1]) u none 1 (YD _) (YD _) (W5 _) (by simp<;>omega) (by simp [W4,Z7]) fun v5=>Z0 (az (Z2 1 (ZG k (Z0 (ZH ⟨k+1,(ms++[o1]),v5,dr,w,ob,ob,ob,(by first|exact YN|exact Xu YN hor1),(by first|exact Wj|exact Xu Wj hor1),rfl,rfl,rfl⟩ (wk [2,2,2,0,1] (fw (fr (ZJ k fl))))))))))))))
  exact az (Z2 3 (Zm (Zg none (k:Int) 1 (Y3 ho1)) (Z2 1 (iL (Z7 [o1]) 1 1 fun v6=>ZQ 0 [(66,Z6 [o1])] (ip 5 (Z7 (dr++[o1])) (Z7 dr) (Z7 [o1]) w none 1 (YD _) (YD _) (W5 _) (by simp<;>omega) (by simp [W4,Z7]) fun v7=>Z0 (az (Z2 1 (ZG k (Z0 (ZH ⟨k+1,ms,u,(dr++[o1]),v7,ob,ob,ob,(by first|exact YN|exact Xu YN hor1),(by first|exact Wj|exact Xu Wj hor1),rfl,rfl,rfl⟩ (wk [2,2,2,2,0] (fw (fr (ZJ k fl))))))))))))))
 refine ax 0 (ar (iL (Z7 []) 0 1 fun v8=>?_))
 refine Z0 (Y7 (ab 2 (Y0 (fun fz gz m F h=>∃(k:Nat) (ps:LI) (w2:Value),(k<=fds.length)/\(ps.length<=k)/\(∀v∈ps,(mm:Int)<=v/\v<((mm+fds.length:Nat):Int))/\F=sF [2,5,6,9,12,13,14,15,16,17] fz [(19,ZY ps w2),(20,.i k)]/\h=[Zh gz 1,Zh gz 2,Zh gz 3,Zh gz 4,Zh gz 5,.tail w2 1]/\m=fds.length-k) _ _ _ ⟨0,[],v8,ob,ob,(fun v hv=>by cases hv),rfl,rfl,rfl⟩ (wk [1,1,1,1,1,0] (fr (Y5 fl))) ?_)))
 rintro m F h ⟨k,ps,w2,VA,XL,XI,rfl,rfl,rfl⟩
 refine YO 2 (iw (Yi fds) (ZZ ((k:Int)<(fds.length:Int)) (fun ZA=>?_) (fun ZA=>?_)))
 ·refine ak (aq (ab 3 (Yc 2 ?_)))
  obtain ⟨x1,Z3⟩:=Zr fds k om
  refine Zm (Zg none (k:Int) 1 (Y3 Z3)) (Xi [2,5,6,9,12,13,14,15,16,17,19,20] [(86,.b ((x1 != 0)&&(decide (((us.length+k:Nat):Int)∈(UH (((us++fds).length:Nat):Int) kd [])))))] (fun gz=>gz) ?_ ?_)
  ·refine Z2 3 (ib (b:=(x1 != 0)) 80 (fun ZC=>?_) (fun ZC=>?_))
   ·exact Z2 3 (ia (((us.length+k:Nat):Int)) (((us.length:Int))+((k:Int))) (Zy [] (Uw (UH (((us++fds).length:Nat):Int) kd []) ((us.length+k:Nat):Int)) (Z0 (ZM 6 (Zp (decide (((us.length+k:Nat):Int)∈(UH (((us++fds).length:Nat):Int) kd []))) ZC fl)))))
   exact Z0 (ZM 6 (Zp false ZC fl))
  refine ac ((x1 != 0)&&(decide (((us.length+k:Nat):Int)∈(UH (((us++fds).length:Nat):Int) kd [])))) (p:=(x1≠0)/\(((us.length+k:Nat):Int)∈(UH (((us++fds).length:Nat):Int) kd []))) (YK Y6 dq) (fun Yl=>?_) (fun Yl=>?_)
  ·exact az (Z2 3 (ia (((us.length+k:Nat):Int)) (((us.length:Int))+((k:Int))) (iL (Z7 [((us.length+k:Nat):Int)]) 1 1 fun v9=>ZQ 0 [(91,Z6 [((us.length+k:Nat):Int)])] (ip 6 (Z7 (ps++[((us.length+k:Nat):Int)])) (Z7 ps) (Z7 [((us.length+k:Nat):Int)]) w2 none 1 (YD _) (YD _) (W5 _) (by simp<;>omega) (by simp [W4,Z7]) fun v10=>Z0 (az (Z2 1 (ZG k (Z0 (ZH ⟨k+1,(ps++[((us.length+k:Nat):Int)]),v10,ob,ob,(by first|exact XI|exact Xu XI om),rfl,rfl,rfl⟩ (wk [2,2,2,2,2,0] (fr (ZJ k fl))))))))))))
  exact ak (az (Z2 1 (ZG k (Z0 (ZH ⟨k+1,ps,w2,ob,ob,(by first|exact XI|exact Xu XI om),rfl,rfl,rfl⟩ (ZM 6 (fr (ZJ k fl))))))))
 refine ax 2 (ar (ZQ 1 [(93,Z6 ps)] (ic [] (QX 14 ps) ?_)))
 rintro _ _ ⟨v11,rfl,rfl⟩
 refine ZQ 1 [(95,Z6 dr)] (ic [] (QX 15 dr) ?_)
 rintro _ _ ⟨v12,rfl,rfl⟩
 refine ZQ 0 [(96,WE (dr.map (Zx 15)))] (ip 1 (Zv ((ps.map (Zx 14))++(dr.map (Zx 15)))) (Zv (ps.map (Zx 14))) (Zv (dr.map (Zx 15))) v11 none 5 (Xc _) (Xc _) (VD _) (by simp<;>omega) (by simp [WC,Zv]) fun v13=>?_)
 refine Z0 (aD 12 (ZO 5 12 [0,1,2,3,4,6,7] [4,3] (KC (fun fz gz F h=>∃(y1:Z5) (b4:Nat) (zs1:LI),(zs1.length<=ls.length/\∀z∈zs1,z∈ls)/\(KB n.decls n.routines.length (mm+fds.length) y1 (4500*kd.sz))/\F=sF [12,21] fz [(22,.p b4 0)]/\h=[.obj b4 (X3 y1),Zh gz 0,Zh gz 1,Zh gz 2,Zh gz 3,Zh gz 4,Zh gz 6,Zh gz 7]) ?_ ?_)))
 ·refine Vq 5 10 ?_ ?_
  ·refine dp 5 5 [1,2] [b2,b1] (Z7 (ms++ps)) (Z7 ms) (Z7 ps) u (some w2) 1 (YD _) (YD _) (W5 _) (by simp<;>omega) (by simp [W4,Z7]) fun v14=>Vq 8 10 ?_ ?_
   ·refine dc 8 [] [1,2] [b2,b1] (Hm ls (us.length:Int)) ?_
    rintro _ _ ⟨zs1,v15,rfl,rfl,Xg⟩
    have hbl:=Xg
    refine Yr 3 3 [] [(103,Z6 (ms++ps)),(106,Z6 zs1)] (Vq 9 10 ?_ ?_)
    ·refine dc 9 [] [] [] (ih (us++fds) kd (ms++ps) zs1 (mm+fds.length) hf hop (by rw [Yx,hul]) ob (fun v hv=>by rcases Xb.1 hv with h|h;exact (by have:=YN v h;omega);exact (by have:=XI v h;omega)) (by rw [Yx];omega) ob ob ob) ?_
     rintro _ _ ⟨y1,rfl,rfl,XX⟩
     have hkb:=XX
     have hkl:=hkb.len
     exact Z8 10 (dA 10 [] [] [nl,.i 0] fun b4=>Z8 11 (YM 11 0 [] [] b4 (X3 y1) (de (ZT ⟨_,b4,_,(by assumption),(by assumption),rfl,rfl⟩ (wk [0,2,2,2,2,2,2,2] fl)))))
    refine dA 10 [1,2] [b2,b1] [nl,.i 0] fun b5=>Z8 9 (dc 9 [] [] [] (ih (us++fds) kd (ms++ps) zs1 (mm+fds.length) hf hop (by rw [Yx,hul]) ob (fun v hv=>by rcases Xb.1 hv with h|h;exact (by have:=YN v h;omega);exact (by have:=XI v h;omega)) (by rw [Yx];omega) ob ob ob) ?_)
    rintro _ _ ⟨y2,rfl,rfl,Wu⟩
    have hkb:=Wu
    have hkl:=hkb.len
    exact Z8 11 (YM 11 0 [] [] b5 (X3 y2) (de (ZT ⟨_,b5,_,(by assumption),(by assumption),rfl,rfl⟩ (wk [0,2,2,2,2,2,2,2] fl))))
   refine dA 10 [1,2] [b2,b1] [nl,.i 0] fun b6=>Z8 8 (dc 8 [] [2,3] [b2,b1] (Hm ls (us.length:Int)) ?_)
   rintro _ _ ⟨zs2,v16,rfl,rfl,WZ⟩
   have hbl:=WZ
   refine Yr 2 2 [] [(103,Z6 (ms++ps)),(106,Z6 zs2)] (Z8 9 (dc 9 [] [] [] (ih (us++fds) kd (ms++ps) zs2 (mm+fds.length) hf hop (by rw [Yx,hul]) ob (fun v hv=>by rcases Xb.1 hv with h|h;exact (by have:=YN v h;omega);exact (by have:=XI v h;omega)) (by rw [Yx];omega) ob ob ob) ?_))
   rintro _ _ ⟨y3,rfl,rfl,Vs⟩
   have hkb:=Vs
   have hkl:=hkb.len
   exact Z8 11 (YM 11 1 [] [] b6 (X3 y3) (de (ZT ⟨_,b6,_,(by assumption),(by assumption),rfl,rfl⟩ (wk [0,2,2,2,2,2,2,2] fl))))
  refine dA 10 [1,2] [b2,b1] [nl,.i 0] fun b7=>Yr 4 4 [] [(102,Z6 ps)] (Z8 5 (dp 5 6 [2,3] [b2,b1] (Z7 (ms++ps)) (Z7 ms) (Z7 ps) u none 1 (YD _) (YD _) (W5 _) (by simp<;>omega) (by simp [W4,Z7]) fun v17=>Z8 8 (dc 8 [] [2,3] [b2,b1] (Hm ls (us.length:Int)) ?_)))
  rintro _ _ ⟨zs3,v18,rfl,rfl,UT⟩
  have hbl:=UT
  refine Yr 2 2 [] [(103,Z6 (ms++ps)),(106,Z6 zs3)] (Z8 9 (dc 9 [] [] [] (ih (us++fds) kd (ms++ps) zs3 (mm+fds.length) hf hop (by rw [Yx,hul]) ob (fun v hv=>by rcases Xb.1 hv with h|h;exact (by have:=YN v h;omega);exact (by have:=XI v h;omega)) (by rw [Yx];omega) ob ob ob) ?_))
  rintro _ _ ⟨y4,rfl,rfl,UU⟩
  have hkb:=UU
  have hkl:=hkb.len
  exact Z8 11 (YM 11 2 [] [] b7 (X3 y4) (de (ZT ⟨_,b7,_,(by assumption),(by assumption),rfl,rfl⟩ (wk [0,2,2,2,2,2,2,2] fl))))
 rintro F h ⟨y1,b4,zs1,Xg,XX,rfl,rfl⟩
 have hbl:=Xg
 have hkb:=XX
 have hkl:=hkb.len
 exact aD 8 (ZO 3 8 [0,1,2,4,5] [0,0] (Z8 3 (dp 3 1 [0] [b4] (Zv (((ps.map (Zx 14))++(dr.map (Zx 15)))++y1.steps)) (Zv ((ps.map (Zx 14))++(dr.map (Zx 15)))) (Zv y1.steps) v13 none 5 (Xc _) (Xc _) (VD _) (by simp<;>omega) (by simp [WC,Zv]) fun v19=>Zk 1 2 [6] (Z8 7 (YM 7 3 [] [] b3 [YS (((ps.map (Zx 14))++(dr.map (Zx 15)))++y1.steps) v19,.i y1.result] (de (ZD (r3 [] [.agg [YS (((ps.map (Zx 14))++(dr.map (Zx 15)))++y1.steps) v19,.i y1.result]] [0] [(b3,b3)] ⟨(Z5.mk (((ps.map (Zx 14))++(dr.map (Zx 15)))++y1.steps) y1.result),rfl,rfl,((hkb.put (fun v hv=>by have:=XI v hv;omega) (fun v hv=>by have:=Wj v hv;omega)).le om)⟩ (Zc.agg (.cons (Zc.forget _ _) (.cons (lr _) .nil)))))))))))
theorem Z23 (n:Zq) (us:LI) (s:Z4) (os:LI) (ls:LI) (mm:Nat) (bb:Nat) (hn:Xe n:=by exact ob) (hf:FS n.decls n.routines.length mm s:=by exact ob) (h11:s.op<=11:=by exact ob) (hop:Qz WB s.kids:=by exact ob) (hul:us.length=mm:=by exact ob) (hm:mm+4*s.sz<=100000:=by exact ob) (hor:∀v∈os,0<=v/\v<(mm:Int)) (hol:os.length+4*s.sz<=730:=by exact ob) (hal:ls.length+2000*s.sz<=1000000:=by exact ob) (hbz:s.sz<=500:=by exact ob) (hb:s.sz<=bb:=by exact ob) (ih:∀(us2:LI) (b2:Z5) (os2:LI) (as2:LI) (m2:Nat),(fB n.decls n.routines.length m2 b2)->(V5 WB b2)->(us2.length=m2)->(m2+4*b2.sz<=100000)->(∀v∈os2,0<=v/\v<(m2:Int))->(os2.length+4*b2.sz<=730)->(as2.length+2000*b2.sz<=1000000)->(b2.sz<=500)->(b2.sz<bb)->Zi 243 [Yk n,Z6 us2,ZI b2,Z6 os2,Z6 as2] [] (fun r h=>∃(y:Z5),r=ZI y/\h=[]/\KB n.decls n.routines.length m2 y (4500*b2.sz))):Zi 281 [Yk n,Z6 us,YC s,Z6 os,Z6 ls] [] (fun r h=>∃(y:Z4),r=YC y/\h=[]/\KT n.decls n.routines.length mm y (4500*X1 s.kids+4420)):=by
 have Xy:=hn.decls
 have hkf:=hf.few Xy
 have hsa:=hf.alen
 refine ZF 62 Tryz.func281 (ar (iA (YJ n) fun b1=>iA (Xm s) fun b2=>iA [.i 0,.i 0,.i 0,nl,nl] fun b3=>ie (ar (iL (YE []) 0 2 fun v1=>Z0 (Zu 4 [3,2] (ic [] (Jp n.decls s.num) ?_))))))
 rintro _ _ ⟨v2,rfl,rfl⟩
 refine Z0 (Y7 (ab 0 (Y0 (fun fz gz m F h=>∃(k:Nat) (ks:List Z5) (u:Value),(k<=s.kids.length)/\(ks.length=k)/\(KK n.decls n.routines.length (Uv n.decls s.op s.num mm) ks (4500*X1 (s.kids.take k)+1470*k))/\F=sF [1,3,4,5,7,10] fz [(11,UF ks u),(12,Z6 (ZW n.decls s.num)),(13,.i k)]/\h=[Zh gz 2,Zh gz 3,Zh gz 4,.tail u 2]/\m=s.kids.length-k) _ _ _ ⟨0,[],v1,ob,ob,(KK.nil.le (K3 _)),rfl,rfl,rfl⟩ (wk [2,2,2,1] (fr (fc (x:=ZY (ZW n.decls s.num) v2) (Zc.forget _ _) (Y5 fl)))) ?_)))
 rintro m F h ⟨k,ks,u,Yb,Zl,Zw,rfl,rfl,rfl⟩
 refine Yf 3 [1] (iw (Vr s.kids) (ZZ ((k:Int)<(s.kids.length:Int)) (fun Za=>?_) (fun Za=>?_)))
 ·refine ak (aq (ab 1 (ar (iL (Z7 []) 0 1 fun v3=>?_))))
  refine Z0 (X4 (VY [2] (XP (fun fz gz F h=>∃(fds:LI),(Uv n.decls s.op s.num mm k=mm+fds.length)/\(fds.length<=3)/\F=sF [1,3,4,5,7,10,11,12,13] fz [(14,Z6 fds)]/\h=[Zh gz 1,Zh gz 2,Zh gz 3,Zh gz 4]) ?_ ?_)))
  ·refine ac (s.op==8) Zs (fun Zf=>?_) (fun Zf=>?_)
   ·refine aE 8 (ZO 4 8 [0,1,2,3] [3] ?_)
    obtain ⟨x1,Z3⟩:=Zr (ZW n.decls s.num) k (by have:=hf.k8 (by assumption);omega)
    have hcf:=VP Xy x1
    exact dx 4 (Zg none (k:Int) 1 (Y3 Z3)) (Zk 2 3 [5] (Z8 6 (Yq 6 [] [] [] (QW n.decls x1) (Zk 0 1 [7] (de (ZT ⟨ZX n.decls x1,(In (by assumption) Z3),ob,rfl,rfl⟩ (wk [1,1,1,1] fl)))))))
   exact ak (ZT ⟨[],(by rw [Io (by assumption)];rfl),ob,rfl,rfl⟩ (wk [1,1,1,1] fl))
  rintro F h ⟨fds,VH,A0,rfl,rfl⟩
  refine aE 15 (ZO 8 15 [0,1,2,3,4,5,6] [2,1] ?_)
  obtain ⟨x2,Zo⟩:=Zr s.kids k om
  have hkz:=Us Zo
  have hfk:=Da hf.kids Zo
  rw [V0,VH] at hfk
  have hok:=Ct.1 hop x2 (Y1 Zo)
  have hbt:=Ej Zo
  have hba:=Ek Zo
  refine dx 7 (Zg none (k:Int) 2 (U2 Zo)) (Zk 4 7 [8,9,10] (Z8 11 (dc 11 [] [] [] (Z22 n us fds x2 os ls mm bb (hf:=hfk) (hop:=hok) (hor:=hor) (ih:=ih)) ?_)))
  rintro _ _ ⟨y1,rfl,rfl,Y4⟩
  have hkb:=Y4
  exact Z8 12 (Wt 12 [] [] [ZI y1] (YE [y1]) (UC [y1]).symm 1 2 fun v4=>Yr 2 2 [] [(51,Xq [y1])] (Z8 13 (dp 13 4 [] [] (YE (ks++[y1])) (YE ks) (YE [y1]) u none 2 (Th _) (Th _) (Ew _) (by simp<;>omega) (by simp [J6,YE]) fun v5=>Zk 0 1 [14] (de (az (Z2 1 (ZG k (Z0 (ZH ⟨k+1,(ks++[y1]),v5,ob,ob,((Zw.snoc Zl (by rw [VH];exact hkb)).le om),rfl,rfl,rfl⟩ (wk [2,2,2,0] (fw (ZJ k fl))))))))))))
 refine ax 0 (aD 10 (ZO 3 10 [0,1,2,3,4,5,7] [1,1,1] (Z8 6 (dc 6 [] [1,1] [b2,b2] (VK s.args) ?_))))
 rintro _ _ ⟨v6,rfl,rfl⟩
 exact Zk 1 2 [8] (Z8 9 (YM 9 1 [] [] b3 [.i s.op,.i s.num,.i 0,ZY s.args v6,UF ks u] (de (ZD (r3 [] [.agg [.i s.op,.i s.num,.i 0,ZY s.args v6,UF ks u]] [0] [(b3,b3)] ⟨(Z4.mk s.op s.num 0 s.args ks),rfl,rfl,((KT.of (into:=0) hf h11 om om Zw).le (by have:=GC (xs:=s.kids) (k:=k) om;omega))⟩ (Zc.agg (.cons (lr _) (.cons (lr _) (.cons (lr _) (.cons (Zc.forget _ _) (.cons (Zc.forget _ _) .nil)))))))))))
theorem Z20 (n:Zq) (us:LI) (b:Z5) (os:LI) (ls:LI) (mm:Nat) (hn:Xe n) (hf:fB n.decls n.routines.length mm b) (hop:V5 WB b) (hul:us.length=mm) (hm:mm+4*b.sz<=100000) (hor:∀v∈os,0<=v/\v<(mm:Int)) (hol:os.length+4*b.sz<=730) (hal:ls.length+2000*b.sz<=1000000) (hbz:b.sz<=500) (ih:∀(us2:LI) (b2:Z5) (os2:LI) (as2:LI) (m2:Nat),(fB n.decls n.routines.length m2 b2)->(V5 WB b2)->(us2.length=m2)->(m2+4*b2.sz<=100000)->(∀v∈os2,0<=v/\v<(m2:Int))->(os2.length+4*b2.sz<=730)->(as2.length+2000*b2.sz<=1000000)->(b2.sz<=500)->(b2.sz<b.sz)->Zi 243 [Yk n,Z6 us2,ZI b2,Z6 os2,Z6 as2] [] (fun r h=>∃(y:Z5),r=ZI y/\h=[]/\KB n.decls n.routines.length m2 y (4500*b2.sz))):Zi 243 [Yk n,Z6 us,ZI b,Z6 os,Z6 ls] [] (fun r h=>∃(y:Z5),r=ZI y/\h=[]/\KB n.decls n.routines.length mm y (4500*b.sz)):=by
 have Xy:=hn.decls
 have hbe:=b.sz_eq
 have ZE:=V7 b
 obtain ⟨hfs,hr1,hr2⟩:=(D9 b).1 hf
 have hos:=BA.1 ((Ft b).1 hop)
 have hdn:=GS hos
 have hdl:=hdn b.steps.length (X9 _)
 rw [Vi] at hdl
 refine ZF 149 Tryz.func243 (ar (iA (YJ n) fun b1=>iA (X3 b) fun b2=>iA [nl,.i 0] fun b3=>ie (ar (iL (Zv []) 0 5 fun v1=>Z0 (Yc 1 (ic [] (VK us) ?_))))))
 rintro _ _ ⟨v2,rfl,rfl⟩
 refine Z0 (Yc 1 (ic [] (VK os) ?_))
 rintro _ _ ⟨v3,rfl,rfl⟩
 refine Z0 (Y7 (ab 0 (Y0 (fun fz gz m F h=>∃(k:Nat) (vs:LI) (w:Value) (ms:LI) (u:Value) (xs:List Z4) (v:Value),(k<=b.steps.length)/\(vs.length=mm+k)/\(CL n.decls n.routines.length mm xs k (4500*Yw (b.steps.take k)))/\(ms.length<=os.length+k)/\(∀v∈ms,0<=v/\v<((mm+k:Nat):Int))/\F=sF [4,5,7,10] fz [(11,YS xs v),(12,ZY vs w),(13,ZY ms u),(14,.i k)]/\h=[Zh gz 3,Zh gz 4,Zh gz 5,.tail u 1,.tail v 5,.tail w 1]/\m=b.steps.length-k) _ _ _ ⟨0,us,v2,os,v3,[],v1,ob,ob,CL.nil,ob,hor,rfl,rfl,rfl⟩ (wk [3,3,3,0,1,0] (fw (fr (Y5 fl)))) ?_)))
 rintro m F h ⟨k,vs,w,ms,u,xs,v,Yb,Zl,Zw,YN,Wj,rfl,rfl,rfl⟩
 refine Yf 3 [1] (iw (V3 b.steps) (ZZ ((k:Int)<(b.steps.length:Int)) (fun Za=>?_) (fun Za=>?_)))
 ·refine ak (aq (ab 1 (Zu 3 [1] ?_)))
  obtain ⟨x1,Z3⟩:=Zr b.steps k om
  have Xv:=BF Z3
  have hfS:=(EE x1).1 (Db hfs Z3)
  rw [hdn k om] at hfS
  have hoS:=(DG x1).1 (hos x1 (Y1 Z3))
  have htk:=ID Z3
  have hse:=(x1).sz_eq
  have hal4:=hfS.alen
  have hxl:=Zw.len
  have htl:=K0 b.steps (k+1)
  have hsd:=Py b.steps (k+1)
  have hul2:=IN (n:=((vs.length+1:Nat):Int)) (b.steps.drop (k+1)) []
  have hul3:=G4 (n:=((vs.length+1:Nat):Int)) (UI ((vs.length+1:Nat):Int) (b.steps.drop (k+1)) []) b.result
  simp only [Xn,V0] at hul2
  refine Zm (Zg none (k:Int) 5 (Wc Z3)) (Z2 1 (iA [.i 0,.i 0,.i 0,nl,nl] fun b4=>Zz 0 b4 (Xm x1) (ie (Yc 1 (iw (Yi vs) (Z0 (ar (TE 3 [(41,Z6 vs)] [3,0] (Zy [] (IA n vs x1 ob ob) (Z0 (Zu 2 [2] (ia (((vs.length+1:Nat):Int)) (((vs.length:Int))+(1)) (Z2 1 (ZG k (iL (Z7 []) 0 1 fun v4=>ZQ 0 [(49,Z6 [])] (Zy [] (Pf b ((vs.length+1:Nat):Int) (k+1) [] (hk:=om) (hz:=(by simp only [Xn];omega))) (Z2 1 (ic [] (Z3c (Ux ((vs.length+1:Nat):Int) (UI ((vs.length+1:Nat):Int) (b.steps.drop (k+1)) []) b.result) ls) ?_))))))))))))))))))
  rintro _ _ ⟨zs1,rfl,rfl,Y4⟩
  have hun:=Y4
  refine Z0 (ar (TE 6 [(55,Z6 vs),(57,Z6 ms)] [4,1] (ic [] (Z27 n vs x1 ms zs1 (mm+k) (hf:=hfS)) ?_)))
  rintro _ _ ⟨zs2,rfl,rfl,Ym⟩
  have hdu:=Ym
  have hq1:=Zw.cnts (op:=14) (.inl rfl) (vs:=zs2) (fun v hv=>hfS.args v (hdu.2 v hv))
  have hl1:=hq1.len
  refine ic [] (QX 14 zs2) ?_
  rintro _ _ ⟨v5,rfl,rfl⟩
  refine ZQ 0 [(60,WE (zs2.map (Zx 14)))] (ip 7 (Zv (xs++(zs2.map (Zx 14)))) (Zv xs) (Zv (zs2.map (Zx 14))) v none 5 (Xc _) (Xc _) (VD _) (by simp<;>omega) (by simp [WC,Zv]) fun v6=>Z0 (ar (TE 6 [(64,Z6 vs),(66,Z6 ms)] [6,3] (ic [] (Z23 n vs x1 ms zs1 (mm+k) b.sz (hf:=hfS) (h11:=hoS.1) (hop:=hoS.2) (hor:=Wj) (ih:=ih)) ?_))))
  rintro _ _ ⟨y1,rfl,rfl,YQ⟩
  have hkt:=YQ
  have hq2:=hq1.kt hkt
  have hl2:=hq2.len
  refine Ur [YC y1] (Zv [y1]) (Vc [y1]).symm 1 5 fun v7=>ZQ 0 [(69,WE [y1])] (ip 1 (Zv ((xs++(zs2.map (Zx 14)))++[y1])) (Zv (xs++(zs2.map (Zx 14)))) (Zv [y1]) v6 none 5 (Xc _) (Xc _) (VD _) (by simp<;>omega) (by simp [WC,Zv]) fun v8=>Z0 (ar (TE 5 [(72,Z6 vs),(74,Z6 ms)] [7,4] (ic [] (Z2k n vs x1 ms zs1 (mm+k) (hf:=hfS)) ?_))))
  rintro _ _ ⟨zs3,v9,rfl,rfl,YZ⟩
  have hla:=YZ
  refine Z0 (ar (TE 4 [(79,Z6 zs3)] [8,5] (ic [] (Z2l n x1 zs3 zs1 (mm+k) (hf:=hfS)) ?_)))
  rintro _ _ ⟨zs4,rfl,rfl,Xg⟩
  have hld:=Xg
  have hq3:=hq2.cnts (op:=15) (.inr rfl) (vs:=zs4) (fun v hv=>by have:=hfS.args v (hld.2 v hv);omega)
  have hl3:=hq3.len
  refine Z0 (Yc 2 (ic [] (QX 15 zs4) ?_))
  rintro _ _ ⟨v10,rfl,rfl⟩
  refine ZQ 0 [(84,WE (zs4.map (Zx 15)))] (ip 2 (Zv (((xs++(zs2.map (Zx 14)))++[y1])++(zs4.map (Zx 15)))) (Zv ((xs++(zs2.map (Zx 14)))++[y1])) (Zv (zs4.map (Zx 15))) v8 none 5 (Xc _) (Xc _) (VD _) (by simp<;>omega) (by simp [WC,Zv]) fun v11=>?_)
  refine Z0 (Y7 (ab 2 (Y0 (fun fz gz m F h=>∃(j:Nat) (m3:LI) (u3:Value) (v3:Value) (w3:Value),(j<=zs4.length)/\(m3.length<=os.length+k)/\(∀v∈m3,0<=v/\v<((mm+k:Nat):Int))/\F=sF [4,5,7,10,14,16,17,18,19] fz [(11,YS (((xs++(zs2.map (Zx 14)))++[y1])++(zs4.map (Zx 15))) v3),(12,ZY vs w3),(13,ZY m3 u3),(20,.i j)]/\h=[Zh gz 7,Zh gz 8,Zh gz 9,.tail u3 1,.tail v3 5,.tail w3 1]/\m=zs4.length-j) _ _ _ ⟨0,zs3,v9,v11,w,ob,ob,(fun v hv=>Wj v (hla.2 v hv)),rfl,rfl,rfl⟩ (wk [7,7,7,2,0,6] (fw (fr (Y5 fl)))) ?_)))
  rintro m F h ⟨j,m3,u3,v3,w3,VA,XL,XI,rfl,rfl,rfl⟩
  refine YO 2 (iw (Yi zs4) (ZZ ((j:Int)<(zs4.length:Int)) (fun Zf=>?_) (fun Zf=>?_)))
  ·refine ak (aq (ab 3 (az (Z2 3 ?_))))
   obtain ⟨x2,Zo⟩:=Zr zs4 j om
   refine Zm (Zg none (j:Int) 1 (Y3 Zo)) (ZQ 1 [(92,Z6 m3)] (ic [] (ML m3 x2) ?_))
   rintro _ _ ⟨v12,rfl,rfl⟩
   exact Z0 (az (Z2 1 (ZG j (Z0 (ZH ⟨j+1,(TB m3 x2),v12,v3,w3,ob,(V9 (DI _ _) XL),(fun v hv=>XI v (Cu hv)),rfl,rfl,rfl⟩ (wk [1,1,1,0,1,1] (fw (fr (ZJ j fl)))))))))
  refine ax 2 (Yc 2 (iL (Z7 [Yj n vs x1]) 1 1 fun v13=>ZQ 0 [(100,Z6 [Yj n vs x1])] (ip 6 (Z7 (vs++[Yj n vs x1])) (Z7 vs) (Z7 [Yj n vs x1]) w3 none 1 (YD _) (YD _) (W5 _) (by simp<;>omega) (by simp [W4,Z7]) fun v14=>Z0 (ar (Xi [4,5,7,10,11,12,13,14,16,17] [(108,.b (((Yj n vs x1) != 0)&&(decide ((vs.length:Int)∈zs1))))] (fun gz=>gz) ?_ ?_)))))
  ·refine Z2 3 (ib (b:=((Yj n vs x1) != 0)) 104 (fun Zd=>?_) (fun Zd=>?_))
   ·exact Z2 2 (Zy [] (Uw zs1 (vs.length:Int)) (Z0 (ZM 7 (Zp (decide ((vs.length:Int)∈zs1)) Zd fl))))
   exact Z0 (ZM 7 (Zp false Zd fl))
  refine ac (((Yj n vs x1) != 0)&&(decide ((vs.length:Int)∈zs1))) (p:=((Yj n vs x1)≠0)/\((vs.length:Int)∈zs1)) (YK Y6 dq) (fun ZA=>?_) (fun ZA=>?_)
  ·exact az (Z2 2 (iL (Z7 [(vs.length:Int)]) 1 1 fun v15=>ZQ 0 [(111,Z6 [(vs.length:Int)])] (ip 6 (Z7 (m3++[(vs.length:Int)])) (Z7 m3) (Z7 [(vs.length:Int)]) u3 none 1 (YD _) (YD _) (W5 _) (by simp<;>omega) (by simp [W4,Z7]) fun v16=>Z0 (az (Z2 1 (ZG k (Z0 (ZH ⟨k+1,(vs++[Yj n vs x1]),v14,(m3++[(vs.length:Int)]),v16,(((xs++(zs2.map (Zx 14)))++[y1])++(zs4.map (Zx 15))),v3,ob,ob,(by first|exact hq3.le om|exact (hq3.cnt (op:=15) (.inr rfl) om).le om),ob,(by first|exact Xu (fun v hv=>by have:=XI v hv;omega) om|exact (fun v hv=>by have:=XI v hv;omega)),rfl,rfl,rfl⟩ (wk [4,4,4,0,3,1] (fw (fr (ZJ k fl))))))))))))
  refine ar (YG ((Yj n vs x1) != 0) Y6 (fun Yl=>?_) (fun Yl=>?_))
  ·exact az (Z2 2 (Zy [] (Jq 15 (vs.length:Int)) (Ur [YC (Zx 15 (vs.length:Int))] (Zv [(Zx 15 (vs.length:Int))]) (Vc [(Zx 15 (vs.length:Int))]).symm 1 5 fun v17=>ZQ 0 [(118,WE [(Zx 15 (vs.length:Int))])] (ip 7 (Zv ((((xs++(zs2.map (Zx 14)))++[y1])++(zs4.map (Zx 15)))++[(Zx 15 (vs.length:Int))])) (Zv (((xs++(zs2.map (Zx 14)))++[y1])++(zs4.map (Zx 15)))) (Zv [(Zx 15 (vs.length:Int))]) v3 none 5 (Xc _) (Xc _) (VD _) (by simp<;>omega) (by simp [WC,Zv]) fun v18=>Z0 (az (Z2 1 (ZG k (Z0 (ZH ⟨k+1,(vs++[Yj n vs x1]),v14,m3,u3,((((xs++(zs2.map (Zx 14)))++[y1])++(zs4.map (Zx 15)))++[(Zx 15 (vs.length:Int))]),v18,ob,ob,(by first|exact hq3.le om|exact (hq3.cnt (op:=15) (.inr rfl) om).le om),ob,(by first|exact Xu (fun v hv=>by have:=XI v hv;omega) om|exact (fun v hv=>by have:=XI v hv;omega)),rfl,rfl,rfl⟩ (wk [4,4,4,4,0,1] (fw (fr (ZJ k fl)))))))))))))
  exact ak (az (Z2 1 (ZG k (Z0 (ZH ⟨k+1,(vs++[Yj n vs x1]),v14,m3,u3,(((xs++(zs2.map (Zx 14)))++[y1])++(zs4.map (Zx 15))),v3,ob,ob,(by first|exact hq3.le om|exact (hq3.cnt (op:=15) (.inr rfl) om).le om),ob,(by first|exact Xu (fun v hv=>by have:=XI v hv;omega) om|exact (fun v hv=>by have:=XI v hv;omega)),rfl,rfl,rfl⟩ (wk [2,2,2,2,2,0] (fw (fr (ZJ k fl)))))))))
 have hxl:=Zw.len
 have htl:=K0 b.steps k
 refine ax 0 (Yf 3 [1] ?_)
 obtain ⟨x3,YP⟩:=Zr vs b.result.toNat om
 refine Zm (Zg (some w) b.result 1 (Y3 YP)) (Xi [7,10,11] [(138,.b ((x3 != 0)&&((decide (b.result∈ls))||(!(decide (b.result∈ms))))))] (fun gz=>gz) ?_ ?_)
 ·refine Z2 3 (ib (b:=(x3 != 0)) 126 (fun ZC=>?_) (fun ZC=>?_))
  ·refine ZL 3 [1] (Zy [] (Uw ls b.result) (Z2 1 (ib (b:=(decide (b.result∈ls))) 131 (fun YB=>?_) (fun YB=>?_))))
   ·exact Z0 (ZM 6 (Zp true (And.intro ZC YB) fl))
   exact TE 3 [(132,Z6 ms)] [1] (Zy [] (Uw ms b.result) (Z0 (ZM 6 (Zp (!(decide (b.result∈ms))) (And.intro ZC YB) fl))))
  exact Z0 (ZM 6 (Zp false ZC fl))
 refine ac ((x3 != 0)&&((decide (b.result∈ls))||(!(decide (b.result∈ms))))) (p:=(x3≠0)/\((b.result∈ls)∨(¬(b.result∈ms)))) (YK Y6 (Yh dq (Yn dq))) (fun Xd=>?_) (fun Xd=>?_)
 ·exact az (ZL 3 [1] (Zy [] (Jq 14 b.result) (Ur [YC (Zx 14 b.result)] (Zv [Zx 14 b.result]) (Vc [Zx 14 b.result]).symm 1 5 fun v19=>ZQ 0 [(143,WE [Zx 14 b.result])] (ip 5 (Zv (xs++[Zx 14 b.result])) (Zv xs) (Zv [Zx 14 b.result]) v none 5 (Xc _) (Xc _) (VD _) (by simp<;>omega) (by simp [WC,Zv]) fun v20=>Z0 (Zu 4 [3] (Zz 2 b3 [YS (xs++[Zx 14 b.result]) v20,.i b.result] (ie (ZD (r3 [] [.agg [YS (xs++[Zx 14 b.result]) v20,.i b.result]] [0] [(b3,b3)] ⟨(Z5.mk (xs++[Zx 14 b.result]) b.result),rfl,rfl,(((Zw.cnt (op:=14) (.inl rfl) om).block om).le (by have:=K0 b.steps k;omega))⟩ (Zc.agg (.cons (Zc.forget _ _) (.cons (lr _) .nil))))))))))))
 exact ak (Zu 4 [1] (Zz 0 b3 [YS xs v,.i b.result] (ie (ZD (r3 [] [.agg [YS xs v,.i b.result]] [0] [(b3,b3)] ⟨(Z5.mk xs b.result),rfl,rfl,((Zw.block om).le (by have:=K0 b.steps k;omega))⟩ (Zc.agg (.cons (Zc.forget _ _) (.cons (lr _) .nil))))))))
theorem Z1z (n:Zq) (us:LI) (b:Z5) (os:LI) (ls:LI) (mm:Nat) (hn:Xe n:=by exact ob) (hf:fB n.decls n.routines.length mm b:=by exact ob) (hop:V5 WB b:=by exact ob) (hul:us.length=mm:=by exact ob) (hm:mm+4*b.sz<=100000:=by exact ob) (hor:∀v∈os,0<=v/\v<(mm:Int)) (hol:os.length+4*b.sz<=730:=by exact ob) (hal:ls.length+2000*b.sz<=1000000:=by exact ob) (hbz:b.sz<=500:=by exact ob):Zi 243 [Yk n,Z6 us,ZI b,Z6 os,Z6 ls] [] (fun r h=>∃(y:Z5),r=ZI y/\h=[]/\KB n.decls n.routines.length mm y (4500*b.sz)):=by
 have key:∀k:Nat,∀(us2:LI) (b2:Z5) (os2:LI) (as2:LI) (m2:Nat),(fB n.decls n.routines.length m2 b2)->(V5 WB b2)->(us2.length=m2)->(m2+4*b2.sz<=100000)->(∀v∈os2,0<=v/\v<(m2:Int))->(os2.length+4*b2.sz<=730)->(as2.length+2000*b2.sz<=1000000)->(b2.sz<=500)->(b2.sz<k)->Zi 243 [Yk n,Z6 us2,ZI b2,Z6 os2,Z6 as2] [] (fun r h=>∃(y:Z5),r=ZI y/\h=[]/\KB n.decls n.routines.length m2 y (4500*b2.sz)):=by
  intro k
  induction k with
  | zero=>intro us2 b2 os2 as2 m2 h1 h2 h3 h4 h5 h6 h7 h8 h9;omega
  | succ k ih=>intro us2 b2 os2 as2 m2 h1 h2 h3 h4 h5 h6 h7 h8 h9;exact Z20 n us2 b2 os2 as2 m2 hn h1 h2 h3 h4 h5 h6 h7 h8 fun us3 b3 os3 as3 m3 q1 q2 q3 q4 q5 q6 q7 q8 q9=>ih us3 b3 os3 as3 m3 q1 q2 q3 q4 q5 q6 q7 q8 om
 exact key (b.sz+1) us b os ls mm hf hop hul hm hor hol hal hbz om
theorem Z21 (n:Zq) (rt:ZV) (qz:Nat) (hn:Xe n:=by exact ob) (hr:RF n.decls n.routines.length qz WB rt:=by exact ob) (hqz:qz<=181:=by exact ob):Zi 191 [Yk n,UK rt] [] (fun r h=>∃(y:Z5),r=ZI y/\h=[]/\KB n.decls n.routines.length rt.params.length y (4500*qz+10)):=by
 have hrp:rt.params.length<=3:=(T3.bd (f:=⟨rt.params,rt.result,default⟩) hr.sig).1
 have hrl:=hr.lent.1
 have hrz:=hr.body.2
 refine ZF 65 Tryz.func191 (ar (iA (YJ n) fun b1=>iA (Tm rt) fun b2=>iA [nl,.i 0] fun b3=>ie (Zu 4 [1,1] (iw (Yi rt.params) (Zy [] (Pt rt.body (rt.params.length:Int)) ?_)))))
 have hub:=G3 (n:=(rt.params.length:Int)) rt.body []
 simp only [Xn,V0] at hub
 refine Z0 (ar (iL (Z7 []) 0 1 fun v1=>Z0 (ar (iL (Z7 []) 0 1 fun v2=>?_))))
 refine Z0 (Y7 (ab 0 (Y0 (fun fz gz m F h=>∃(k:Nat) (os:LI) (u:Value) (dr:LI) (w:Value),(k<=rt.params.length)/\(os.length<=k)/\(dr.length<=k)/\(∀v∈os,0<=v/\v<(rt.params.length:Int))/\(∀v∈dr,0<=v/\v<(rt.params.length:Int))/\F=sF [2,3,4,5] fz [(6,ZY os u),(7,ZY dr w),(8,.i k)]/\h=[Zh gz 2,Zh gz 3,Zh gz 4,.tail u 1,.tail w 1]/\m=rt.params.length-k) _ _ _ ⟨0,[],v1,[],v2,ob,ob,ob,(fun v hv=>by cases hv),(fun v hv=>by cases hv),rfl,rfl,rfl⟩ (wk [2,2,2,1,0] (fw (Y5 fl))) ?_)))
 rintro m F h ⟨k,os,u,dr,w,Yb,Zl,Zw,YN,Wj,rfl,rfl,rfl⟩
 refine Yf 3 [1] (iw (Yi rt.params) (ZZ ((k:Int)<(rt.params.length:Int)) (fun Za=>?_) (fun Za=>?_)))
 ·refine ak (aq (ab 1 (Zu 3 [1] ?_)))
  obtain ⟨x1,Z3⟩:=Zr rt.params k om
  refine Zm (Zg none (k:Int) 1 (Y3 Z3)) (Xi [2,3,4,5,6,7,8] [(37,.b ((x1 != 0)&&(!(decide ((k:Int)∈rt.lent)))))] (fun gz=>gz) ?_ ?_)
  ·refine Z2 3 (ib (b:=(x1 != 0)) 31 (fun Zd=>?_) (fun Zd=>?_))
   ·exact ZL 3 [1] (Zy [] (Uw rt.lent (k:Int)) (Z0 (ZM 5 (Zp (!(decide ((k:Int)∈rt.lent))) Zd fl))))
   exact Z0 (ZM 5 (Zp false Zd fl))
  refine ac ((x1 != 0)&&(!(decide ((k:Int)∈rt.lent)))) (p:=(x1≠0)/\(¬((k:Int)∈rt.lent))) (YK Y6 (Yn dq)) (fun Zf=>?_) (fun Zf=>?_)
  ·refine Yc 2 (Zy [] (Uw (UH (rt.params.length:Int) rt.body []) (k:Int)) (ie (We ((k:Int)∈(UH (rt.params.length:Int) rt.body [])) (fun ZA=>?_) (fun ZA=>?_))))
   ·exact az (Z2 2 (iL (Z7 [(k:Int)]) 1 1 fun v3=>ZQ 0 [(43,Z6 [(k:Int)])] (ip 4 (Z7 (os++[(k:Int)])) (Z7 os) (Z7 [(k:Int)]) u none 1 (YD _) (YD _) (W5 _) (by simp<;>omega) (by simp [W4,Z7]) fun v4=>Z0 (az (Z2 1 (ZG k (Z0 (ZH ⟨k+1,(os++[(k:Int)]),v4,dr,w,ob,ob,ob,(by first|exact YN|exact Xu YN om),(by first|exact Wj|exact Xu Wj om),rfl,rfl,rfl⟩ (wk [2,2,2,0,1] (fw (ZJ k fl)))))))))))
   exact az (Z2 2 (iL (Z7 [(k:Int)]) 1 1 fun v5=>ZQ 0 [(47,Z6 [(k:Int)])] (ip 5 (Z7 (dr++[(k:Int)])) (Z7 dr) (Z7 [(k:Int)]) w none 1 (YD _) (YD _) (W5 _) (by simp<;>omega) (by simp [W4,Z7]) fun v6=>Z0 (az (Z2 1 (ZG k (Z0 (ZH ⟨k+1,os,u,(dr++[(k:Int)]),v6,ob,ob,ob,(by first|exact YN|exact Xu YN om),(by first|exact Wj|exact Xu Wj om),rfl,rfl,rfl⟩ (wk [2,2,2,2,0] (fw (ZJ k fl)))))))))))
  exact ak (az (Z2 1 (ZG k (Z0 (ZH ⟨k+1,os,u,dr,w,ob,ob,ob,(by first|exact YN|exact Xu YN om),(by first|exact Wj|exact Xu Wj om),rfl,rfl,rfl⟩ (ZM 5 (fw (ZJ k fl))))))))
 refine ax 0 (Zu 6 [2,1,1] (iL (Z7 []) 0 1 fun v7=>ZQ 0 [(54,Z6 os),(55,Z6 [])] (ic [] (Z1z n rt.params rt.body os [] rt.params.length (hf:=hr.body.1) (hop:=hr.op) (hor:=YN) (hal:=(by simp only [Xn];omega))) ?_)))
 rintro _ _ ⟨y1,rfl,rfl,YQ⟩
 have hkb:=YQ
 have hkl:=hkb.len
 refine iA [nl,.i 0] fun b4=>Zz 0 b4 (X3 y1) (ie (aD 9 (BZ 4 9 [0,2,3,5,6] [(57,Z6 dr)] [0,0] (Z8 1 (dc 1 [] [0,0] [b4,b4] (QX 15 dr) ?_)))))
 rintro _ _ ⟨v8,rfl,rfl⟩
 exact Z8 4 (dp 4 0 [0] [b4] (Zv ((dr.map (Zx 15))++y1.steps)) (Zv (dr.map (Zx 15))) (Zv y1.steps) v8 none 5 (Xc _) (Xc _) (VD _) (by simp<;>omega) (by simp [WC,Zv]) fun v9=>Zk 1 2 [7] (Z8 8 (YM 8 3 [] [] b3 [YS ((dr.map (Zx 15))++y1.steps) v9,.i y1.result] (de (ZD (r3 [] [.agg [YS ((dr.map (Zx 15))++y1.steps) v9,.i y1.result]] [0] [(b3,b3)] ⟨(Z5.mk ((dr.map (Zx 15))++y1.steps) y1.result),rfl,rfl,((hkb.put1 (op:=15) (.inr rfl) Wj).le om)⟩ (Zc.agg (.cons (Zc.forget _ _) (.cons (lr _) .nil)))))))))
theorem Z24 (n:Zq) (qz:Nat) (hn:FO n qz WB:=by exact ob) (hqz:qz<=181:=by exact ob):Zi 148 [Yk n] [] (fun r h=>∃(n2:Zq),r=Yk n2/\h=[]/\FO n2 (4500*qz+10) Vk):=by
 have hnl:=hn.fn.len
 have Xy:=hn.fn.decls.ok
 have hok:=hn.fn.ok
 refine ZF 36 Tryz.func148 (ar (iA (YJ n) fun b1=>iA [nl,nl] fun b2=>ie (Zu 2 [1] (Zy [] (AS n.decls) (iL (Yy []) 0 5 fun v1=>Z2 1 (iA [nl,nl] fun b3=>?_))))))
 refine Zz 0 b3 [Ya n.decls,Wd [] v1] (ie (Y7 (ab 0 (Y0 (fun fz gz m F h=>∃(k:Nat) (rs:List ZV) (u:Value),(k<=n.routines.length)/\(rs.length=k)/\(∀r∈rs,RF n.decls n.routines.length (4500*qz+10) Vk r)/\F=sF [1,2,3] fz [(4,.i k)]/\h=[.obj b3 [Ya n.decls,Wd rs u],Zh gz 2,Zh gz 3,.tail u 5]/\m=n.routines.length-k) _ _ _ ⟨0,[],v1,ob,ob,(fun r hr=>by cases hr),rfl,rfl,rfl⟩ (wk [0,1,1,0] (Y5 fl)) ?_))))
 rintro m F h ⟨k,rs,u,Yb,Zl,Zw,rfl,rfl,rfl⟩
 refine Yf 3 [2] (iw (Vl n.routines) (ZZ ((k:Int)<(n.routines.length:Int)) (fun Za=>?_) (fun Za=>?_)))
 ·refine ak (aq (ab 1 (aE 19 (ZO 14 19 [0,1,2,3,4] [0,2] ?_))))
  obtain ⟨x1,Z3⟩:=Zr n.routines k om
  have hrf:=hn.rf (Y1 Z3)
  have hrp:(x1).params.length<=3:=(T3.bd (f:=⟨(x1).params,(x1).result,default⟩) hrf.sig).1
  have hrl:=hrf.lent.1
  have hrz:=hrf.body.2
  refine dx 5 (Zg none (k:Int) 5 (Wm Z3)) (ZO 8 13 [6,7,8,9,10] [2,2] (dx 11 (Zg none (k:Int) 5 (Wm Z3)) (Zk 6 7 [12] (Z8 13 (dc 13 [] [2,0] [b1,b3] (Z21 n x1 qz (hr:=hrf)) ?_)))))
  rintro _ _ ⟨y1,rfl,rfl,Y4⟩
  have hkb:=Y4
  exact Z8 14 (Yq 14 [] [0] [b3] (CF x1 y1 (hp:=om) (hl:=om)) (Z8 15 (dL 15 [0] [b3] (Yy [ZV.mk x1.params x1.lent x1.result y1]) 1 5 fun v2=>Yr 3 3 [] [(32,Tz [ZV.mk x1.params x1.lent x1.result y1])] (Z8 16 (dp 16 4 [] [] (Yy (rs++[ZV.mk x1.params x1.lent x1.result y1])) (Yy rs) (Yy [ZV.mk x1.params x1.lent x1.result y1]) u none 5 (U3 _) (U3 _) (Jb _) (by simp<;>omega) (by simp [JK,Yy]) fun v3=>Zk 1 2 [17] (Z8 18 (YM 18 2 [] [] b3 [Ya n.decls,Wd (rs++[ZV.mk x1.params x1.lent x1.result y1]) v3] (de (az (Z2 1 (ZG k (Z0 (ZH ⟨k+1,(rs++[ZV.mk x1.params x1.lent x1.result y1]),v3,ob,ob,(Xu Zw (by first|exact hrf.with hkb.fb hkb.sz hkb.op|(rw [Z5.eta];exact hrf.with hkb.fb hkb.sz hkb.op))),rfl,rfl,rfl⟩ (wk [0,2,2,0] (ZJ k fl)))))))))))))))
 exact ax 0 (Zu 1 [0] (Zz 1 b2 [Ya n.decls,Wd rs u] (ie (ZD (r3 [] [.agg [Ya n.decls,Wd rs u]] [0] [(b2,b2)] ⟨(Zq.mk n.decls rs),rfl,rfl,(FO.fin hn.fn om Zw).1⟩ (Zc.agg (.cons (lr _) (.cons (Zc.forget _ _) .nil))))))))
theorem Z1w (n:Zq) (us:LI) (s:Z4) (mm:Nat) (hn:Xe n:=by exact ob) (hf:FS n.decls n.routines.length mm s:=by exact ob) (hvl:us.length=mm:=by exact ob) (hm:mm<=100000000:=by exact ob):Zi 245 [Yk n,Z6 us,YC s] [] (fun r h=>∃(zs:LI),r=Z6 zs/\h=[]/\zs.length<=s.args.length/\∀z∈zs,z∈s.args):=by
 have hal:=hf.alen
 refine ZF 31 Tryz.func245 (ar (iA (YJ n) fun b1=>iA (Xm s) fun b2=>Z0 (ar (iL (Z7 []) 0 1 fun v1=>?_))))
 refine Z0 (Y7 (ab 0 (Y0 (fun fz gz m F h=>∃(k:Nat) (zs:LI) (u:Value),(k<=s.args.length)/\(zs.length<=k)/\(∀z∈zs,z∈s.args)/\F=sF [1,3,5] fz [(7,ZY zs u),(8,.i k)]/\h=[Zh gz 1,Zh gz 2,.tail u 1]/\m=s.args.length-k) _ _ _ ⟨0,[],v1,ob,ob,(fun z hz=>by cases hz),rfl,rfl,rfl⟩ (wk [1,1,0] (fr (Y5 fl))) ?_)))
 rintro m F h ⟨k,zs,u,Yb,Zl,Zw,rfl,rfl,rfl⟩
 refine Yf 3 [0] (iw (Yi s.args) (ZZ ((k:Int)<(s.args.length:Int)) (fun Za=>?_) (fun Za=>?_)))
 ·obtain ⟨a1,ha1⟩:=Zr s.args k om
  have har:=hf.args a1 (Y1 ha1)
  refine ak (aq (ab 1 (Zu 4 [1,0] (Zy [] (FW n us s k a1 (hnum:=hf.call) (ha:=ha1)) (ie (ac (KA n us s.op s.num a1 k) Iff.rfl (fun Zf=>?_) (fun Zf=>?_)))))))
  ·exact az (ZL 4 [0] (Zm (Zg none (k:Int) 1 (Y3 ha1)) (Z2 1 (iL (Z7 [a1]) 1 1 fun v2=>ZQ 0 [(28,Z6 [a1])] (ip 3 (Z7 (zs++[a1])) (Z7 zs) (Z7 [a1]) u none 1 (YD _) (YD _) (W5 _) (by simp<;>omega) (by simp [W4,Z7]) fun v3=>Z0 (az (Z2 1 (ZG k (Z0 (ZH ⟨k+1,(zs++[a1]),v3,ob,ob,(by first|exact Zw|exact Xu Zw (Y1 ha1)),rfl,rfl,rfl⟩ (wk [2,2,0] (fr (ZJ k fl)))))))))))))
  exact ak (az (Z2 1 (ZG k (Z0 (ZH ⟨k+1,zs,u,ob,ob,(by first|exact Zw|exact Xu Zw (Y1 ha1)),rfl,rfl,rfl⟩ (ZM 3 (fr (ZJ k fl))))))))
 exact ax 0 (ar (Zt (r2 [] [ZY zs u] ⟨zs,rfl,rfl,⟨by omega,Zw⟩⟩ (Zc.forget _ _))))
theorem Z2i (n:Zq) (us:LI) (s:Z4) (mm:Nat) (bb:Nat) (hn:Xe n:=by exact ob) (hf:FS n.decls n.routines.length mm s:=by exact ob) (h11:s.op<=11:=by exact ob) (hop:Qz WB s.kids:=by exact ob) (hul:us.length=mm:=by exact ob) (hm:mm+4*s.sz<=100000:=by exact ob) (hbz:s.sz<=500:=by exact ob) (hb:s.sz<=bb:=by exact ob) (ih:∀(us2:LI) (b2:Z5) (mi2:LI) (m2:Nat),(fB n.decls n.routines.length m2 b2)->(V5 WB b2)->(us2.length=m2)->(m2+4*b2.sz<=100000)->(∀v∈mi2,0<=v/\v<(m2:Int))->(mi2.length<=3)->(b2.sz<=500)->(b2.sz<bb)->Zi 192 [Yk n,Z6 us2,ZI b2,Z6 mi2] [] (fun r h=>∃(y:Z5),r=ZI y/\h=[]/\KB n.decls n.routines.length m2 y (60*b2.sz))):Zi 246 [Yk n,Z6 us,YC s] [] (fun r h=>∃(y:Z4),r=YC y/\h=[]/\KT n.decls n.routines.length mm y (60*X1 s.kids+23)):=by
 have Xy:=hn.decls
 have hkf:=hf.few Xy
 have hsa:=hf.alen
 refine ZF 72 Tryz.func246 (ar (iA (YJ n) fun b1=>iA (Xm s) fun b2=>iA [.i 0,.i 0,.i 0,nl,nl] fun b3=>ie (ar (iL (YE []) 0 2 fun v1=>Z0 (Zu 4 [3,2] (ic [] (Jp n.decls s.num) ?_))))))
 rintro _ _ ⟨v2,rfl,rfl⟩
 refine Z0 (Y7 (ab 0 (Y0 (fun fz gz m F h=>∃(k:Nat) (ks:List Z5) (u:Value),(k<=s.kids.length)/\(ks.length=k)/\(KK n.decls n.routines.length (Uv n.decls s.op s.num mm) ks (60*X1 (s.kids.take k)+6*k))/\F=sF [1,3,5,6] fz [(7,UF ks u),(8,Z6 (ZW n.decls s.num)),(9,.i k)]/\h=[Zh gz 2,Zh gz 3,Zh gz 4,.tail u 2]/\m=s.kids.length-k) _ _ _ ⟨0,[],v1,ob,ob,(KK.nil.le (K3 _)),rfl,rfl,rfl⟩ (wk [2,2,2,1] (fr (fc (x:=ZY (ZW n.decls s.num) v2) (Zc.forget _ _) (Y5 fl)))) ?_)))
 rintro m F h ⟨k,ks,u,Yb,Zl,Zw,rfl,rfl,rfl⟩
 refine Yf 3 [1] (iw (Vr s.kids) (ZZ ((k:Int)<(s.kids.length:Int)) (fun Za=>?_) (fun Za=>?_)))
 ·refine ak (aq (ab 1 (ar (iL (Z7 []) 0 1 fun v3=>?_))))
  refine Z0 (X4 (VY [2] (XP (fun fz gz F h=>∃(fds:LI),(Uv n.decls s.op s.num mm k=mm+fds.length)/\(fds.length<=3)/\F=sF [1,3,5,6,7,8,9] fz [(10,Z6 fds)]/\h=[Zh gz 1,Zh gz 2,Zh gz 3,Zh gz 4]) ?_ ?_)))
  ·refine ac (s.op==8) Zs (fun Zf=>?_) (fun Zf=>?_)
   ·refine aE 8 (ZO 4 8 [0,1,2,3] [3] ?_)
    obtain ⟨x1,Z3⟩:=Zr (ZW n.decls s.num) k (by have:=hf.k8 (by assumption);omega)
    have hcf:=VP Xy x1
    exact dx 4 (Zg none (k:Int) 1 (Y3 Z3)) (Zk 2 3 [5] (Z8 6 (Yq 6 [] [] [] (QW n.decls x1) (Zk 0 1 [7] (de (ZT ⟨ZX n.decls x1,(In (by assumption) Z3),ob,rfl,rfl⟩ (wk [1,1,1,1] fl)))))))
   exact ak (ZT ⟨[],(by rw [Io (by assumption)];rfl),ob,rfl,rfl⟩ (wk [1,1,1,1] fl))
  rintro F h ⟨fds,VH,A0,rfl,rfl⟩
  refine Yc 2 (iw (Yi us) (ic [] (MC fds us.length) ?_))
  rintro _ _ ⟨xs1,rfl,rfl,Y4⟩
  have hhf:=Y4
  refine Z0 (aD 13 (ZO 7 13 [0,1,2,4,5,6] [2,1] ?_))
  obtain ⟨x2,Zo⟩:=Zr s.kids k om
  have hkz:=Us Zo
  have hfk:=Da hf.kids Zo
  rw [V0,VH] at hfk
  have hok:=Ct.1 hop x2 (Y1 Zo)
  have hbt:=Ej Zo
  have hba:=Ek Zo
  refine dx 7 (Zg none (k:Int) 2 (U2 Zo)) (Zk 4 6 [8,9] (KC (fun fz gz F h=>∃(y1:Z5) (b4:Nat),(KB n.decls n.routines.length (mm+fds.length) y1 (60*x2.sz))/\F=sF [1,3,5,6,7,8,9,11] fz [(12,.p b4 0)]/\h=[.obj b4 (X3 y1),Zh gz 0,Zh gz 1,Zh gz 2,Zh gz 3]) ?_ ?_))
  ·refine Vq 3 11 ?_ ?_
   ·refine dc 3 [] [1,2] [b2,b1] (QE us fds) ?_
    rintro _ _ ⟨v4,rfl,rfl⟩
    refine Yr 3 3 [] [(44,Z6 (us++fds))] (Vq 10 11 ?_ ?_)
    ·refine dc 10 [] [] [] (ih (us++fds) x2 xs1 (mm+fds.length) hfk hok (by rw [Yx,hul]) ob (fun v hv=>by have:=hhf.2 v hv;omega) ob ob ob) ?_
     rintro _ _ ⟨y1,rfl,rfl,Ym⟩
     have hkb:=Ym
     have hkl:=hkb.len
     exact Z8 11 (dA 11 [] [] [nl,.i 0] fun b4=>Z8 12 (YM 12 0 [] [] b4 (X3 y1) (de (ZT ⟨_,b4,(by assumption),rfl,rfl⟩ (wk [0,1,1,1,1] fl)))))
    refine dA 11 [1,2] [b2,b1] [nl,.i 0] fun b5=>Z8 10 (dc 10 [] [] [] (ih (us++fds) x2 xs1 (mm+fds.length) hfk hok (by rw [Yx,hul]) ob (fun v hv=>by have:=hhf.2 v hv;omega) ob ob ob) ?_)
    rintro _ _ ⟨y2,rfl,rfl,YQ⟩
    have hkb:=YQ
    have hkl:=hkb.len
    exact Z8 12 (YM 12 0 [] [] b5 (X3 y2) (de (ZT ⟨_,b5,(by assumption),rfl,rfl⟩ (wk [0,1,1,1,1] fl))))
   refine dA 11 [1,2] [b2,b1] [nl,.i 0] fun b6=>Z8 3 (dc 3 [] [2,3] [b2,b1] (QE us fds) ?_)
   rintro _ _ ⟨v5,rfl,rfl⟩
   refine Yr 2 2 [] [(44,Z6 (us++fds))] (Z8 10 (dc 10 [] [] [] (ih (us++fds) x2 xs1 (mm+fds.length) hfk hok (by rw [Yx,hul]) ob (fun v hv=>by have:=hhf.2 v hv;omega) ob ob ob) ?_))
   rintro _ _ ⟨y3,rfl,rfl,YZ⟩
   have hkb:=YZ
   have hkl:=hkb.len
   exact Z8 12 (YM 12 1 [] [] b6 (X3 y3) (de (ZT ⟨_,b6,(by assumption),rfl,rfl⟩ (wk [0,1,1,1,1] fl))))
  rintro F h ⟨y1,b4,Ym,rfl,rfl⟩
  have hkb:=Ym
  have hkl:=hkb.len
  refine aE 12 (ZO 6 12 [0,1,3,4,6,7] [0,0] (Z8 2 (dc 2 [] [0,0] [b4,b4] (QX 14 xs1) ?_)))
  rintro _ _ ⟨v6,rfl,rfl⟩
  exact Z8 5 (dp 5 0 [0] [b4] (Zv ((xs1.map (Zx 14))++y1.steps)) (Zv (xs1.map (Zx 14))) (Zv y1.steps) v6 none 5 (Xc _) (Xc _) (VD _) (by simp<;>omega) (by simp [WC,Zv]) fun v7=>Yr 3 4 [8] [(60,.agg [WE ((xs1.map (Zx 14))++y1.steps),.i y1.result])] (Z8 9 (Wt 9 [] [] [ZI (Z5.mk ((xs1.map (Zx 14))++y1.steps) y1.result)] (YE [Z5.mk ((xs1.map (Zx 14))++y1.steps) y1.result]) (UC [Z5.mk ((xs1.map (Zx 14))++y1.steps) y1.result]).symm 1 2 fun v8=>Yr 2 2 [] [(61,Xq [Z5.mk ((xs1.map (Zx 14))++y1.steps) y1.result])] (Z8 10 (dp 10 6 [] [] (YE (ks++[Z5.mk ((xs1.map (Zx 14))++y1.steps) y1.result])) (YE ks) (YE [Z5.mk ((xs1.map (Zx 14))++y1.steps) y1.result]) u none 2 (Th _) (Th _) (Ew _) (by simp<;>omega) (by simp [J6,YE]) fun v9=>Zk 0 1 [11] (de (az (Z2 1 (ZG k (Z0 (ZH ⟨k+1,(ks++[Z5.mk ((xs1.map (Zx 14))++y1.steps) y1.result]),v9,ob,ob,((Zw.snoc Zl (by rw [VH];exact hkb.put1 (op:=14) (.inl rfl) (fun v hv=>by have:=hhf.2 v hv;omega))).le om),rfl,rfl,rfl⟩ (wk [4,4,4,0] (fw (ZJ k fl))))))))))))))
 refine ax 0 (aD 10 (ZO 3 10 [0,1,2,3,4,5,7] [1,1,1] (Z8 6 (dc 6 [] [1,1] [b2,b2] (VK s.args) ?_))))
 rintro _ _ ⟨v10,rfl,rfl⟩
 exact Zk 1 2 [8] (Z8 9 (YM 9 1 [] [] b3 [.i s.op,.i s.num,.i 0,ZY s.args v10,UF ks u] (de (ZD (r3 [] [.agg [.i s.op,.i s.num,.i 0,ZY s.args v10,UF ks u]] [0] [(b3,b3)] ⟨(Z4.mk s.op s.num 0 s.args ks),rfl,rfl,((KT.of (into:=0) hf h11 om om Zw).le (by have:=GC (xs:=s.kids) (k:=k) om;omega))⟩ (Zc.agg (.cons (lr _) (.cons (lr _) (.cons (lr _) (.cons (Zc.forget _ _) (.cons (Zc.forget _ _) .nil)))))))))))
theorem Z2h (n:Zq) (us:LI) (b:Z5) (mi:LI) (mm:Nat) (hn:Xe n) (hf:fB n.decls n.routines.length mm b) (hop:V5 WB b) (hul:us.length=mm) (hm:mm+4*b.sz<=100000) (hmr:∀v∈mi,0<=v/\v<(mm:Int)) (hml:mi.length<=3) (hbz:b.sz<=500) (ih:∀(us2:LI) (b2:Z5) (mi2:LI) (m2:Nat),(fB n.decls n.routines.length m2 b2)->(V5 WB b2)->(us2.length=m2)->(m2+4*b2.sz<=100000)->(∀v∈mi2,0<=v/\v<(m2:Int))->(mi2.length<=3)->(b2.sz<=500)->(b2.sz<b.sz)->Zi 192 [Yk n,Z6 us2,ZI b2,Z6 mi2] [] (fun r h=>∃(y:Z5),r=ZI y/\h=[]/\KB n.decls n.routines.length m2 y (60*b2.sz))):Zi 192 [Yk n,Z6 us,ZI b,Z6 mi] [] (fun r h=>∃(y:Z5),r=ZI y/\h=[]/\KB n.decls n.routines.length mm y (60*b.sz)):=by
 have Xy:=hn.decls
 have hbe:=b.sz_eq
 have ZE:=V7 b
 obtain ⟨hfs,hr1,hr2⟩:=(D9 b).1 hf
 have hos:=BA.1 ((Ft b).1 hop)
 have hdn:=GS hos
 have hdl:=hdn b.steps.length (X9 _)
 rw [Vi] at hdl
 refine ZF 80 Tryz.func192 (ar (iA (YJ n) fun b1=>iA (X3 b) fun b2=>iA [nl,.i 0] fun b3=>ie (ar (iL (Zv []) 0 5 fun v1=>Z0 (Yc 1 (ic [] (VK us) ?_))))))
 rintro _ _ ⟨v2,rfl,rfl⟩
 refine Z0 (Yc 1 (ic [] (VK mi) ?_))
 rintro _ _ ⟨v3,rfl,rfl⟩
 refine Z0 (Y7 (ab 0 (Y0 (fun fz gz m F h=>∃(k:Nat) (vs:LI) (w:Value) (ow:LI) (u:Value) (xs:List Z4) (v:Value) (z0:Nat),(k<=b.steps.length)/\(vs.length=mm+k)/\(CL n.decls n.routines.length mm xs k z0)/\(z0+2*ow.length<=60*Yw (b.steps.take k)+2*mi.length)/\(∀v∈ow,0<=v/\v<((mm+k:Nat):Int))/\F=sF [4,6,8] fz [(9,YS xs v),(10,ZY vs w),(11,ZY ow u),(12,.i k)]/\h=[Zh gz 3,Zh gz 4,Zh gz 5,.tail u 1,.tail v 5,.tail w 1]/\m=b.steps.length-k) _ _ _ ⟨0,us,v2,mi,v3,[],v1,0,ob,ob,CL.nil,(by simp),hmr,rfl,rfl,rfl⟩ (wk [3,3,3,0,1,0] (fw (fr (Y5 fl)))) ?_)))
 rintro m F h ⟨k,vs,w,ow,u,xs,v,z0,Yb,Zl,Zw,YN,Wj,rfl,rfl,rfl⟩
 refine Yf 3 [1] (iw (V3 b.steps) (ZZ ((k:Int)<(b.steps.length:Int)) (fun Za=>?_) (fun Za=>?_)))
 ·refine ak (aq (ab 1 (Zu 3 [1] ?_)))
  obtain ⟨x1,Z3⟩:=Zr b.steps k om
  have Xv:=BF Z3
  have hfS:=(EE x1).1 (Db hfs Z3)
  rw [hdn k om] at hfS
  have hoS:=(DG x1).1 (hos x1 (Y1 Z3))
  have htk:=ID Z3
  have hse:=(x1).sz_eq
  have hal4:=hfS.alen
  have hxl:=Zw.len
  have htl:=K0 b.steps (k+1)
  refine Zm (Zg none (k:Int) 5 (Wc Z3)) (Z2 1 (iA [.i 0,.i 0,.i 0,nl,nl] fun b4=>Zz 0 b4 (Xm x1) (ie (ar (TE 3 [(33,Z6 vs)] [3,0] (Zy [] (IA n vs x1 ob ob) (Z0 (ar (TE 4 [(38,Z6 vs)] [3,0] (ic [] (Z1w n vs x1 (mm+k) (hf:=hfS)) ?_))))))))))
  rintro _ _ ⟨zs1,rfl,rfl,Y4⟩
  have hdu:=Y4
  have hq1:=Zw.cnts (op:=14) (.inl rfl) (vs:=zs1) (fun v hv=>hfS.args v (hdu.2 v hv))
  have hl1:=hq1.len
  refine ic [] (QX 14 zs1) ?_
  rintro _ _ ⟨v4,rfl,rfl⟩
  refine ZQ 0 [(41,WE (zs1.map (Zx 14)))] (ip 6 (Zv (xs++(zs1.map (Zx 14)))) (Zv xs) (Zv (zs1.map (Zx 14))) v none 5 (Xc _) (Xc _) (VD _) (by simp<;>omega) (by simp [WC,Zv]) fun v5=>Z0 (ar (TE 4 [(45,Z6 vs)] [5,2] (ic [] (Z2i n vs x1 (mm+k) b.sz (hf:=hfS) (h11:=hoS.1) (hop:=hoS.2) (ih:=ih)) ?_))))
  rintro _ _ ⟨y1,rfl,rfl,Ym⟩
  have hkt:=Ym
  have hq2:=hq1.kt hkt
  have hl2:=hq2.len
  refine Ur [YC y1] (Zv [y1]) (Vc [y1]).symm 1 5 fun v6=>ZQ 0 [(48,WE [y1])] (ip 1 (Zv ((xs++(zs1.map (Zx 14)))++[y1])) (Zv (xs++(zs1.map (Zx 14)))) (Zv [y1]) v5 none 5 (Xc _) (Xc _) (VD _) (by simp<;>omega) (by simp [WC,Zv]) fun v7=>Z0 (X4 (YG ((Yj n vs x1) != 0) Y6 (fun Zf=>?_) (fun Zf=>?_))))
  ·exact az (Z2 2 (iw (Yi vs) (iL (Z7 [(vs.length:Int)]) 1 1 fun v8=>ZQ 0 [(55,Z6 [(vs.length:Int)])] (ip 8 (Z7 (ow++[(vs.length:Int)])) (Z7 ow) (Z7 [(vs.length:Int)]) u none 1 (YD _) (YD _) (W5 _) (by simp<;>omega) (by simp [W4,Z7]) fun v9=>Z0 (az (Z2 2 (iL (Z7 [Yj n vs x1]) 1 1 fun v10=>ZQ 0 [(59,Z6 [Yj n vs x1])] (ip 10 (Z7 (vs++[Yj n vs x1])) (Z7 vs) (Z7 [Yj n vs x1]) w none 1 (YD _) (YD _) (W5 _) (by simp<;>omega) (by simp [W4,Z7]) fun v11=>Z0 (az (Z2 1 (ZG k (Z0 (ZH ⟨k+1,(vs++[Yj n vs x1]),v11,(ow++[(vs.length:Int)]),v9,((xs++(zs1.map (Zx 14)))++[y1]),v7,_,ob,ob,hq2,(by (try simp only [Yx,YV,Xn]);omega),(by first|exact Xu (fun v hv=>by have:=Wj v hv;omega) om|exact (fun v hv=>by have:=Wj v hv;omega)),rfl,rfl,rfl⟩ (wk [8,8,8,2,3,0] (fw (fr (ZJ k fl)))))))))))))))))
  exact ak (az (Z2 2 (iL (Z7 [Yj n vs x1]) 1 1 fun v12=>ZQ 0 [(59,Z6 [Yj n vs x1])] (ip 9 (Z7 (vs++[Yj n vs x1])) (Z7 vs) (Z7 [Yj n vs x1]) w none 1 (YD _) (YD _) (W5 _) (by simp<;>omega) (by simp [W4,Z7]) fun v13=>Z0 (az (Z2 1 (ZG k (Z0 (ZH ⟨k+1,(vs++[Yj n vs x1]),v13,ow,u,((xs++(zs1.map (Zx 14)))++[y1]),v7,_,ob,ob,hq2,(by (try simp only [Yx,YV,Xn]);omega),(by first|exact Xu (fun v hv=>by have:=Wj v hv;omega) om|exact (fun v hv=>by have:=Wj v hv;omega)),rfl,rfl,rfl⟩ (wk [6,6,6,6,2,0] (fw (fr (ZJ k fl)))))))))))))
 have hxl:=Zw.len
 have htl:=K0 b.steps k
 refine ax 0 (Yf 3 [1] ?_)
 obtain ⟨x2,Zo⟩:=Zr vs b.result.toNat om
 refine Zm (Zg (some w) b.result 1 (Y3 Zo)) (YG (x2 != 0) Y6 (fun ZA=>?_) (fun ZA=>?_))
 ·refine az (ZL 3 [1] (Zy [] (Jq 14 b.result) (Ur [YC (Zx 14 b.result)] (Zv [Zx 14 b.result]) (Vc [Zx 14 b.result]).symm 1 5 fun v14=>ZQ 0 [(71,WE [Zx 14 b.result])] (ip 5 (Zv (xs++[Zx 14 b.result])) (Zv xs) (Zv [Zx 14 b.result]) v none 5 (Xc _) (Xc _) (VD _) (by simp<;>omega) (by simp [WC,Zv]) fun v15=>Z0 (aD 8 (BZ 4 8 [0,1,4,5] [(74,Z6 ow)] [3] (Z8 2 (dc 2 [] [1] [b2] (QX 15 ow) ?_))))))))
  rintro _ _ ⟨v16,rfl,rfl⟩
  exact Yr 3 3 [] [(75,WE (ow.map (Zx 15)))] (Z8 3 (dp 3 1 [1] [b2] (Zv ((xs++[Zx 14 b.result])++(ow.map (Zx 15)))) (Zv (xs++[Zx 14 b.result])) (Zv (ow.map (Zx 15))) v15 none 5 (Xc _) (Xc _) (VD _) (by simp<;>omega) (by simp [WC,Zv]) fun v17=>Zk 1 2 [6] (Z8 7 (YM 7 3 [] [] b3 [YS ((xs++[Zx 14 b.result])++(ow.map (Zx 15))) v17,.i b.result] (de (ZD (r3 [] [.agg [YS ((xs++[Zx 14 b.result])++(ow.map (Zx 15))) v17,.i b.result]] [0] [(b3,b3)] ⟨(Z5.mk ((xs++[Zx 14 b.result])++(ow.map (Zx 15))) b.result),rfl,rfl,((((Zw.cnt (op:=14) (.inl rfl) om).cnts (op:=15) (.inr rfl) (fun v hv=>by have:=Wj v hv;omega)).block om).le (by have:=K0 b.steps k;omega))⟩ (Zc.agg (.cons (Zc.forget _ _) (.cons (lr _) .nil))))))))))
 refine ak (aD 8 (BZ 4 8 [0,1,4,5] [(74,Z6 ow)] [1] (Z8 2 (dc 2 [] [1] [b2] (QX 15 ow) ?_))))
 rintro _ _ ⟨v18,rfl,rfl⟩
 exact Yr 3 3 [] [(75,WE (ow.map (Zx 15)))] (Z8 3 (dp 3 5 [1] [b2] (Zv (xs++(ow.map (Zx 15)))) (Zv xs) (Zv (ow.map (Zx 15))) v none 5 (Xc _) (Xc _) (VD _) (by simp<;>omega) (by simp [WC,Zv]) fun v19=>Zk 1 2 [6] (Z8 7 (YM 7 2 [] [] b3 [YS (xs++(ow.map (Zx 15))) v19,.i b.result] (de (ZD (r3 [] [.agg [YS (xs++(ow.map (Zx 15))) v19,.i b.result]] [0] [(b3,b3)] ⟨(Z5.mk (xs++(ow.map (Zx 15))) b.result),rfl,rfl,(((Zw.cnts (op:=15) (.inr rfl) (fun v hv=>by have:=Wj v hv;omega)).block om).le (by have:=K0 b.steps k;omega))⟩ (Zc.agg (.cons (Zc.forget _ _) (.cons (lr _) .nil))))))))))
theorem Z2g (n:Zq) (us:LI) (b:Z5) (mi:LI) (mm:Nat) (hn:Xe n:=by exact ob) (hf:fB n.decls n.routines.length mm b:=by exact ob) (hop:V5 WB b:=by exact ob) (hul:us.length=mm:=by exact ob) (hm:mm+4*b.sz<=100000:=by exact ob) (hmr:∀v∈mi,0<=v/\v<(mm:Int)) (hml:mi.length<=3:=by exact ob) (hbz:b.sz<=500:=by exact ob):Zi 192 [Yk n,Z6 us,ZI b,Z6 mi] [] (fun r h=>∃(y:Z5),r=ZI y/\h=[]/\KB n.decls n.routines.length mm y (60*b.sz)):=by
 have key:∀k:Nat,∀(us2:LI) (b2:Z5) (mi2:LI) (m2:Nat),(fB n.decls n.routines.length m2 b2)->(V5 WB b2)->(us2.length=m2)->(m2+4*b2.sz<=100000)->(∀v∈mi2,0<=v/\v<(m2:Int))->(mi2.length<=3)->(b2.sz<=500)->(b2.sz<k)->Zi 192 [Yk n,Z6 us2,ZI b2,Z6 mi2] [] (fun r h=>∃(y:Z5),r=ZI y/\h=[]/\KB n.decls n.routines.length m2 y (60*b2.sz)):=by
  intro k
  induction k with
  | zero=>intro us2 b2 mi2 m2 h1 h2 h3 h4 h5 h6 h7 h9;omega
  | succ k ih=>intro us2 b2 mi2 m2 h1 h2 h3 h4 h5 h6 h7 h9;exact Z2h n us2 b2 mi2 m2 hn h1 h2 h3 h4 h5 h6 h7 fun us3 b3 mi3 m3 q1 q2 q3 q4 q5 q6 q7 q9=>ih us3 b3 mi3 m3 q1 q2 q3 q4 q5 q6 q7 om
 exact key (b.sz+1) us b mi mm hf hop hul hm hmr hml hbz om
theorem Z30 (rt:ZV) (hp:rt.params.length<=1000000:=by exact ob) (hl:rt.lent.length<=1000000:=by exact ob):Zi 193 [UK rt] [] (fun r h=>∃(os:LI),r=Z6 os/\h=[]/\os.length<=rt.params.length/\∀v∈os,0<=v/\v<(rt.params.length:Int)):=by
 refine ZF 31 Tryz.func193 (ar (iA (Tm rt) fun b1=>Z0 (ar (iL (Z7 []) 0 1 fun v1=>?_))))
 refine Z0 (Y7 (ab 0 (Y0 (fun fz gz m F h=>∃(k:Nat) (os:LI) (u:Value),(k<=rt.params.length)/\(os.length<=k)/\(∀v∈os,0<=v/\v<(rt.params.length:Int))/\F=sF [1] fz [(3,ZY os u),(4,.i k)]/\h=[Zh gz 1,.tail u 1]/\m=rt.params.length-k) _ _ _ ⟨0,[],v1,ob,ob,(fun v hv=>by cases hv),rfl,rfl,rfl⟩ (wk [1,0] (fr (Y5 fl))) ?_)))
 rintro m F h ⟨k,os,u,Yb,Zl,Zw,rfl,rfl,rfl⟩
 refine Yf 3 [0] (iw (Yi rt.params) (ZZ ((k:Int)<(rt.params.length:Int)) (fun Za=>?_) (fun Za=>?_)))
 ·refine ak (aq (ab 1 (Zu 3 [0] ?_)))
  obtain ⟨x1,Z3⟩:=Zr rt.params k om
  refine Zm (Zg none (k:Int) 1 (Y3 Z3)) (Xi [1,3,4] [(25,.b ((x1 != 0)&&(!(decide ((k:Int)∈rt.lent)))))] (fun gz=>gz) ?_ ?_)
  ·refine Z2 3 (ib (b:=(x1 != 0)) 19 (fun Zd=>?_) (fun Zd=>?_))
   ·exact ZL 3 [0] (Zy [] (Uw rt.lent (k:Int)) (Z0 (wk [0,0] (Zp (!(decide ((k:Int)∈rt.lent))) Zd fl))))
   exact Z0 (wk [0,0] (Zp false Zd fl))
  refine ac ((x1 != 0)&&(!(decide ((k:Int)∈rt.lent)))) (p:=(x1≠0)/\(¬((k:Int)∈rt.lent))) (YK Y6 (Yn dq)) (fun Zf=>?_) (fun Zf=>?_)
  ·exact az (Z2 2 (iL (Z7 [(k:Int)]) 1 1 fun v2=>ZQ 0 [(28,Z6 [(k:Int)])] (ip 2 (Z7 (os++[(k:Int)])) (Z7 os) (Z7 [(k:Int)]) u none 1 (YD _) (YD _) (W5 _) (by simp<;>omega) (by simp [W4,Z7]) fun v3=>Z0 (az (Z2 1 (ZG k (Z0 (ZH ⟨k+1,(os++[(k:Int)]),v3,ob,ob,(by first|exact Zw|exact Xu Zw om),rfl,rfl,rfl⟩ (wk [2,0] (fr (ZJ k fl)))))))))))
  exact ak (az (Z2 1 (ZG k (Z0 (ZH ⟨k+1,os,u,ob,ob,(by first|exact Zw|exact Xu Zw om),rfl,rfl,rfl⟩ (wk [0,0] (fr (ZJ k fl))))))))
 exact ax 0 (ar (Zt (r2 [] [ZY os u] ⟨os,rfl,rfl,⟨by omega,Zw⟩⟩ (Zc.forget _ _))))
theorem Z2f (n:Zq) (qz:Nat) (hn:FO n qz WB:=by exact ob) (hqz:qz<=181:=by exact ob):Zi 149 [Yk n] [] (fun r h=>∃(n2:Zq),r=Yk n2/\h=[]/\FO n2 (60*qz) Vk):=by
 have hnl:=hn.fn.len
 have Xy:=hn.fn.decls.ok
 have hok:=hn.fn.ok
 refine ZF 39 Tryz.func149 (ar (iA (YJ n) fun b1=>iA [nl,nl] fun b2=>ie (Zu 2 [1] (Zy [] (AS n.decls) (iL (Yy []) 0 5 fun v1=>Z2 1 (iA [nl,nl] fun b3=>?_))))))
 refine Zz 0 b3 [Ya n.decls,Wd [] v1] (ie (Y7 (ab 0 (Y0 (fun fz gz m F h=>∃(k:Nat) (rs:List ZV) (u:Value),(k<=n.routines.length)/\(rs.length=k)/\(∀r∈rs,RF n.decls n.routines.length (60*qz) Vk r)/\F=sF [1,2,3] fz [(4,.i k)]/\h=[.obj b3 [Ya n.decls,Wd rs u],Zh gz 2,Zh gz 3,.tail u 5]/\m=n.routines.length-k) _ _ _ ⟨0,[],v1,ob,ob,(fun r hr=>by cases hr),rfl,rfl,rfl⟩ (wk [0,1,1,0] (Y5 fl)) ?_))))
 rintro m F h ⟨k,rs,u,Yb,Zl,Zw,rfl,rfl,rfl⟩
 refine Yf 3 [2] (iw (Vl n.routines) (ZZ ((k:Int)<(n.routines.length:Int)) (fun Za=>?_) (fun Za=>?_)))
 ·refine ak (aq (ab 1 (Zu 3 [2] ?_)))
  obtain ⟨x1,Z3⟩:=Zr n.routines k om
  have hrf:=hn.rf (Y1 Z3)
  have hrp:(x1).params.length<=3:=(T3.bd (f:=⟨(x1).params,(x1).result,default⟩) hrf.sig).1
  have hrl:=hrf.lent.1
  have hrz:=hrf.body.2
  refine Zm (Zg none (k:Int) 5 (Wm Z3)) (Z2 1 (iA [nl,nl,.i 0,nl,.i 0] fun b4=>Zz 0 b4 (Tm x1) (ie (aE 16 (ZO 7 16 [0,1,2,3,4,5,6,7,8] [1,0,3,0,0,0] (Z8 9 (dc 9 [] [0,0,3,0,1] [b4,b4,b1,b4,b3] (Z30 x1) ?_)))))))
  rintro _ _ ⟨os1,rfl,rfl,Y4⟩
  have hop:=Y4
  refine Z8 10 (dc 10 [] [0,1] [b4,b3] (Z2g n x1.params x1.body os1 _ (hf:=hrf.body.1) (hop:=hrf.op) (hul:=rfl) (hmr:=hop.2)) ?_)
  rintro _ _ ⟨y1,rfl,rfl,Ym⟩
  have hkb0:=Ym
  have hkb:=hkb0.le (z2:=60*qz) om
  exact Z8 11 (Yq 11 [] [1] [b3] (CF x1 y1 (hp:=om) (hl:=om)) (Z8 12 (dL 12 [1] [b3] (Yy [ZV.mk x1.params x1.lent x1.result y1]) 1 5 fun v2=>Yr 3 3 [] [(35,Tz [ZV.mk x1.params x1.lent x1.result y1])] (Z8 13 (dp 13 5 [] [] (Yy (rs++[ZV.mk x1.params x1.lent x1.result y1])) (Yy rs) (Yy [ZV.mk x1.params x1.lent x1.result y1]) u none 5 (U3 _) (U3 _) (Jb _) (by simp<;>omega) (by simp [JK,Yy]) fun v3=>Zk 1 2 [14] (Z8 15 (YM 15 3 [] [] b3 [Ya n.decls,Wd (rs++[ZV.mk x1.params x1.lent x1.result y1]) v3] (de (az (Z2 1 (ZG k (Z0 (ZH ⟨k+1,(rs++[ZV.mk x1.params x1.lent x1.result y1]),v3,ob,ob,(Xu Zw (by first|exact hrf.with hkb.fb hkb.sz hkb.op|(rw [Z5.eta];exact hrf.with hkb.fb hkb.sz hkb.op))),rfl,rfl,rfl⟩ (wk [0,3,3,0] (ZJ k fl)))))))))))))))
 exact ax 0 (Zu 1 [0] (Zz 1 b2 [Ya n.decls,Wd rs u] (ie (ZD (r3 [] [.agg [Ya n.decls,Wd rs u]] [0] [(b2,b2)] ⟨(Zq.mk n.decls rs),rfl,rfl,(FO.fin hn.fn om Zw).1⟩ (Zc.agg (.cons (lr _) (.cons (Zc.forget _ _) .nil))))))))
theorem Po (s:Z4) :Zi 194 [YC s] [] (Yg (.b ((s.op==14)||(s.op==15)))):=by
 refine ZF 11 Tryz.func194 (ar (iA (Xm s) fun b1=>Z0 (ar (XG 8 [] [(10,.b ((s.op==14)||(s.op==15)))] (fun gz=>gz) ?_ (fun hj1=>?_)))))
 ·exact Zt (IJ)
 refine ZL 4 [0] (ib (b:=(s.op==14)) 6 (fun Zd=>?_) (fun Zd=>?_))
 ·exact Z2 4 (Yv (wk [0] (Zp true Zd fl)) hj1)
 exact ZL 4 [0] (Yv (wk [0] (Zp (s.op==15) Zd fl)) hj1)
theorem Z3d (rn:List Z4) (hrn:∀s∈rn,∃a,s.args=[a]) (hl:rn.length<=100000000:=by exact ob):Zi 247 [WE rn] [] (fun r h=>∃(vs:LI),r=Z6 vs/\h=[]/\B8 vs/\vs.length<=rn.length/\∀v∈vs,∃s∈rn,s.args=[v]):=by
 refine ZF 22 Tryz.func247 (ZP (ar (iL (Z7 []) 0 1 fun v1=>?_)))
 refine Z0 (Y7 (ab 0 (Y0 (fun fz gz m F h=>∃(k:Nat) (vs:LI),(k<=rn.length)/\(vs.length<=k)/\(B8 vs)/\(∀v∈vs,∃s∈rn,s.args=[v])/\F=sF [0] fz [(3,Z6 vs),(4,.i k)]/\h=[]/\m=rn.length-k) _ _ _ ⟨0,[],ob,ob,List.Pairwise.nil,(fun v hv=>by cases hv),rfl,rfl,rfl⟩ (wk [] (fc (x:=ZY [] v1) (Zc.forget _ _) (Y5 fl))) ?_)))
 rintro m F h ⟨k,vs,Yb,Zl,Zw,YN,rfl,rfl,rfl⟩
 refine YO 2 (iw (V3 rn) (ZZ ((k:Int)<(rn.length:Int)) (fun Za=>?_) (fun Za=>?_)))
 ·refine ak (aq (ab 1 (az (Z2 3 ?_))))
  obtain ⟨x1,Z3⟩:=Zr rn k om
  have hxm:=Y1 Z3
  obtain ⟨xa,hxa⟩:=hrn _ hxm
  refine Zm (Zg none (k:Int) 5 (Wc Z3)) (Z2 2 ?_)
  obtain ⟨x2,Zo⟩:=Zr x1.args 0 (by rw [hxa];simp)
  have hxe:x1.args=[x2]:=by have h:=Zo;rw [hxa] at h;rw [hxa];simpa using h
  refine Zm (Zg none 0 1 (Y3 Zo)) (Z2 1 (ic [] (Df vs x2) ?_))
  rintro _ _ ⟨v2,rfl,rfl⟩
  exact Z0 (az (Z2 1 (ZG k (Z0 (ZH ⟨k+1,(VT vs x2),ob,(by have:=Ck vs x2;omega),(N1 Zw),(fun v hv=>(Ds.1 hv).elim (YN v) (fun e=>⟨x1,hxm,by rw [e];exact hxe⟩)),rfl,rfl,rfl⟩ (wk [] (fc (x:=ZY (VT vs x2) v2) (Zc.forget _ _) (ZJ k fl))))))))
 exact ax 0 (ar (Zt (r1 [] ⟨vs,rfl,rfl,⟨Zw,by omega,YN⟩⟩)))
theorem Z2s (rn:List Z4) (v:Int) (hrn:∀s∈rn,∃a,s.args=[a]) (hl:rn.length<=100000000:=by exact ob):Zi 248 [WE rn,.i v] [] (fun r h=>∃(z:Int),r=.i z/\h=[]/\-((Vp rn v:Nat):Int)<=z/\z<=((Vp rn v:Nat):Int)):=by
 refine ZF 44 Tryz.func248 (ZP (ZP (Y7 (ab 0 (Y0 (fun fz gz m F h=>∃(k:Nat) (z:Int),(k<=rn.length)/\(-((Vp (rn.take k) v:Nat):Int)<=z/\z<=((Vp (rn.take k) v:Nat):Int))/\F=sF [0,1] fz [(5,.i z),(6,.i k)]/\h=gz/\m=rn.length-k) _ _ _ ⟨0,0,ob,(by simp [Vp]),rfl,rfl,rfl⟩ (wk [] (fr (Y5 fl))) ?_)))))
 rintro m F h ⟨k,z,Yb,Zl,rfl,rfl,rfl⟩
 refine YO 2 (iw (V3 rn) (ZZ ((k:Int)<(rn.length:Int)) (fun Za=>?_) (fun Za=>?_)))
 ·refine ak (aq (ab 1 (Yc 2 ?_)))
  obtain ⟨x1,Z3⟩:=Zr rn k om
  have hxm:=Y1 Z3
  obtain ⟨xa,hxa⟩:=hrn _ hxm
  have hct:=Sd Z3 v
  have hcl:=Se rn (k+1) v
  have hcm:=LF rn v
  refine Zm (Zg none (k:Int) 5 (Wc Z3)) (Z2 2 ?_)
  obtain ⟨x2,Zo⟩:=Zr x1.args 0 (by rw [hxa];simp)
  have hg0:=JR Zo
  rw [hg0] at hct
  refine Zm (Zg none 0 1 (Y3 Zo)) (Xi [0,1,5,6] [(29,.b ((x2==v)&&(x1.op==14)))] (fun gz=>gz) ?_ ?_)
  ·refine Z2 4 (ib (b:=(x2==v)) 22 (fun Zd=>?_) (fun Zd=>?_))
   ·exact Z2 2 (Zm (Zg none (k:Int) 5 (Wc Z3)) (Z0 (wk [] (Zp (x1.op==14) Zd fl))))
   exact Z0 (wk [] (Zp false Zd fl))
  refine ac ((x2==v)&&(x1.op==14)) (p:=(x2=v)/\(x1.op=14)) (YK Zs Zs) (fun Zf=>?_) (fun Zf=>?_)
  ·exact az (Z2 1 (ia ((z+1)) ((z)+(1)) (Z0 (az (Z2 1 (ZG k (Z0 (ZH ⟨k+1,(z+1),ob,(by first|(rw [hct,Zj om];omega)|(rw [hct,Z9 om];omega)),rfl,rfl,rfl⟩ (wk [] (fr (ZJ k fl)))))))))))
  refine Yc 2 (Zm (Zg none (k:Int) 5 (Wc Z3)) (Z2 2 (Zm (Zg none 0 1 (Y3 Zo)) (YG (x2==v) Zs (fun ZA=>?_) (fun ZA=>?_)))))
  ·exact az (Z2 1 (ia ((z-1)) ((z)-(1)) (Z0 (az (Z2 1 (ZG k (Z0 (ZH ⟨k+1,(z-1),ob,(by first|(rw [hct,Zj om];omega)|(rw [hct,Z9 om];omega)),rfl,rfl,rfl⟩ (wk [] (fr (ZJ k fl)))))))))))
  exact ak (az (Z2 1 (ZG k (Z0 (ZH ⟨k+1,z,ob,(by first|(rw [hct,Zj om];omega)|(rw [hct,Z9 om];omega)),rfl,rfl,rfl⟩ (wk [] (fr (ZJ k fl))))))))
 exact ax 0 (ar (Zt (r1 [] ⟨z,rfl,rfl,(by have e:=Zl;rw [Wx om] at e;exact e)⟩)))
theorem MH (rn:List Z4) (hrn:∀s∈rn,∃a,s.args=[a]) (hl:rn.length<=100000000:=by exact ob):Zi 195 [WE rn] [] (fun r h=>∃(D:LI) (R:LI) (v:Value),r=YS (D.map (Zx 14)++R.map (Zx 15)) v/\h=[.tail v 5]/\D.length+R.length<=rn.length/\(∀v∈D,∃s∈rn,s.args=[v])/\∀v∈R,∃s∈rn,s.args=[v]):=by
 refine ZF 51 Tryz.func195 (ZP (ar (iL (Z7 []) 0 1 fun v1=>Z0 (ar (iL (Z7 []) 0 1 fun v2=>Z0 (Yc 1 (ic [] (Z3d rn (hrn:=ob)) ?_)))))))
 rintro _ _ ⟨vs1,rfl,rfl,Y4⟩
 have hvo:=Y4
 have hsl:=PL rn hvo.1
 refine Z0 (Y7 (ab 0 (Y0 (fun fz gz m F h=>∃(k:Nat) (D:LI) (u:Value) (R:LI) (w:Value),(k<=vs1.length)/\(D.length+R.length<=Vh rn (vs1.take k))/\(∀v∈D,v∈vs1)/\(∀v∈R,v∈vs1)/\F=sF [0,5] fz [(3,ZY D u),(4,ZY R w),(6,.i k)]/\h=[.tail u 1,.tail w 1]/\m=vs1.length-k) _ _ _ ⟨0,[],v1,[],v2,ob,(by simp [Vh]),(fun v hv=>by cases hv),(fun v hv=>by cases hv),rfl,rfl,rfl⟩ (wk [1,0] (fw (Y5 fl))) ?_)))
 rintro m F h ⟨k,D,u,R,w,Yb,Zl,Zw,YN,rfl,rfl,rfl⟩
 refine YO 2 (iw (Yi vs1) (ZZ ((k:Int)<(vs1.length:Int)) (fun Za=>?_) (fun Za=>?_)))
 ·refine ak (aq (ab 1 (Yc 3 ?_)))
  obtain ⟨x1,Z3⟩:=Zr vs1 k om
  have hst:=Zcb (rn:=rn) Z3
  have hsk:=IF rn vs1 (k+1)
  have hxm:=Y1 Z3
  refine Zm (Zg none (k:Int) 1 (Y3 Z3)) (Z2 1 (ic [] (Z2s rn x1 (hrn:=ob)) ?_))
  rintro _ _ ⟨z1,rfl,rfl,Ym⟩
  have hnt:=Ym
  refine Z0 (aq (ab 2 (Y0 (fun fz gz m F h=>∃(z:Int) (D2:LI) (u2:Value) (w2:Value),((D2.length:Int)+(R.length:Int)+z<=((Vh rn (vs1.take k):Nat):Int)+((Vp rn x1:Nat):Int))/\((D2.length:Int)+(R.length:Int)-z<=((Vh rn (vs1.take k):Nat):Int)+((Vp rn x1:Nat):Int))/\(∀v∈D2,v∈vs1)/\F=sF [0,5,6] fz [(3,ZY D2 u2),(4,ZY R w2),(7,.i z)]/\h=[.tail u2 1,.tail w2 1]/\m=z.toNat) _ _ _ ⟨z1,D,u,w,om,om,Zw,rfl,rfl,rfl⟩ (wk [0,0] fl) ?_)))
  rintro m F h ⟨z,D2,u2,w2,VA,XL,XI,rfl,rfl,rfl⟩
  refine X4 (ZZ (z>0) (fun Zf=>?_) (fun Zf=>?_))
  ·exact ak (aq (ab 3 (az (Z2 3 (Zm (Zg none (k:Int) 1 (Y3 Z3)) (Z2 1 (iL (Z7 [x1]) 1 1 fun v3=>ZQ 0 [(33,Z6 [x1])] (ip 1 (Z7 (D2++[x1])) (Z7 D2) (Z7 [x1]) u2 none 1 (YD _) (YD _) (W5 _) (by simp<;>omega) (by simp [W4,Z7]) fun v4=>Z0 (az (Z2 1 (ia ((z-1)) ((z)-(1)) (Z0 (ZH ⟨(z-1),(D2++[x1]),v4,w2,(by simp only [Yx,YV,Xn];omega),(by simp only [Yx,YV,Xn];omega),(Xu XI hxm),rfl,rfl,rfl⟩ (wk [0,1] fl))))))))))))))
  refine ax 2 (ab 4 (Y0 (fun fz gz m F h=>∃(y:Int) (R2:LI) (u3:Value) (w3:Value),((D2.length:Int)+(R2.length:Int)+y<=((Vh rn (vs1.take k):Nat):Int)+((Vp rn x1:Nat):Int))/\((D2.length:Int)+(R2.length:Int)-y<=((Vh rn (vs1.take k):Nat):Int)+((Vp rn x1:Nat):Int))/\(∀v∈R2,v∈vs1)/\F=sF [0,5,6] fz [(3,ZY D2 u3),(4,ZY R2 w3),(7,.i y)]/\h=[.tail u3 1,.tail w3 1]/\m=(-y).toNat) _ _ _ ⟨z,R,u2,w2,ob,ob,YN,rfl,rfl,rfl⟩ (wk [0,0] fl) ?_))
  rintro m F h ⟨y,R2,u3,w3,LA,El,LD,rfl,rfl,rfl⟩
  refine X4 (ZZ (y<0) (fun ZA=>?_) (fun ZA=>?_))
  ·exact ak (aq (ab 5 (az (Z2 3 (Zm (Zg none (k:Int) 1 (Y3 Z3)) (Z2 1 (iL (Z7 [x1]) 1 1 fun v5=>ZQ 0 [(44,Z6 [x1])] (ip 2 (Z7 (R2++[x1])) (Z7 R2) (Z7 [x1]) w3 none 1 (YD _) (YD _) (W5 _) (by simp<;>omega) (by simp [W4,Z7]) fun v6=>Z0 (az (Z2 1 (ia ((y+1)) ((y)+(1)) (Z0 (ZH ⟨(y+1),(R2++[x1]),u3,v6,(by simp only [Yx,YV,Xn];omega),(by simp only [Yx,YV,Xn];omega),(Xu LD hxm),rfl,rfl,rfl⟩ (wk [2,0] fl))))))))))))))
  exact ax 4 (az (Z2 1 (ZG k (Z0 (ZH ⟨k+1,D2,u3,R2,w3,ob,(by rw [hst];omega),XI,LD,rfl,rfl,rfl⟩ (wk [0,0] (fw (ZJ k fl))))))))
 have Xv:=IF rn vs1 k
 refine ax 0 (ar (ZQ 1 [(46,Z6 D)] (ic [] (QX 14 D) ?_)))
 rintro _ _ ⟨v7,rfl,rfl⟩
 refine ZQ 1 [(48,Z6 R)] (ic [] (QX 15 R) ?_)
 rintro _ _ ⟨v8,rfl,rfl⟩
 exact ZQ 0 [(49,WE (R.map (Zx 15)))] (ip 1 (Zv ((D.map (Zx 14))++(R.map (Zx 15)))) (Zv (D.map (Zx 14))) (Zv (R.map (Zx 15))) v7 none 5 (Xc _) (Xc _) (VD _) (by simp<;>omega) (by simp [WC,Zv]) fun v9=>Zt (r2 [0] [YS ((D.map (Zx 14))++(R.map (Zx 15))) v9] ⟨_,_,v9,rfl,rfl,⟨by have:=IF rn vs1 k;omega,fun v hv=>hvo.2.2 v (Zw v hv),fun v hv=>hvo.2.2 v (YN v hv)⟩⟩ (Zc.slh _ (Yp Zv ob))))
theorem Z1s (ds:List Ze) (nf:Nat) (b:Z5) (mm:Nat) (hf:fB ds nf mm b) (hop:V5 Vk b) (hz:b.sz<=100000000) (ih:∀(b2:Z5) (m2:Nat),(fB ds nf m2 b2)->(V5 Vk b2)->(b2.sz<=100000000)->(b2.sz<b.sz)->Zi 150 [ZI b2] [] (fun r h=>∃(y:Z5),r=ZI y/\h=[]/\KB ds nf m2 y b2.sz)):Zi 150 [ZI b] [] (fun r h=>∃(y:Z5),r=ZI y/\h=[]/\KB ds nf mm y b.sz):=by
 have hbe:=b.sz_eq
 have ZE:=V7 b
 obtain ⟨hfs,hr1,hr2⟩:=(D9 b).1 hf
 have hos:=BA.1 ((Ft b).1 hop)
 refine ZF 72 Tryz.func150 (ar (iA (X3 b) fun b1=>iA [nl,.i 0] fun b2=>ie (ar (iL (Zv []) 0 5 fun v1=>Z0 (ar (iL (Zv []) 0 5 fun v2=>?_))))))
 refine Z0 (Y7 (ab 0 (Y0 (fun fz gz m F h=>∃(k:Nat) (xs:List Z4) (v:Value) (rn:List Z4) (u:Value) (z0:Nat),(k<=b.steps.length)/\(CL ds nf mm xs (YX (b.steps.take k)) z0)/\(z0+2*rn.length<=Yw (b.steps.take k))/\(L0 (mm+(YX (b.steps.take k))) rn)/\F=sF [1,2] fz [(3,YS xs v),(4,YS rn u),(5,.i k)]/\h=[Zh gz 2,Zh gz 3,.tail u 5,.tail v 5]/\m=b.steps.length-k) _ _ _ ⟨0,[],v1,[],v2,0,ob,CL.nil,(by simp [Yw]),(fun s hs=>by cases hs),rfl,rfl,rfl⟩ (wk [2,2,0,0] (fw (Y5 fl))) ?_)))
 rintro m F h ⟨k,xs,v,rn,u,z0,Yb,Zl,Zw,YN,rfl,rfl,rfl⟩
 refine Yf 3 [1] (iw (V3 b.steps) (ZZ ((k:Int)<(b.steps.length:Int)) (fun Za=>?_) (fun Za=>?_)))
 ·refine ak (aq (ab 1 (Zu 3 [1] ?_)))
  obtain ⟨x1,Z3⟩:=Zr b.steps k om
  have Xv:=BF Z3
  have hfS:=(EE x1).1 (Db hfs Z3)
  have hoS:=(DG x1).1 (hos x1 (Y1 Z3))
  have htk:=ID Z3
  have htl:=K0 b.steps (k+1)
  have hse:=(x1).sz_eq
  have hdt:=LS Z3
  have hxl:=Zl.len
  have hkl2:=Ei (x1).kids
  refine Zm (Zg none (k:Int) 5 (Wc Z3)) (Z2 1 (iA [.i 0,.i 0,.i 0,nl,nl] fun b3=>Zz 0 b3 (Xm x1) (ie (Zu 1 [0] (Zy [] (Po x1) (ie (ac ((x1.op==14)||(x1.op==15)) (p:=(x1.op=14)∨(x1.op=15)) (Yh Zs Zs) (fun Zf=>?_) (fun Zf=>?_))))))))
  ·refine az (ZL 2 [0] (Ur [YC x1] (Zv [x1]) (Vc [x1]).symm 1 5 fun v3=>ZQ 0 [(27,WE [x1])] (ip 4 (Zv (rn++[x1])) (Zv rn) (Zv [x1]) u none 5 (Xc _) (Xc _) (VD _) (by simp<;>omega) (by simp [WC,Zv]) fun v4=>Z0 (az (Z2 1 (ZG k (Z0 ?_)))))))
   obtain ⟨⟨pa,hpa,hpr⟩,Ym,hpc⟩:=hfS.pair (by assumption)
   rw [Zj hpc,BM] at hdt
   exact ZH ⟨k+1,xs,v,(rn++[x1]),v4,_,ob,(by rw [hdt];exact Zl),(by rw [htk];simp only [Yx,YV,Xn];omega),(by rw [hdt];exact Xu YN ⟨pa,hpa,hpr⟩),rfl,rfl,rfl⟩ (wk [3,3,0,2] (fw (ZJ k fl)))
  refine ar (ZQ 2 [(30,WE rn)] (ic [] (MH rn (hrn:=(fun s hs=>(YN s hs).elim fun a h=>⟨a,h.1⟩))) ?_))
  rintro _ _ ⟨D1,R1,v5,rfl,rfl,Y4⟩
  have hsr:=Y4
  have hq1:=Zl.run YN hsr.2.1 hsr.2.2
  have hl1:=Zl.len
  have htl1:=K0 b.steps k
  refine ZQ 0 [(31,WE (D1.map (Zx 14)++R1.map (Zx 15)))] (ip 5 (Zv (xs++(D1.map (Zx 14)++R1.map (Zx 15)))) (Zv xs) (Zv (D1.map (Zx 14)++R1.map (Zx 15))) v none 5 (Xc _) (Xc _) (VD _) (by simp<;>omega) (by simp [WC,Zv]) fun v6=>Z0 (ar (iL (Zv []) 0 5 fun v7=>Z0 (ar (iL (YE []) 0 2 fun v8=>?_)))))
  refine Z0 (Y7 (ab 2 (Y0 (fun fz gz m F h=>∃(j:Nat) (ks:List Z5) (w:Value) (v3:Value) (u4:Value),(j<=x1.kids.length)/\(ks.length=j)/\(KK ds nf (Uv ds x1.op x1.num (mm+(YX (b.steps.take k)))) ks (X1 (x1.kids.take j)))/\F=sF [1,2,5,6] fz [(3,YS (xs++(D1.map (Zx 14)++R1.map (Zx 15))) v3),(4,YS [] u4),(7,UF ks w),(8,.i j)]/\h=[Zh gz 4,Zh gz 5,Zh gz 6,.tail u4 5,.tail v3 5,.tail w 2]/\m=x1.kids.length-j) _ _ _ ⟨0,[],v8,v6,v7,ob,ob,(KK.nil.le (K3 _)),rfl,rfl,rfl⟩ (wk [4,4,4,1,1,0] (fw (fr (Y5 fl)))) ?_)))
  rintro m F h ⟨j,ks,w,v3,u4,VA,XL,XI,rfl,rfl,rfl⟩
  refine Yf 3 [0] (iw (Vr x1.kids) (ZZ ((j:Int)<(x1.kids.length:Int)) (fun ZA=>?_) (fun ZA=>?_)))
  ·refine ak (aq (ab 3 (az (ZL 4 [0] ?_))))
   obtain ⟨x2,Zo⟩:=Zr x1.kids j om
   have hkz:=Us Zo
   have hfk:=Da hfS.kids Zo
   rw [V0] at hfk
   have hok:=Ct.1 hoS.2 x2 (Y1 Zo)
   have hbt:=Ej Zo
   refine Zm (Zg none (j:Int) 2 (U2 Zo)) (Z2 1 (ic [] (ih x2 (Uv ds x1.op x1.num (mm+(YX (b.steps.take k))) j) hfk hok ob ob) ?_))
   rintro _ _ ⟨y1,rfl,rfl,Ym⟩
   have hkb:=Ym
   exact Ur [ZI y1] (YE [y1]) (UC [y1]).symm 1 2 fun v9=>ZQ 0 [(49,Xq [y1])] (ip 6 (YE (ks++[y1])) (YE ks) (YE [y1]) w none 2 (Th _) (Th _) (Ew _) (by simp<;>omega) (by simp [J6,YE]) fun v10=>Z0 (az (Z2 1 (ZG j (Z0 (ZH ⟨j+1,(ks++[y1]),v10,v3,u4,ob,ob,((XI.snoc XL hkb).le om),rfl,rfl,rfl⟩ (wk [2,2,2,2,2,0] (fw (fr (ZJ j fl))))))))))
  refine ax 2 (aE 15 (ZO 5 15 [0,1,2,3,4,5,6,7,8,10] [0,0,0,0] (Z8 9 (dc 9 [] [0,0,0] [b3,b3,b3] (VK x1.args) ?_))))
  rintro _ _ ⟨v11,rfl,rfl⟩
  refine Yr 3 4 [11] [(62,.agg [.i x1.op,.i x1.num,.i x1.into,Z6 x1.args,Xq ks])] (Z8 12 (Wt 12 [] [] [YC (Z4.mk x1.op x1.num x1.into x1.args ks)] (Zv [Z4.mk x1.op x1.num x1.into x1.args ks]) (Vc [Z4.mk x1.op x1.num x1.into x1.args ks]).symm 1 5 fun v12=>Yr 2 2 [] [(63,WE [Z4.mk x1.op x1.num x1.into x1.args ks])] (Z8 13 (dp 13 6 [] [] (Zv ((xs++(D1.map (Zx 14)++R1.map (Zx 15)))++[Z4.mk x1.op x1.num x1.into x1.args ks])) (Zv (xs++(D1.map (Zx 14)++R1.map (Zx 15)))) (Zv [Z4.mk x1.op x1.num x1.into x1.args ks]) v3 none 5 (Xc _) (Xc _) (VD _) (by simp<;>omega) (by simp [WC,Zv]) fun v13=>Zk 0 1 [14] (de (az (Z2 1 (ZG k (Z0 ?_)))))))))
  obtain ⟨hn1,hn2⟩:=hfS.not_pair (by assumption) hoS.1
  rw [Z9 (by rw [hn2];simp)] at hdt
  have hbj:=GC (xs:=x1.kids) (k:=j) om
  have hkt:=KT.eq hfS hn1 om XI
  have hq2:=hq1.kt hkt
  exact ZH ⟨k+1,((xs++(D1.map (Zx 14)++R1.map (Zx 15)))++[Z4.mk x1.op x1.num x1.into x1.args ks]),v13,[],u4,_,ob,(by rw [hdt];exact hq2),(by rw [htk];simp only [Xn];omega),(fun s hs=>by cases hs),rfl,rfl,rfl⟩ (wk [4,4,4,0] (fw (ZJ k fl)))
 have htl2:=K0 b.steps k
 have hxl2:=Zl.len
 refine ax 0 (aD 8 (BZ 4 8 [0,1,4,5] [(66,WE rn)] [1] (Z8 2 (dc 2 [] [1] [b1] (MH rn (hrn:=(fun s hs=>(YN s hs).elim fun a h=>⟨a,h.1⟩))) ?_))))
 rintro _ _ ⟨D2,R2,v14,rfl,rfl,YQ⟩
 have hsr:=YQ
 have hq1:=Zl.run YN hsr.2.1 hsr.2.2
 have hl1:=Zl.len
 have htl1:=K0 b.steps k
 exact Yr 3 3 [] [(67,WE (D2.map (Zx 14)++R2.map (Zx 15)))] (Z8 3 (dp 3 4 [1] [b1] (Zv (xs++(D2.map (Zx 14)++R2.map (Zx 15)))) (Zv xs) (Zv (D2.map (Zx 14)++R2.map (Zx 15))) v none 5 (Xc _) (Xc _) (VD _) (by simp<;>omega) (by simp [WC,Zv]) fun v15=>Zk 1 2 [6] (Z8 7 (YM 7 2 [] [] b2 [YS (xs++(D2.map (Zx 14)++R2.map (Zx 15))) v15,.i b.result] (de (ZD (r3 [] [.agg [YS (xs++(D2.map (Zx 14)++R2.map (Zx 15))) v15,.i b.result]] [0] [(b2,b2)] ⟨(Z5.mk (xs++(D2.map (Zx 14)++R2.map (Zx 15))) b.result),rfl,rfl,(by have e:b.steps.take k=b.steps:=Wx om;rw [e] at Zw hq1;exact (hq1.block ⟨hr1,hr2⟩).le om)⟩ (Zc.agg (.cons (Zc.forget _ _) (.cons (lr _) .nil))))))))))
theorem Z1r (ds:List Ze) (nf:Nat) (b:Z5) (mm:Nat) (hf:fB ds nf mm b:=by exact ob) (hop:V5 Vk b:=by exact ob) (hz:b.sz<=100000000:=by exact ob):Zi 150 [ZI b] [] (fun r h=>∃(y:Z5),r=ZI y/\h=[]/\KB ds nf mm y b.sz):=by
 have key:∀k:Nat,∀(b2:Z5) (m2:Nat),(fB ds nf m2 b2)->(V5 Vk b2)->(b2.sz<=100000000)->(b2.sz<k)->Zi 150 [ZI b2] [] (fun r h=>∃(y:Z5),r=ZI y/\h=[]/\KB ds nf m2 y b2.sz):=by
  intro k
  induction k with
  | zero=>intro b2 m2 h1 h2 h3 h9;omega
  | succ k ih=>intro b2 m2 h1 h2 h3 h9;exact Z1s ds nf b2 m2 h1 h2 h3 fun b3 m3 q1 q2 q3 q9=>ih b3 m3 q1 q2 q3 om
 exact key (b.sz+1) b mm hf hop hz om
theorem Z1t (n:Zq) (qz:Nat) (hn:FO n qz Vk:=by exact ob) (hqz:qz<=10000000:=by exact ob):Zi 117 [Yk n] [] (fun r h=>∃(n2:Zq),r=Yk n2/\h=[]/\FO n2 qz Vk):=by
 have hnl:=hn.fn.len
 have Xy:=hn.fn.decls.ok
 have hok:=hn.fn.ok
 refine ZF 36 Tryz.func117 (ar (iA (YJ n) fun b1=>iA [nl,nl] fun b2=>ie (Zu 2 [1] (Zy [] (AS n.decls) (iL (Yy []) 0 5 fun v1=>Z2 1 (iA [nl,nl] fun b3=>?_))))))
 refine Zz 0 b3 [Ya n.decls,Wd [] v1] (ie (Y7 (ab 0 (Y0 (fun fz gz m F h=>∃(k:Nat) (rs:List ZV) (u:Value),(k<=n.routines.length)/\(rs.length=k)/\(∀r∈rs,RF n.decls n.routines.length qz Vk r)/\F=sF [1,2,3] fz [(4,.i k)]/\h=[.obj b3 [Ya n.decls,Wd rs u],Zh gz 2,Zh gz 3,.tail u 5]/\m=n.routines.length-k) _ _ _ ⟨0,[],v1,ob,ob,(fun r hr=>by cases hr),rfl,rfl,rfl⟩ (wk [0,1,1,0] (Y5 fl)) ?_))))
 rintro m F h ⟨k,rs,u,Yb,Zl,Zw,rfl,rfl,rfl⟩
 refine Yf 3 [2] (iw (Vl n.routines) (ZZ ((k:Int)<(n.routines.length:Int)) (fun Za=>?_) (fun Za=>?_)))
 ·refine ak (aq (ab 1 (aE 19 (ZO 14 19 [0,1,2,3,4] [0,2] ?_))))
  obtain ⟨x1,Z3⟩:=Zr n.routines k om
  have hrf:=hn.rf (Y1 Z3)
  have hrp:(x1).params.length<=3:=(T3.bd (f:=⟨(x1).params,(x1).result,default⟩) hrf.sig).1
  have hrl:=hrf.lent.1
  have hrz:=hrf.body.2
  refine dx 5 (Zg none (k:Int) 5 (Wm Z3)) (ZO 9 13 [6,7,8,9] [2] (dx 10 (Zg none (k:Int) 5 (Wm Z3)) (Zk 6 8 [11,12] (Z8 13 (dc 13 [] [2,0] [b1,b3] (Z1r n.decls n.routines.length x1.body _ (hf:=hrf.body.1) (hop:=hrf.op)) ?_)))))
  rintro _ _ ⟨y1,rfl,rfl,Y4⟩
  have hkb0:=Y4
  have hkb:=hkb0.le (z2:=qz) hrz
  exact Z8 14 (Yq 14 [] [0] [b3] (CF x1 y1 (hp:=om) (hl:=om)) (Z8 15 (dL 15 [0] [b3] (Yy [ZV.mk x1.params x1.lent x1.result y1]) 1 5 fun v2=>Yr 3 3 [] [(32,Tz [ZV.mk x1.params x1.lent x1.result y1])] (Z8 16 (dp 16 4 [] [] (Yy (rs++[ZV.mk x1.params x1.lent x1.result y1])) (Yy rs) (Yy [ZV.mk x1.params x1.lent x1.result y1]) u none 5 (U3 _) (U3 _) (Jb _) (by simp<;>omega) (by simp [JK,Yy]) fun v3=>Zk 1 2 [17] (Z8 18 (YM 18 2 [] [] b3 [Ya n.decls,Wd (rs++[ZV.mk x1.params x1.lent x1.result y1]) v3] (de (az (Z2 1 (ZG k (Z0 (ZH ⟨k+1,(rs++[ZV.mk x1.params x1.lent x1.result y1]),v3,ob,ob,(Xu Zw (hrf.with hkb.fb hkb.sz hkb.op)),rfl,rfl,rfl⟩ (wk [0,2,2,0] (ZJ k fl)))))))))))))))
 exact ax 0 (Zu 1 [0] (Zz 1 b2 [Ya n.decls,Wd rs u] (ie (ZD (r3 [] [.agg [Ya n.decls,Wd rs u]] [0] [(b2,b2)] ⟨(Zq.mk n.decls rs),rfl,rfl,(FO.fin hn.fn om Zw).1⟩ (Zc.agg (.cons (lr _) (.cons (Zc.forget _ _) .nil))))))))
theorem Nw (b:Nat) (ga:Hd) (gb:Hd) (gc:Hd) (gd:Hd) (ge:Hd) (gf:Hd) (n:Zq) (s:Z4) (L:ZK) (ln:LI) (q:Int) (i:Nat) (kb0:Z5) (m:LI) (hn:Xe n:=by exact ob) (hk:XD n.decls L q:=by exact ob) (hf:Ba n L.vars s:=by exact ob) (hop:s.op=7∨s.op=8:=by exact ob) (hkb:s.kids[i]? = some kb0:=by exact ob) (harm:(Xx n.decls s.op s.num)[i]? = some m:=by exact ob) (hbt:0<=X7 n (L.vars++m) kb0:=by exact ob) (hb:L.vars.length+4*s.sz<=1000000000:=by exact ob) (hq:0<=q/\q+4*s.sz<=999999990:=by exact ob) (hln:ln.length<=4294967296:=by exact ob) (ih:∀(b2:Z5) (c:Nat) (ra:Hd) (rb:Hd) (rc:Hd) (rd:Hd) (re:Hd) (rf:Hd) (M:ZK) (mm:Nat) (p:Int),(b2.sz<s.sz)->(XD n.decls M p)->(0<=X7 n M.vars b2)->(mm<=M.vars.length)->(M.vars.length+4*b2.sz<=1000000000)->(0<=p/\p+4*b2.sz<=999999990)->Zi 129 [.p c 0,Yk n,ZI b2,.i mm] [.obj c [.h ra,.h rb,.h rc,.h rd,.h re,.h rf,Z6 ln],rV ra M.vars,rV rb M.own,rV rc M.par,rV rd M.con,rV re M.fst,rV rf M.tok] (fun r h=>(∃(wa:Hd) (wb:Hd) (wc:Hd) (wd:Hd) (we:Hd) (wf:Hd) (M':ZK),r=.b true/\h=[.obj c [.h wa,.h wb,.h wc,.h wd,.h we,.h wf,Z6 ln],rV wa M'.vars,rV wb M'.own,rV wc M'.par,rV wd M'.con,rV we M'.fst,rV wf M'.tok]/\VO n ln M mm b2=some M')∨(r=.b false/\h=[]/\VO n ln M mm b2=none))):Zi 218 [.p b 0,Yk n,YC s,.i i] [.obj b [.h ga,.h gb,.h gc,.h gd,.h ge,.h gf,Z6 ln],rV ga L.vars,rV gb L.own,rV gc L.par,rV gd L.con,rV ge L.fst,rV gf L.tok] (fun r h=>(∃(c:Nat) (wa:Hd) (wb:Hd) (wc:Hd) (wd:Hd) (we:Hd) (wf:Hd) (L':ZK),r=.tup [.p c 0,.b true]/\h=[.obj c [.h wa,.h wb,.h wc,.h wd,.h we,.h wf,Z6 ln],rV wa L'.vars,rV wb L'.own,rV wc L'.par,rV wd L'.con,rV we L'.fst,rV wf L'.tok,.obj b [.h ga,.h gb,.h gc,.h gd,.h ge,.h gf,Z6 ln],rV ga L.vars,rV gb L.own,rV gc L.par,rV gd L.con,rV ge L.fst,rV gf L.tok]/\VO n ln (Tl n.decls L s.op s.num s.args i) L.vars.length kb0=some L')∨(r=.tup [.any,.b false]/\h=[.obj b [.h ga,.h gb,.h gc,.h gd,.h ge,.h gf,Z6 ln],rV ga L.vars,rV gb L.own,rV gc L.par,rV gd L.con,rV ge L.fst,rV gf L.tok]/\VO n ln (Tl n.decls L s.op s.num s.args i) L.vars.length kb0=none)):=by
 obtain ⟨e1,e2,e3,e4,e5⟩:=hk.len
 have Xy:=hn.decls
 have hkz:=Ut s
 have haz:=TJ s
 have hK:=Fc hk hq.1 hf hop harm
 have hm3:=Lg Xy harm
 have hkl:=(XS.1 hkb).1
 have hks:=Us hkb
 refine ZF 83 Tryz.func218 (ar (iA (YJ n) fun b1=>iA (Xm s) fun b2=>Z0 (Zu 4 [2] (Zm (Aa 3 ga L.vars) (Z0 (Yc 1 (ic [2,2,2,2,2,2,2] (Z65 b ga gb gc gd ge gf L ln (hlk:=hk.len)) ?_)))))))
 rintro _ _ ⟨c1,wa1,wb1,wc1,wd1,we1,wf1,rfl,rfl⟩
 refine Z0 (X4 (VY [14] (ac (s.op==8) Zs (fun Za=>?_) (fun Za=>?_))))
 ·obtain ⟨x,hxa⟩:=hf.one om
  have ha:s.args[0]? = some x:=by rw [hxa];rfl
  have hx:=hf.args x (by rw [hxa];simp)
  obtain ⟨cc,hcc,hmc⟩:=RO Za harm
  have hal:=(XS.1 ha).1
  have hcl:=(XS.1 hcc).1
  have hm4:=hm3
  rw [hmc] at hm4
  refine Zu 4 [15,14] (ic [] (Jp n.decls s.num) ?_)
  rintro _ _ ⟨v1,rfl,rfl⟩
  refine Z2 1 (Zm (Zg (some v1) (i:Int) 1 (Y3 hcc)) (Z0 (Zu 3 [16] (Zy [] (QW n.decls cc) (Z0 (aD 11 (ZO 5 11 [0,1,2,3,4,5] [1,15] (dx 6 (Zg none 0 1 (Y3 ha)) (Zk 2 4 [7,8] (dx 9 (VL 5 wd1 L.con x x.toNat (hq:=rfl)) (Z8 10 (Av 10 5 [] [] wd1 L.con x.toNat cc (de (aD 11 (ZO 5 11 [0,1,2,3,4,5] [2,15] (dx 6 (Zg none 0 1 (Y3 ha)) (Zk 2 4 [7,8] (dx 9 (VL 6 we1 L.fst x x.toNat (hq:=rfl)) (Z8 10 (Av 10 6 [] [] we1 L.fst x.toNat (L.vars.length:Int) (de (ZP (ab 0 (Y0 (fun fz gz m F h=>∃(k:Nat) (L3:ZK) (ka:Hd) (kb:Hd) (kc:Hd) (kd:Hd) (ke:Hd) (kf:Hd),(k<=(ZX n.decls cc).length)/\(T2 L3)/\(L3.vars.length=L.vars.length+k)/\(Bn L3 x ((ZX n.decls cc).drop k)=Bd n.decls L x cc)/\F=sF [3,5,6,10,11,13] fz [(14,.i k)]/\h=[.obj c1 [.h ka,.h kb,.h kc,.h kd,.h ke,.h kf,Z6 ln],Zh gz 8,Zh gz 9,Zh gz 10,Zh gz 11,Zh gz 12,Zh gz 13,Zh gz 14,Zh gz 15,Zh gz 16,rV ka L3.vars,rV kb L3.own,rV kc L3.par,rV kd L3.con,rV ke L3.fst,rV kf L3.tok]/\m=(ZX n.decls cc).length-k) _ _ _ ⟨0,(ZK.mk L.vars L.own L.par (L.con.set x.toNat cc) (L.fst.set x.toNat (L.vars.length:Int)) L.tok),wa1,wb1,wc1,wd1,we1,wf1,ob,(T2.arm hk.len),ob,(by rw [Bd];rfl),rfl,rfl,rfl⟩ (wk [3,7,7,7,7,7,7,7,7,7,3,3,3,1,0,1] (Y5 fl) (e:=(rc (rc (rc (rc (rc (rc (rc (rc (rc (rc (rv (xs:=L.vars) ob (rv (xs:=L.own) ob (rv (xs:=L.par) ob (rv (xs:=(L.con.set x.toNat cc)) ob (rv (xs:=(L.fst.set x.toNat (L.vars.length:Int))) ob (rv (xs:=L.tok) ob rz)))))))))))))))))) ?_))))))))))))))))))))))))
  rintro m F h ⟨k,L3,ka,kb,kc,kd,ke,kf,Yb,Zl,Zw,YN,rfl,rfl,rfl⟩
  refine YO 2 (io (.i (((ZX n.decls cc).length:Nat):Int)) (.i (((Z7 (ZX n.decls cc)).length:Nat):Int)) (li (by rw [Yi])) (ZZ ((k:Int)<(((ZX n.decls cc).length:Nat):Int)) (fun Zf=>?_) (fun Zf=>?_)))
  ·refine ak (aq (ab 1 (aE 10 (Zk 7 10 [0,1,2] ?_))))
   obtain ⟨x1,Z3⟩:=Zr (ZX n.decls cc) k om
   refine dx 3 (Zg none (k:Int) 1 (Y3 Z3)) (ZO 3 6 [4,5,6] [8] (dx 7 (Zg none 0 1 (Y3 ha)) (Zk 1 2 [8] (Z8 9 (dc 9 [0,9,9,9,9,9,9] [] [] (QS c1 ka kb kc kd ke kf L3 ln x1 0 x (hlk:=Zl)) ?_)))))
   rintro _ _ ⟨wa2,wb2,wc2,wd2,we2,wf2,rfl⟩
   exact de (az (Z2 1 (ZG k (Z0 (ZH ⟨k+1,(L3.grow x1 0 x),wa2,wb2,wc2,wd2,we2,wf2,ob,(T2.grow Zl),(by simp [ZK.grow];omega),(by rw [Y9 Z3,Bn] at YN;exact YN),rfl,rfl,rfl⟩ (wk [0,6,6,6,6,6,6,6,6,6,0,0,0,0,0,0] (ZJ k fl)))))))
  have hE:Tl n.decls L s.op s.num s.args i=L3:=by rw [Z5j Za ha hcc,<-YN,Xf om];rfl
  refine ax 0 (aD 12 (ZO 6 12 [0,1,2,3,4,5] [9,8] (dx 6 (Zg none (i:Int) 2 (U2 hkb)) (Zk 3 5 [7,8] (Z8 9 (dc 9 [0,9,9,9,9,9,9] [] [] (ih kb0 c1 ka kb kc kd ke kf L3 L.vars.length q ob (by rw [<-hE];exact hK.1) (by rw [<-hE,hK.2];exact hbt) (by rw [<-hE,hK.2];simp) (by rw [<-hE,hK.2,Yx];omega) ob) ?_))))))
  rintro _ _ (⟨wa3,wb3,wc3,wd3,we3,wf3,M'1,rfl,rfl,Y4⟩|⟨rfl,rfl,Ym⟩)
  ·exact Zk 0 2 [10,11] (de (ZD (r2 [0,0,0,0,0,0,0,0,0,0,0,0,0,0] [.p c1 0,.b true] (.inl ⟨c1,wa3,wb3,wc3,wd3,we3,wf3,M'1,rfl,rfl,(by rw [hE];exact Y4)⟩) (lr _))))
  exact Zk 0 2 [10,11] (de (ZD (r2 [0,0,0,0,0,0,0] [.p c1 0,.b false] (.inr ⟨rfl,rfl,(by rw [hE];exact Ym)⟩) (Zc.tup (.cons (Zc.any _) (.cons (lr _) .nil))))))
 have hE:=Z5k (ds:=n.decls) (L:=L) (num:=s.num) (args:=s.args) (i:=i) Za
 refine ak (aD 12 (ZO 6 12 [0,1,2,3,4,5] [15,14] (dx 6 (Zg none (i:Int) 2 (U2 hkb)) (Zk 3 5 [7,8] (Z8 9 (dc 9 [0,0,0,0,0,0,0] [] [] (ih kb0 c1 wa1 wb1 wc1 wd1 we1 wf1 L L.vars.length q ob (by rw [<-hE];exact hK.1) (by rw [<-hE,hK.2];exact hbt) (by rw [<-hE,hK.2];simp) (by rw [<-hE,hK.2,Yx];omega) ob) ?_))))))
 rintro _ _ (⟨wa4,wb4,wc4,wd4,we4,wf4,M'2,rfl,rfl,YQ⟩|⟨rfl,rfl,YZ⟩)
 ·exact Zk 0 2 [10,11] (de (ZD (r2 [0,0,0,0,0,0,0,0,0,0,0,0,0,0] [.p c1 0,.b true] (.inl ⟨c1,wa4,wb4,wc4,wd4,we4,wf4,M'2,rfl,rfl,(by rw [hE];exact YQ)⟩) (lr _))))
 exact Zk 0 2 [10,11] (de (ZD (r2 [0,0,0,0,0,0,0] [.p c1 0,.b false] (.inr ⟨rfl,rfl,(by rw [hE];exact YZ)⟩) (Zc.tup (.cons (Zc.any _) (.cons (lr _) .nil))))))
theorem Z64 (b:Nat) (ga:Hd) (gb:Hd) (gc:Hd) (gd:Hd) (ge:Hd) (gf:Hd) (n:Zq) (s:Z4) (L:ZK) (ln:LI) (q:Int) (hn:Xe n:=by exact ob) (hk:XD n.decls L q:=by exact ob) (hf:Ba n L.vars s:=by exact ob) (hop:s.op=7∨s.op=8:=by exact ob) (hb:L.vars.length+4*s.sz<=1000000000:=by exact ob) (hq:0<=q/\q+4*s.sz<=999999990:=by exact ob) (hln:ln.length<=4294967296:=by exact ob) (ih:∀(b2:Z5) (c:Nat) (ra:Hd) (rb:Hd) (rc:Hd) (rd:Hd) (re:Hd) (rf:Hd) (M:ZK) (mm:Nat) (p:Int),(b2.sz<s.sz)->(XD n.decls M p)->(0<=X7 n M.vars b2)->(mm<=M.vars.length)->(M.vars.length+4*b2.sz<=1000000000)->(0<=p/\p+4*b2.sz<=999999990)->Zi 129 [.p c 0,Yk n,ZI b2,.i mm] [.obj c [.h ra,.h rb,.h rc,.h rd,.h re,.h rf,Z6 ln],rV ra M.vars,rV rb M.own,rV rc M.par,rV rd M.con,rV re M.fst,rV rf M.tok] (fun r h=>(∃(wa:Hd) (wb:Hd) (wc:Hd) (wd:Hd) (we:Hd) (wf:Hd) (M':ZK),r=.b true/\h=[.obj c [.h wa,.h wb,.h wc,.h wd,.h we,.h wf,Z6 ln],rV wa M'.vars,rV wb M'.own,rV wc M'.par,rV wd M'.con,rV we M'.fst,rV wf M'.tok]/\VO n ln M mm b2=some M')∨(r=.b false/\h=[]/\VO n ln M mm b2=none))):Zi 167 [.p b 0,Yk n,YC s] [.obj b [.h ga,.h gb,.h gc,.h gd,.h ge,.h gf,Z6 ln],rV ga L.vars,rV gb L.own,rV gc L.par,rV gd L.con,rV ge L.fst,rV gf L.tok] (fun r h=>(∃(wa:Hd) (wb:Hd) (wc:Hd) (wd:Hd) (we:Hd) (wf:Hd) (L':ZK),r=.b true/\h=[.obj b [.h wa,.h wb,.h wc,.h wd,.h we,.h wf,Z6 ln],rV wa L'.vars,rV wb L'.own,rV wc L'.par,rV wd L'.con,rV we L'.fst,rV wf L'.tok]/\Bf n ln L s=some L')∨(r=.b false/\h=[]/\Bf n ln L s=none)):=by
 obtain ⟨e1,e2,e3,e4,e5⟩:=hk.len
 have Xy:=hn.decls
 have hkz:=Ut s
 have haz:=TJ s
 obtain ⟨hk1,hk2,hk3⟩:=hf.kids hop
 obtain ⟨kd,hkd⟩:=Zr s.kids 0 om
 obtain ⟨m0,hm0⟩:=Zr (Xx n.decls s.op s.num) 0 om
 obtain ⟨x,hxa⟩:=hf.one om
 have ha:s.args[0]? = some x:=by rw [hxa];rfl
 have hx:=hf.args x (by rw [hxa];simp)
 have hgx:=JR ha
 have hal:=(XS.1 ha).1
 refine ZF 88 Tryz.func167 (ar (iA (YJ n) fun b1=>iA (Xm s) fun b2=>Z0 (X4 (Xi [0,4,5] [(23,.b ((s.op==8)&&(!UL L ln x)))] (fun gz=>[Zh gz 2,Zh gz 3,Zh gz 4,Zh gz 5,Zh gz 6,Zh gz 7,Zh gz 8,Zh gz 0,Zh gz 1]) ?_ ?_))))
 ·refine ZL 4 [0] (ib (b:=(s.op==8)) 15 (fun Zd=>?_) (fun Zd=>?_))
  ·exact ZL 3 [0] (Zm (Zg none 0 1 (Y3 ha)) (Z2 1 (Zy [2,2,2,2,2,2,2] (Fg b ga gb gc gd ge gf L ln x (hlk:=hk.len) (hd:=hk.down)) (Z0 (ZM 9 (Zp (!UL L ln x) Zd fl))))))
  exact Z0 (wk [2,2,2,2,2,2,2,0,0] (Zp false Zd fl))
 refine ac ((s.op==8)&&(!UL L ln x)) (p:=(s.op=8)/\(¬(UL L ln x=true))) (YK Zs (Yn Iff.rfl)) (fun Za=>?_) (fun Za=>?_)
 ·exact ar (Zt (r1 [] (.inr ⟨rfl,rfl,(by rw [Bf,Zj (by rw [hgx];exact Za)])⟩)))
 have hgo:=S7 (n:=n) (ln:=ln) (L:=L) (s:=s) (by rw [hgx];exact Za) hkd
 refine ak (Zu 3 [8,7] (ic [0,0,0,0,0,0,0] (Nw b ga gb gc gd ge gf n s L ln q 0 kd m0 (hkb:=hkd) (harm:=hm0) (hbt:=(hk3 0 kd m0 hkd hm0)) (ih:=ob)) ?_))
 rintro _ _ (⟨c1,wa1,wb1,wc1,wd1,we1,wf1,L'1,rfl,rfl,YQ⟩|⟨rfl,rfl,YZ⟩)
 ·have hone:=YQ
  obtain ⟨l1,l2⟩:=Nk hn hk hq.1 hf hop hkd hm0 (hk3 0 kd m0 hkd hm0) hone
  refine Z0 (Y7 (WT (ak (Y7 (ab 0 (Y0 (fun fz gz m F h=>∃(k:Nat),(1<=k/\k<=s.kids.length)/\(KI n ln L s.op s.num s.args L'1 (s.kids.drop k) k=KI n ln L s.op s.num s.args L'1 (s.kids.drop 1) 1)/\F=sF [0,4,5,7] fz [(9,.i k)]/\h=gz/\m=s.kids.length-k) _ _ _ ⟨1,ob,ob,rfl,rfl,rfl⟩ (ZM 16 (fc (x:=.i 1) li fl)) ?_))))))
  rintro m F h ⟨k,Yb,Zl,rfl,rfl,rfl⟩
  refine Yf 3 [14] (iw (Vr s.kids) (ZZ ((k:Int)<(s.kids.length:Int)) (fun Zf=>?_) (fun Zf=>?_)))
  ·obtain ⟨ke,hke⟩:=Zr s.kids k om
   obtain ⟨mk,hmk⟩:=Zr (Xx n.decls s.op s.num) k om
   have hcs:=Z5p (n:=n) (ln:=ln) (L:=L) (op:=s.op) (num:=s.num) (args:=s.args) (one:=L'1) hke
   refine ak (aq (ab 1 (Zu 4 [15,14] (ic [7,7,7,7,7,7,7] (Nw b ga gb gc gd ge gf n s L ln q k ke mk (hkb:=hke) (harm:=hmk) (hbt:=(hk3 k ke mk hke hmk)) (ih:=ob)) ?_))))
   rintro _ _ (⟨c2,wa2,wb2,wc2,wd2,we2,wf2,L'2,rfl,rfl,Xg⟩|⟨rfl,rfl,XX⟩)
   ·have htwo:=Xg
    obtain ⟨l3,l4⟩:=Nk hn hk hq.1 hf hop hke hmk (hk3 k ke mk hke hmk) htwo
    refine Z0 (aD 26 (ZO 15 26 [0,1,2,3,4,5,6,7,8,9,10] [14,0] (Z8 11 (J5 11 [16,2] [] [] [rV wb1 L'1.own,rV wb2 L'2.own] (Pq L'1.own L'2.own) En (gL (v:=wb1) 0 (gL (v:=wb2) 1 gN)) (Kh (Kh Jj)) ?_))))
    rintro _ _ ⟨rfl,rfl⟩
    refine JF [0,4,5,7,9] [(73,.b ((!(decide (L'1.own=L'2.own)))||(!(decide (L'1.tok=L'2.tok)))))] (fun gz=>gz) ?_ ?_
    ·refine Zk 11 14 [12,13,14] (db (b:=(!(decide (L'1.own=L'2.own)))) 62 (fun ZC=>?_) (fun ZC=>?_))
     ·exact Zk 0 11 [15,16,17,18,19,20,21,22,23,24,25] (de (ZM 23 (Zp true ZC fl)))
     refine ZO 3 11 [15,16,17,18,19,20,21,22] [15,2] (Z8 23 (J5 23 [20,7] [] [] [rV wf1 L'1.tok,rV wf2 L'2.tok] (Pq L'1.tok L'2.tok) En (gL (v:=wf1) 0 (gL (v:=wf2) 1 gN)) (Kh (Kh Jj)) ?_))
     rintro _ _ ⟨rfl,rfl⟩
     exact Zk 0 2 [24,25] (de (wk [2,2,2,2,2,2,2,1,1,1,1,1,1,1,1,1,1,1,1,1,0,0,0] (Zp (!(decide (L'1.tok=L'2.tok))) ZC fl)))
    refine ac ((!(decide (L'1.own=L'2.own)))||(!(decide (L'1.tok=L'2.tok)))) (p:=(¬(L'1.own=L'2.own))∨(¬(L'1.tok=L'2.tok))) (Yh (Yn dq) (Yn dq)) (fun ZA=>?_) (fun ZA=>?_)
    ·exact ar (Zt (r1 [] (.inr ⟨rfl,rfl,(by rw [hgo,hone];exact ND (by rw [<-Zl,hcs,htwo];exact Z9p ZA))⟩)))
    exact ak (az (Z2 1 (ZG k (Z0 (ZH ⟨k+1,ob,(by rw [hcs,htwo,Z9q ZA] at Zl;exact Zl),rfl,rfl,rfl⟩ (wk [15,15,0,14,14,14,14,7,7,7,7,7,7,7,7,7] (ZJ k fl)))))))
   have htwo:=XX
   exact Z0 (aD 26 (Zk 0 26 [0,1,2,3,4,5,6,7,8,9,10,11,12,13,14,15,16,17,18,19,20,21,22,23,24,25] (de (WU (ar (Zt (r1 [] (.inr ⟨rfl,rfl,(by rw [hgo,hone];exact ND (by rw [<-Zl,hcs,htwo];rfl))⟩))))))))
  have hE:KI n ln L s.op s.num s.args L'1 (s.kids.drop 1) 1=true:=by rw [<-Zl,Xf om,KI]
  exact ax 0 (Zu 7 [0] (Zz 7 b [.h ga,.h wb1,.h gc,.h gd,.h ge,.h gf,Z6 ln] (ie (Zu 7 [1] (Zz 0 b [.h ga,.h wb1,.h gc,.h gd,.h ge,.h wf1,Z6 ln] (ie (ar (Zt (r1 [0,7,2,7,7,7,5] (.inl ⟨ga,wb1,gc,gd,ge,wf1,(ZK.mk L.vars L'1.own L.par L.con L.fst L'1.tok),rfl,rfl,(by rw [hgo,hone];exact Z6l hE)⟩) (eq:=(rc (rv (xs:=L.vars) ob (rv (xs:=L'1.own) ob (rv (xs:=L.par) ob (rv (xs:=L.con) ob (rv (xs:=L.fst) ob (rv (xs:=L'1.tok) ob rz)))))))))))))))))
 have hone:=YZ
 exact Z0 (Y7 (WU (ar (Zt (r1 [] (.inr ⟨rfl,rfl,(by rw [hgo,hone];rfl)⟩))))))
theorem Nx (b:Nat) (ga:Hd) (gb:Hd) (gc:Hd) (gd:Hd) (ge:Hd) (gf:Hd) (n:Zq) (s:Z4) (L:ZK) (ln:LI) (q:Int) (hn:Xe n:=by exact ob) (hk:XD n.decls L q:=by exact ob) (ht:0<=Yj n L.vars s:=by exact ob) (hb:L.vars.length+4*s.sz<=1000000000:=by exact ob) (hq:0<=q/\q+4*s.sz<=999999990:=by exact ob) (hln:ln.length<=4294967296:=by exact ob) (ih:∀(b2:Z5) (c:Nat) (ra:Hd) (rb:Hd) (rc:Hd) (rd:Hd) (re:Hd) (rf:Hd) (M:ZK) (mm:Nat) (p:Int),(b2.sz<s.sz)->(XD n.decls M p)->(0<=X7 n M.vars b2)->(mm<=M.vars.length)->(M.vars.length+4*b2.sz<=1000000000)->(0<=p/\p+4*b2.sz<=999999990)->Zi 129 [.p c 0,Yk n,ZI b2,.i mm] [.obj c [.h ra,.h rb,.h rc,.h rd,.h re,.h rf,Z6 ln],rV ra M.vars,rV rb M.own,rV rc M.par,rV rd M.con,rV re M.fst,rV rf M.tok] (fun r h=>(∃(wa:Hd) (wb:Hd) (wc:Hd) (wd:Hd) (we:Hd) (wf:Hd) (M':ZK),r=.b true/\h=[.obj c [.h wa,.h wb,.h wc,.h wd,.h we,.h wf,Z6 ln],rV wa M'.vars,rV wb M'.own,rV wc M'.par,rV wd M'.con,rV we M'.fst,rV wf M'.tok]/\VO n ln M mm b2=some M')∨(r=.b false/\h=[]/\VO n ln M mm b2=none))):Zi 126 [.p b 0,Yk n,YC s] [.obj b [.h ga,.h gb,.h gc,.h gd,.h ge,.h gf,Z6 ln],rV ga L.vars,rV gb L.own,rV gc L.par,rV gd L.con,rV ge L.fst,rV gf L.tok] (fun r h=>(∃(wa:Hd) (wb:Hd) (wc:Hd) (wd:Hd) (we:Hd) (wf:Hd) (L':ZK),r=.b true/\h=[.obj b [.h wa,.h wb,.h wc,.h wd,.h we,.h wf,Z6 ln],rV wa L'.vars,rV wb L'.own,rV wc L'.par,rV wd L'.con,rV we L'.fst,rV wf L'.tok]/\Qe n ln L s=some L')∨(r=.b false/\h=[]/\Qe n ln L s=none)):=by
 obtain ⟨e1,e2,e3,e4,e5⟩:=hk.len
 have Xy:=hn.decls
 have hkz:=Ut s
 have haz:=TJ s
 have hf:=PG ht
 refine ZF 89 Tryz.func126 (ar (iA (YJ n) fun b1=>iA (Xm s) fun b2=>Z0 (aD 8 (ZO 2 8 [0,1,2,3,4,5] [1,2,0] (Z8 6 (J5 6 [3] [] [] [rV ga L.vars] (IA n L.vars s ob ob) En (gS (gL (v:=ga) 0 (gS gN))) (Kh Jj) ?_))))))
 rintro _ _ ⟨rfl,rfl⟩
 refine Zk 0 1 [7] (de (ZP (X4 (VY [1] (ab 0 (ar (YG (s.op==14) Zs (fun Za=>?_) (fun Za=>?_))))))))
 ·obtain ⟨x,hxa⟩:=hf.one om
  have ha:s.args[0]? = some x:=by rw [hxa];rfl
  have hx:=hf.args x (by rw [hxa];simp)
  have hgx:=JR ha
  have hal:=(XS.1 ha).1
  obtain ⟨xo,hxo⟩:=Zr L.own x.toNat om
  have hgo:=Tj hxo
  have hob:=hk.bd xo (Y1 hxo)
  have hon:=hk.nn xo (Y1 hxo)
  refine Zu 3 [1] (Zm (Zg none 0 1 (Y3 ha)) (Z2 1 (Zy [3,0,2,2,2,2,2] (Fg b ga gb gc gd ge gf L ln x (hlk:=hk.len) (hd:=hk.down)) (Z0 (aE 21 (ZO 15 21 [0,1,2,3,4,5] [0,7] (dx 6 (Zg none 0 1 (Y3 ha)) (ZO 7 14 [7,8,9,10,11,12,13] [0,7] (dx 14 (Zg none 0 1 (Y3 ha)) (Zk 5 6 [15] (dx 16 (VL 2 gb L.own x x.toNat (hq:=rfl)) (U1 17 (TW 2 gb L.own x.toNat xo hxo) (da 18 ((xo+1)) ((xo)+(1)) (dx 19 (VL 2 gb L.own x x.toNat (hq:=rfl)) (Z8 20 (Av 20 2 [] [] gb L.own x.toNat (xo+1) (de (X4 (YG (!UL L ln x) (p:=¬(UL L ln x=true)) (Yn Iff.rfl) (fun Zf=>?_) (fun Zf=>?_))))))))))))))))))))
  ·have hP:=(O8 (n:=n) (ln:=ln) (L:=L) Za hgx).trans (Z02 Zf)
   exact ar (Zt (r1 [] (.inr ⟨rfl,rfl,(by rw [UZ,hP];first|rfl|exact UQ (by assumption)|exact UR (by assumption) (by assumption)|exact US (by assumption))⟩)))
  have hP:=(O8 (n:=n) (ln:=ln) (L:=L) Za hgx).trans (Z03 Zf hgo)
  obtain ⟨kx,hxv⟩:=DK hn hk hq.1 hf hP
  refine ak (Yf 2 [7] (Zy [] (Kn s.op) (Xi [0,5,7] [(80,.b (XT s.op&&((Yj n L.vars s) != 0)))] (fun gz=>gz) ?_ ?_)))
  ·refine Z2 1 (ib (b:=XT s.op) 77 (fun Zd=>?_) (fun Zd=>?_))
   ·exact Z0 (ZM 9 (Zp ((Yj n L.vars s) != 0) Zd fl))
   exact Z0 (ZM 9 (Zp false Zd fl))
  refine ac (XT s.op&&((Yj n L.vars s) != 0)) (p:=(XT s.op=true)/\((Yj n L.vars s)≠0)) (YK Iff.rfl Y6) (fun ZA=>?_) (fun ZA=>?_)
  ·refine az (Z2 2 (ic [1,1,0,0,0,0,0] (QS b ga gb gc gd ge gf (ZK.mk L.vars (L.own.set x.toNat (xo+1)) L.par L.con L.fst L.tok) ln (Yj n L.vars s) 1 (-1) (hlb:=(by rw [hxv];omega)) (hlk:=kx.len)) ?_))
   rintro _ _ ⟨wa1,wb1,wc1,wd1,we1,wf1,rfl⟩
   exact ie (ar (Zt (r1 [0,0,0,0,0,0,0] (.inl ⟨wa1,wb1,wc1,wd1,we1,wf1,((ZK.mk L.vars (L.own.set x.toNat (xo+1)) L.par L.con L.fst L.tok).grow (Yj n L.vars s) 1 (-1)),rfl,rfl,(by rw [UZ,hP];first|rfl|exact UQ (by assumption)|exact UR (by assumption) (by assumption)|exact US (by assumption))⟩))))
  refine Zu 2 [7] (Zy [] (Kn s.op) (ie (ac (XT s.op) Iff.rfl (fun Yl=>?_) (fun Yl=>?_))))
  ·refine az (Z2 1 (ic [1,1,0,0,0,0,0] (QS b ga gb gc gd ge gf (ZK.mk L.vars (L.own.set x.toNat (xo+1)) L.par L.con L.fst L.tok) ln 0 0 (-1) (hlb:=(by rw [hxv];omega)) (hlk:=kx.len)) ?_))
   rintro _ _ ⟨wa2,wb2,wc2,wd2,we2,wf2,rfl⟩
   exact ie (ar (Zt (r1 [0,0,0,0,0,0,0] (.inl ⟨wa2,wb2,wc2,wd2,we2,wf2,((ZK.mk L.vars (L.own.set x.toNat (xo+1)) L.par L.con L.fst L.tok).grow 0 0 (-1)),rfl,rfl,(by rw [UZ,hP];first|rfl|exact UQ (by assumption)|exact UR (by assumption) (by assumption)|exact US (by assumption))⟩))))
  exact ak (ar (Zt (r1 [1,1,0,0,0,0,0] (.inl ⟨ga,gb,gc,gd,ge,gf,(ZK.mk L.vars (L.own.set x.toNat (xo+1)) L.par L.con L.fst L.tok),rfl,rfl,(by rw [UZ,hP];first|rfl|exact UQ (by assumption)|exact UR (by assumption) (by assumption)|exact US (by assumption))⟩) (eq:=(rc (rv (xs:=L.vars) ob (rv (xs:=(L.own.set x.toNat (xo+1))) ob (rv (xs:=L.par) ob (rv (xs:=L.con) ob (rv (xs:=L.fst) ob (rv (xs:=L.tok) ob rz)))))))))))
 refine ar (YG (s.op==15) Zs (fun Xd=>?_) (fun Xd=>?_))
 ·obtain ⟨x,hxa⟩:=hf.one om
  have ha:s.args[0]? = some x:=by rw [hxa];rfl
  have hx:=hf.args x (by rw [hxa];simp)
  have hgx:=JR ha
  have hal:=(XS.1 ha).1
  refine az (ZL 3 [1] (Zm (Zg none 0 1 (Y3 ha)) (Z2 1 (ic [3,0,2,2,2,2,2] (Fh b ga gb gc gd ge gf L ln x (hlk:=hk.len) (hq:=(fun y hy=>⟨hk.nn y hy,by have:=hk.bd y hy;omega⟩))) ?_))))
  rintro _ _ (⟨wa3,wb3,wc3,wd3,we3,wf3,L'1,rfl,rfl,YQ⟩|⟨rfl,rfl,YZ⟩)
  ·have hP:=(O9 (n:=n) (ln:=ln) (L:=L) Xd hgx).trans (YQ)
   obtain ⟨kx,hxv⟩:=DK hn hk hq.1 hf hP
   refine Z0 (Y7 (WT (ak (Yf 2 [7] (Zy [] (Kn s.op) (Xi [0,5,7] [(80,.b (XT s.op&&((Yj n L.vars s) != 0)))] (fun gz=>gz) ?_ ?_))))))
   ·refine Z2 1 (ib (b:=XT s.op) 77 (fun ZC=>?_) (fun ZC=>?_))
    ·exact Z0 (ZM 9 (Zp ((Yj n L.vars s) != 0) ZC fl))
    exact Z0 (ZM 9 (Zp false ZC fl))
   refine ac (XT s.op&&((Yj n L.vars s) != 0)) (p:=(XT s.op=true)/\((Yj n L.vars s)≠0)) (YK Iff.rfl Y6) (fun Xp=>?_) (fun Xp=>?_)
   ·refine az (Z2 2 (ic [0,0,0,0,0,0,0] (QS b wa3 wb3 wc3 wd3 we3 wf3 L'1 ln (Yj n L.vars s) 1 (-1) (hlb:=(by rw [hxv];omega)) (hlk:=kx.len)) ?_))
    rintro _ _ ⟨wa4,wb4,wc4,wd4,we4,wf4,rfl⟩
    exact ie (ar (Zt (r1 [0,0,0,0,0,0,0] (.inl ⟨wa4,wb4,wc4,wd4,we4,wf4,(L'1.grow (Yj n L.vars s) 1 (-1)),rfl,rfl,(by rw [UZ,hP];first|rfl|exact UQ (by assumption)|exact UR (by assumption) (by assumption)|exact US (by assumption))⟩))))
   refine Zu 2 [7] (Zy [] (Kn s.op) (ie (ac (XT s.op) Iff.rfl (fun VF=>?_) (fun VF=>?_))))
   ·refine az (Z2 1 (ic [0,0,0,0,0,0,0] (QS b wa3 wb3 wc3 wd3 we3 wf3 L'1 ln 0 0 (-1) (hlb:=(by rw [hxv];omega)) (hlk:=kx.len)) ?_))
    rintro _ _ ⟨wa5,wb5,wc5,wd5,we5,wf5,rfl⟩
    exact ie (ar (Zt (r1 [0,0,0,0,0,0,0] (.inl ⟨wa5,wb5,wc5,wd5,we5,wf5,(L'1.grow 0 0 (-1)),rfl,rfl,(by rw [UZ,hP];first|rfl|exact UQ (by assumption)|exact UR (by assumption) (by assumption)|exact US (by assumption))⟩))))
   exact ak (ar (Zt (r1 [0,0,0,0,0,0,0] (.inl ⟨wa3,wb3,wc3,wd3,we3,wf3,L'1,rfl,rfl,(by rw [UZ,hP];first|rfl|exact UQ (by assumption)|exact UR (by assumption) (by assumption)|exact US (by assumption))⟩))))
  have hP:=(O9 (n:=n) (ln:=ln) (L:=L) Xd hgx).trans (YZ)
  exact Z0 (Y7 (WU (ar (Zt (r1 [] (.inr ⟨rfl,rfl,(by rw [UZ,hP];first|rfl|exact UQ (by assumption)|exact UR (by assumption) (by assumption)|exact US (by assumption))⟩))))))
 refine Y7 (XP (fun fz gz F h=>F=sF [0,4,5,7,17] fz [(58,.b ((s.op==16)||(s.op==17)))]/\h=gz) ?_ ?_)
 ·refine ac (s.op==16) Zs (fun Vw=>?_) (fun Vw=>?_)
  ·exact ak (ZT ⟨rfl,rfl⟩ (ZM 9 (fc (x:=.b (s.op==16)) (lb (by first|rfl|(rw [Zj Vw])|(rw [Z9 Vw])|(simp [Vw];done)|(rw [Xr];simp [Vw];done)|omega)) fl)))
  exact T6 (ZT ⟨rfl,rfl⟩ (ZM 9 (fc (x:=.b (s.op==17)) (lb (by first|rfl|(rw [Zj Vw])|(rw [Z9 Vw])|(simp [Vw];done)|(rw [Xr];simp [Vw];done)|omega)) fl)))
 rintro F h ⟨rfl,rfl⟩
 refine ac ((s.op==16)||(s.op==17)) (p:=(s.op=16)∨(s.op=17)) (Yh Zs Zs) (fun VS=>?_) (fun VS=>?_)
 ·obtain ⟨x,hxa⟩:=hf.one om
  have ha:s.args[0]? = some x:=by rw [hxa];rfl
  have hx:=hf.args x (by rw [hxa];simp)
  have hgx:=JR ha
  have hal:=(XS.1 ha).1
  refine az (ZL 3 [2,1] (ic [3,0,2,2,2,2,2] (Z67 b ga gb gc gd ge gf n s L ln q x) ?_))
  rintro _ _ (⟨wa6,wb6,wc6,wd6,we6,wf6,L'2,rfl,rfl,Wu⟩|⟨rfl,rfl,WZ⟩)
  ·have hP:=(Oa (n:=n) (ln:=ln) (L:=L) VS hgx).trans (Wu)
   obtain ⟨kx,hxv⟩:=DK hn hk hq.1 hf hP
   refine Z0 (Y7 (WT (ak (Yf 2 [7] (Zy [] (Kn s.op) (Xi [0,5,7] [(80,.b (XT s.op&&((Yj n L.vars s) != 0)))] (fun gz=>gz) ?_ ?_))))))
   ·refine Z2 1 (ib (b:=XT s.op) 77 (fun YB=>?_) (fun YB=>?_))
    ·exact Z0 (ZM 9 (Zp ((Yj n L.vars s) != 0) YB fl))
    exact Z0 (ZM 9 (Zp false YB fl))
   refine ac (XT s.op&&((Yj n L.vars s) != 0)) (p:=(XT s.op=true)/\((Yj n L.vars s)≠0)) (YK Iff.rfl Y6) (fun T7=>?_) (fun T7=>?_)
   ·refine az (Z2 2 (ic [0,0,0,0,0,0,0] (QS b wa6 wb6 wc6 wd6 we6 wf6 L'2 ln (Yj n L.vars s) 1 (-1) (hlb:=(by rw [hxv];omega)) (hlk:=kx.len)) ?_))
    rintro _ _ ⟨wa7,wb7,wc7,wd7,we7,wf7,rfl⟩
    exact ie (ar (Zt (r1 [0,0,0,0,0,0,0] (.inl ⟨wa7,wb7,wc7,wd7,we7,wf7,(L'2.grow (Yj n L.vars s) 1 (-1)),rfl,rfl,(by rw [UZ,hP];first|rfl|exact UQ (by assumption)|exact UR (by assumption) (by assumption)|exact US (by assumption))⟩))))
   refine Zu 2 [7] (Zy [] (Kn s.op) (ie (ac (XT s.op) Iff.rfl (fun KF=>?_) (fun KF=>?_))))
   ·refine az (Z2 1 (ic [0,0,0,0,0,0,0] (QS b wa6 wb6 wc6 wd6 we6 wf6 L'2 ln 0 0 (-1) (hlb:=(by rw [hxv];omega)) (hlk:=kx.len)) ?_))
    rintro _ _ ⟨wa8,wb8,wc8,wd8,we8,wf8,rfl⟩
    exact ie (ar (Zt (r1 [0,0,0,0,0,0,0] (.inl ⟨wa8,wb8,wc8,wd8,we8,wf8,(L'2.grow 0 0 (-1)),rfl,rfl,(by rw [UZ,hP];first|rfl|exact UQ (by assumption)|exact UR (by assumption) (by assumption)|exact US (by assumption))⟩))))
   exact ak (ar (Zt (r1 [0,0,0,0,0,0,0] (.inl ⟨wa6,wb6,wc6,wd6,we6,wf6,L'2,rfl,rfl,(by rw [UZ,hP];first|rfl|exact UQ (by assumption)|exact UR (by assumption) (by assumption)|exact US (by assumption))⟩))))
  have hP:=(Oa (n:=n) (ln:=ln) (L:=L) VS hgx).trans (WZ)
  exact Z0 (Y7 (WU (ar (Zt (r1 [] (.inr ⟨rfl,rfl,(by rw [UZ,hP];first|rfl|exact UQ (by assumption)|exact UR (by assumption) (by assumption)|exact US (by assumption))⟩))))))
 refine Y7 (XP (fun fz gz F h=>F=sF [0,4,5,7] fz [(65,.b ((s.op==7)||(s.op==8)))]/\h=gz) ?_ ?_)
 ·refine ac (s.op==7) Zs (fun Tv=>?_) (fun Tv=>?_)
  ·exact ak (ZT ⟨rfl,rfl⟩ (ZM 9 (fc (x:=.b (s.op==7)) (lb (by first|rfl|(rw [Zj Tv])|(rw [Z9 Tv])|(simp [Tv];done)|(rw [Xr];simp [Tv];done)|omega)) fl)))
  exact T6 (ZT ⟨rfl,rfl⟩ (ZM 9 (fc (x:=.b (s.op==8)) (lb (by first|rfl|(rw [Zj Tv])|(rw [Z9 Tv])|(simp [Tv];done)|(rw [Xr];simp [Tv];done)|omega)) fl)))
 rintro F h ⟨rfl,rfl⟩
 refine ac ((s.op==7)||(s.op==8)) (p:=(s.op=7)∨(s.op=8)) (Yh Zs Zs) (fun Kd=>?_) (fun Kd=>?_)
 ·refine az (ZL 3 [2,1] (ic [3,0,2,2,2,2,2] (Z64 b ga gb gc gd ge gf n s L ln q (ih:=ob)) ?_))
  rintro _ _ (⟨wa9,wb9,wc9,wd9,we9,wf9,L'3,rfl,rfl,UU⟩|⟨rfl,rfl,UV⟩)
  ·have hP:=(Ob (n:=n) (ln:=ln) (L:=L) Kd).trans (UU)
   obtain ⟨kx,hxv⟩:=DK hn hk hq.1 hf hP
   refine Z0 (Y7 (WT (ak (Yf 2 [7] (Zy [] (Kn s.op) (Xi [0,5,7] [(80,.b (XT s.op&&((Yj n L.vars s) != 0)))] (fun gz=>gz) ?_ ?_))))))
   ·refine Z2 1 (ib (b:=XT s.op) 77 (fun X2=>?_) (fun X2=>?_))
    ·exact Z0 (ZM 9 (Zp ((Yj n L.vars s) != 0) X2 fl))
    exact Z0 (ZM 9 (Zp false X2 fl))
   refine ac (XT s.op&&((Yj n L.vars s) != 0)) (p:=(XT s.op=true)/\((Yj n L.vars s)≠0)) (YK Iff.rfl Y6) (fun Bq=>?_) (fun Bq=>?_)
   ·refine az (Z2 2 (ic [0,0,0,0,0,0,0] (QS b wa9 wb9 wc9 wd9 we9 wf9 L'3 ln (Yj n L.vars s) 1 (-1) (hlb:=(by rw [hxv];omega)) (hlk:=kx.len)) ?_))
    rintro _ _ ⟨wa10,wb10,wc10,wd10,we10,wf10,rfl⟩
    exact ie (ar (Zt (r1 [0,0,0,0,0,0,0] (.inl ⟨wa10,wb10,wc10,wd10,we10,wf10,(L'3.grow (Yj n L.vars s) 1 (-1)),rfl,rfl,(by rw [UZ,hP];first|rfl|exact UQ (by assumption)|exact UR (by assumption) (by assumption)|exact US (by assumption))⟩))))
   refine Zu 2 [7] (Zy [] (Kn s.op) (ie (ac (XT s.op) Iff.rfl (fun Hu=>?_) (fun Hu=>?_))))
   ·refine az (Z2 1 (ic [0,0,0,0,0,0,0] (QS b wa9 wb9 wc9 wd9 we9 wf9 L'3 ln 0 0 (-1) (hlb:=(by rw [hxv];omega)) (hlk:=kx.len)) ?_))
    rintro _ _ ⟨wa11,wb11,wc11,wd11,we11,wf11,rfl⟩
    exact ie (ar (Zt (r1 [0,0,0,0,0,0,0] (.inl ⟨wa11,wb11,wc11,wd11,we11,wf11,(L'3.grow 0 0 (-1)),rfl,rfl,(by rw [UZ,hP];first|rfl|exact UQ (by assumption)|exact UR (by assumption) (by assumption)|exact US (by assumption))⟩))))
   exact ak (ar (Zt (r1 [0,0,0,0,0,0,0] (.inl ⟨wa9,wb9,wc9,wd9,we9,wf9,L'3,rfl,rfl,(by rw [UZ,hP];first|rfl|exact UQ (by assumption)|exact UR (by assumption) (by assumption)|exact US (by assumption))⟩))))
  have hP:=(Ob (n:=n) (ln:=ln) (L:=L) Kd).trans (UV)
  exact Z0 (Y7 (WU (ar (Zt (r1 [] (.inr ⟨rfl,rfl,(by rw [UZ,hP];first|rfl|exact UQ (by assumption)|exact UR (by assumption) (by assumption)|exact US (by assumption))⟩))))))
 refine az (ZL 3 [2,1] (ic [3,0,2,2,2,2,2] (Z66 b ga gb gc gd ge gf n s L ln q (hnum:=hf.num) (hargs:=hf.args) (hinto:=(fun q=>(hf.into om).2))) ?_))
 rintro _ _ (⟨wa12,wb12,wc12,wd12,we12,wf12,L'4,rfl,rfl,Ke⟩|⟨rfl,rfl,QR⟩)
 ·have hP:=(Oc (n:=n) (ln:=ln) (L:=L) Za Xd VS Kd).trans (Ke)
  obtain ⟨kx,hxv⟩:=DK hn hk hq.1 hf hP
  refine Z0 (Y7 (WT (ak (Yf 2 [7] (Zy [] (Kn s.op) (Xi [0,5,7] [(80,.b (XT s.op&&((Yj n L.vars s) != 0)))] (fun gz=>gz) ?_ ?_))))))
  ·refine Z2 1 (ib (b:=XT s.op) 77 (fun W6=>?_) (fun W6=>?_))
   ·exact Z0 (ZM 9 (Zp ((Yj n L.vars s) != 0) W6 fl))
   exact Z0 (ZM 9 (Zp false W6 fl))
  refine ac (XT s.op&&((Yj n L.vars s) != 0)) (p:=(XT s.op=true)/\((Yj n L.vars s)≠0)) (YK Iff.rfl Y6) (fun Hv=>?_) (fun Hv=>?_)
  ·refine az (Z2 2 (ic [0,0,0,0,0,0,0] (QS b wa12 wb12 wc12 wd12 we12 wf12 L'4 ln (Yj n L.vars s) 1 (-1) (hlb:=(by rw [hxv];omega)) (hlk:=kx.len)) ?_))
   rintro _ _ ⟨wa13,wb13,wc13,wd13,we13,wf13,rfl⟩
   exact ie (ar (Zt (r1 [0,0,0,0,0,0,0] (.inl ⟨wa13,wb13,wc13,wd13,we13,wf13,(L'4.grow (Yj n L.vars s) 1 (-1)),rfl,rfl,(by rw [UZ,hP];first|rfl|exact UQ (by assumption)|exact UR (by assumption) (by assumption)|exact US (by assumption))⟩))))
  refine Zu 2 [7] (Zy [] (Kn s.op) (ie (ac (XT s.op) Iff.rfl (fun KG=>?_) (fun KG=>?_))))
  ·refine az (Z2 1 (ic [0,0,0,0,0,0,0] (QS b wa12 wb12 wc12 wd12 we12 wf12 L'4 ln 0 0 (-1) (hlb:=(by rw [hxv];omega)) (hlk:=kx.len)) ?_))
   rintro _ _ ⟨wa14,wb14,wc14,wd14,we14,wf14,rfl⟩
   exact ie (ar (Zt (r1 [0,0,0,0,0,0,0] (.inl ⟨wa14,wb14,wc14,wd14,we14,wf14,(L'4.grow 0 0 (-1)),rfl,rfl,(by rw [UZ,hP];first|rfl|exact UQ (by assumption)|exact UR (by assumption) (by assumption)|exact US (by assumption))⟩))))
  exact ak (ar (Zt (r1 [0,0,0,0,0,0,0] (.inl ⟨wa12,wb12,wc12,wd12,we12,wf12,L'4,rfl,rfl,(by rw [UZ,hP];first|rfl|exact UQ (by assumption)|exact UR (by assumption) (by assumption)|exact US (by assumption))⟩))))
 have hP:=(Oc (n:=n) (ln:=ln) (L:=L) Za Xd VS Kd).trans (QR)
 exact Z0 (Y7 (WU (ar (Zt (r1 [] (.inr ⟨rfl,rfl,(by rw [UZ,hP];first|rfl|exact UQ (by assumption)|exact UR (by assumption) (by assumption)|exact US (by assumption))⟩))))))
theorem Z62 (c:Nat) (ga:Hd) (gb:Hd) (gc:Hd) (gd:Hd) (ge:Hd) (gf:Hd) (n:Zq) (b:Z5) (L:ZK) (ln:LI) (q:Int) (mm:Nat) (hn:Xe n) (hk:XD n.decls L q) (ht:0<=X7 n L.vars b) (hm:mm<=L.vars.length) (hb:L.vars.length+4*b.sz<=1000000000) (hq:0<=q/\q+4*b.sz<=999999990) (hln:ln.length<=4294967296) (ih:∀(s2:Z4) (c:Nat) (ra:Hd) (rb:Hd) (rc:Hd) (rd:Hd) (re:Hd) (rf:Hd) (M:ZK) (p:Int),(s2.sz<b.sz)->(XD n.decls M p)->(0<=Yj n M.vars s2)->(M.vars.length+4*s2.sz<=1000000000)->(0<=p/\p+4*s2.sz<=999999990)->Zi 126 [.p c 0,Yk n,YC s2] [.obj c [.h ra,.h rb,.h rc,.h rd,.h re,.h rf,Z6 ln],rV ra M.vars,rV rb M.own,rV rc M.par,rV rd M.con,rV re M.fst,rV rf M.tok] (fun r h=>(∃(wa:Hd) (wb:Hd) (wc:Hd) (wd:Hd) (we:Hd) (wf:Hd) (M':ZK),r=.b true/\h=[.obj c [.h wa,.h wb,.h wc,.h wd,.h we,.h wf,Z6 ln],rV wa M'.vars,rV wb M'.own,rV wc M'.par,rV wd M'.con,rV we M'.fst,rV wf M'.tok]/\Qe n ln M s2=some M')∨(r=.b false/\h=[]/\Qe n ln M s2=none))):Zi 129 [.p c 0,Yk n,ZI b,.i mm] [.obj c [.h ga,.h gb,.h gc,.h gd,.h ge,.h gf,Z6 ln],rV ga L.vars,rV gb L.own,rV gc L.par,rV gd L.con,rV ge L.fst,rV gf L.tok] (fun r h=>(∃(wa:Hd) (wb:Hd) (wc:Hd) (wd:Hd) (we:Hd) (wf:Hd) (L':ZK),r=.b true/\h=[.obj c [.h wa,.h wb,.h wc,.h wd,.h we,.h wf,Z6 ln],rV wa L'.vars,rV wb L'.own,rV wc L'.par,rV wd L'.con,rV we L'.fst,rV wf L'.tok]/\VO n ln L mm b=some L')∨(r=.b false/\h=[]/\VO n ln L mm b=none)):=by
 have hbz:=b.sz_eq
 obtain ⟨vs,rt,hvs,hres,hrt⟩:=Lq ht
 have hri:=Aq hres
 have Xv:=V7 b
 refine ZF 45 Tryz.func129 (ar (iA (YJ n) fun b1=>iA (X3 b) fun b2=>?_))
 refine Z0 (Y7 (ab 0 (Y0 (fun fz gz m F h=>∃(k:Nat) (q2:Int) (L2:ZK) (ka:Hd) (kb:Hd) (kc:Hd) (kd:Hd) (ke:Hd) (kf:Hd),(k<=b.steps.length)/\(XD n.decls L2 q2)/\(0<=q2/\q2+4*Yw (b.steps.drop k)<=999999990)/\(L2.vars.length+4*Yw (b.steps.drop k)<=1000000000)/\(WJ n (b.steps.drop k) L2.vars=some vs)/\(KN n ln L2 (b.steps.drop k)=KN n ln L b.steps)/\(L.vars.length<=L2.vars.length)/\F=sF [0,3,5,6] fz [(9,.i k)]/\h=[Zh gz 0,Zh gz 1,.obj c [.h ka,.h kb,.h kc,.h kd,.h ke,.h kf,Z6 ln],rV ka L2.vars,rV kb L2.own,rV kc L2.par,rV kd L2.con,rV ke L2.fst,rV kf L2.tok]/\m=b.steps.length-k) _ _ _ ⟨0,q,L,ga,gb,gc,gd,ge,gf,ob,hk,(by rw [Jt];omega),(by rw [Jt];omega),hvs,rfl,om,rfl,rfl,rfl⟩ (ZM 9 (Y5 fl)) ?_)))
 rintro m F h ⟨k,q2,L2,ka,kb,kc,kd,ke,kf,Yb,Zl,Zw,YN,Wj,JC,Zdo,rfl,rfl,rfl⟩
 refine Yf 3 [0] (iw (V3 b.steps) (ZZ ((k:Int)<(b.steps.length:Int)) (fun Za=>?_) (fun Za=>?_)))
 ·obtain ⟨s1,hs1⟩:=Zr b.steps k om
  have hss:=Qf hs1
  have hdr:=Y9 hs1
  have hz:Yw (b.steps.drop k)=s1.sz+Yw (b.steps.drop (k+1)):=by rw [hdr,Yw]
  rw [hdr] at Wj JC
  obtain ⟨g1,g2⟩:=PJ Wj
  refine ak (aq (ab 1 (aD 9 (ZO 4 9 [0,1,2,3,4] [1,0] (dx 5 (Zg none (k:Int) 5 (Wc hs1)) (Zk 2 3 [6] (Z8 7 (dc 7 [2,2,2,2,2,2,2] [] [] (ih s1 c ka kb kc kd ke kf L2 q2 ob Zl g1 om om) ?_))))))))
  rintro _ _ (⟨wa1,wb1,wc1,wd1,we1,wf1,M'1,rfl,rfl,Y4⟩|⟨rfl,rfl,Ym⟩)
  ·have hP:=Y4
   have kx:=PF hn Zl Zw.1 g1 hP
   exact Zk 0 1 [8] (de (WT (ak (az (Z2 1 (ZG k (Z0 (ZH ⟨k+1,(q2+4*s1.sz),M'1,wa1,wb1,wc1,wd1,we1,wf1,ob,kx.1,om,(by rw [kx.2];have:=P1 n L2.vars s1;omega),(by rw [kx.2];exact g2),(by rw [<-JC,KN,hP];rfl),(by rw [kx.2];have:=P1 n L2.vars s1;omega),rfl,rfl,rfl⟩ (wk [7,7,0,0,0,0,0,0,0] (ZJ k fl))))))))))
  have hP:=Ym
  exact Zk 0 1 [8] (de (WU (ar (Zt (r1 [] (.inr ⟨rfl,rfl,(by rw [Gy,<-JC,KN,hP];rfl)⟩))))))
 rw [Xf om] at Wj JC
 have hvv:L2.vars=vs:=by rw [WJ] at Wj;exact Ah Wj
 have hB:VO n ln L mm b=Jc mm b.result L2:=by rw [Gy,<-JC,KN];rfl
 obtain ⟨xr,hxr⟩:=Zr L2.vars b.result.toNat (by rw [hvv];omega)
 have hgr:=Tj hxr
 have hrl:0<=b.result/\b.result<L2.vars.length:=by rw [hvv];omega
 rw [WJ] at Wj
 refine ax 0 (aq (aD 16 (ZO 10 16 [0,1,2,3,4,5] [2,0] (dx 6 (VL 3 ka L2.vars b.result b.result.toNat (hq:=rfl)) (U1 7 (TW 3 ka L2.vars b.result.toNat xr hxr) (Zk 6 8 [8,9] (db (b:=(xr != 0)) 35 (fun Zd=>?_) (fun Zd=>?_))))))))
 ·have YQ:xr≠0:=(Y6).1 Zd
  refine ZO 3 6 [10,11,12] [0] (Z8 13 (dc 13 [2,2,2,2,2,2,2] [] [] (Fh c ka kb kc kd ke kf L2 ln b.result (hlk:=Zl.len) (hq:=(fun y hy=>⟨Zl.nn y hy,by have:=Zl.bd y hy;omega⟩))) ?_))
  rintro _ _ (⟨wa2,wb2,wc2,wd2,we2,wf2,L'1,rfl,rfl,YZ⟩|⟨rfl,rfl,Xg⟩)
  ·have hE:=hB.trans (Z0r hgr (by assumption) YZ)
   have kx:=Zl.take YZ
   have hxv:L'1.vars.length=L2.vars.length:=by rw [(KO YZ).2.1]
   refine Zk 0 2 [14,15] (de (WT (ak (Yc 2 (ic [0,0,0,0,0,0,0] (Nv c wa2 wb2 wc2 wd2 we2 wf2 L'1 ln mm (hlk:=(by first|exact kx.len|exact Zl.len)) (hlb:=om) (hm:=om)) ?_)))))
   rintro _ _ (⟨wa3,wb3,wc3,wd3,we3,wf3,L'2,rfl,rfl,XX⟩|⟨rfl,rfl,Wu⟩)
   ·exact Zt (r1 [0,0,0,0,0,0,0] (.inl ⟨wa3,wb3,wc3,wd3,we3,wf3,L'2,rfl,rfl,(by first|exact hE|(rw [hE];exact XX)|(rw [hB,D5 hgr (by assumption)];exact XX))⟩))
   exact Zt (r1 [] (.inr ⟨rfl,rfl,(by first|exact hE|(rw [hE];exact Wu)|(rw [hB,D5 hgr (by assumption)];exact Wu))⟩))
  have hE:=hB.trans (Z0q hgr (by assumption) Xg)
  exact Zk 0 2 [14,15] (de (WU (ar (Zt (r1 [] (.inr ⟨rfl,rfl,(by first|exact hE|(rw [hE];exact Xg)|(rw [hB,D5 hgr (by assumption)];exact Xg))⟩))))))
 have WZ:¬(xr≠0):=Yd Y6 Zd
 refine Zk 0 6 [10,11,12,13,14,15] (de (WT (ak (Yc 2 (ic [2,2,2,2,2,2,2] (Nv c ka kb kc kd ke kf L2 ln mm (hlk:=(by first|exact kx.len|exact Zl.len)) (hlb:=om) (hm:=om)) ?_)))))
 rintro _ _ (⟨wa4,wb4,wc4,wd4,we4,wf4,L'3,rfl,rfl,Vs⟩|⟨rfl,rfl,UT⟩)
 ·exact Zt (r1 [0,0,0,0,0,0,0] (.inl ⟨wa4,wb4,wc4,wd4,we4,wf4,L'3,rfl,rfl,(by first|exact hE|(rw [hE];exact Vs)|(rw [hB,D5 hgr (by assumption)];exact Vs))⟩))
 exact Zt (r1 [] (.inr ⟨rfl,rfl,(by first|exact hE|(rw [hE];exact UT)|(rw [hB,D5 hgr (by assumption)];exact UT))⟩))
theorem Z63 (n:Zq) (ln:LI) (hn:Xe n) (hln:ln.length<=4294967296) (m:Nat):∀(b2:Z5) (c:Nat) (ra:Hd) (rb:Hd) (rc:Hd) (rd:Hd) (re:Hd) (rf:Hd) (M:ZK) (mm:Nat) (p:Int),(b2.sz<m+1)->(XD n.decls M p)->(0<=X7 n M.vars b2)->(mm<=M.vars.length)->(M.vars.length+4*b2.sz<=1000000000)->(0<=p/\p+4*b2.sz<=999999990)->Zi 129 [.p c 0,Yk n,ZI b2,.i mm] [.obj c [.h ra,.h rb,.h rc,.h rd,.h re,.h rf,Z6 ln],rV ra M.vars,rV rb M.own,rV rc M.par,rV rd M.con,rV re M.fst,rV rf M.tok] (fun r h=>(∃(wa:Hd) (wb:Hd) (wc:Hd) (wd:Hd) (we:Hd) (wf:Hd) (M':ZK),r=.b true/\h=[.obj c [.h wa,.h wb,.h wc,.h wd,.h we,.h wf,Z6 ln],rV wa M'.vars,rV wb M'.own,rV wc M'.par,rV wd M'.con,rV we M'.fst,rV wf M'.tok]/\VO n ln M mm b2=some M')∨(r=.b false/\h=[]/\VO n ln M mm b2=none)):=by
 induction m with
 | zero=>intro b c ga gb gc gd ge gf L mm q h;have:=b.sz_pos;omega
 | succ m ih=>
  intro b c ga gb gc gd ge gf L mm q h1 hk ht hm hb hp
  exact Z62 c ga gb gc gd ge gf n b L ln q mm hn hk ht hm hb hp hln fun s c ga gb gc gd ge gf L q h2 hk ht hb hp=>Nx c ga gb gc gd ge gf n s L ln q hn hk ht hb hp hln
   fun b2 c ga gb gc gd ge gf L mm q h3 hk ht hm hb hp=>ih b2 c ga gb gc gd ge gf L mm q om hk ht hm hb hp
theorem Z69 (n:Zq) (ln:LI) (hn:Xe n) (hln:ln.length<=4294967296) (m:Nat):∀(s2:Z4) (c:Nat) (ra:Hd) (rb:Hd) (rc:Hd) (rd:Hd) (re:Hd) (rf:Hd) (M:ZK) (p:Int),(s2.sz<m+1)->(XD n.decls M p)->(0<=Yj n M.vars s2)->(M.vars.length+4*s2.sz<=1000000000)->(0<=p/\p+4*s2.sz<=999999990)->Zi 126 [.p c 0,Yk n,YC s2] [.obj c [.h ra,.h rb,.h rc,.h rd,.h re,.h rf,Z6 ln],rV ra M.vars,rV rb M.own,rV rc M.par,rV rd M.con,rV re M.fst,rV rf M.tok] (fun r h=>(∃(wa:Hd) (wb:Hd) (wc:Hd) (wd:Hd) (we:Hd) (wf:Hd) (M':ZK),r=.b true/\h=[.obj c [.h wa,.h wb,.h wc,.h wd,.h we,.h wf,Z6 ln],rV wa M'.vars,rV wb M'.own,rV wc M'.par,rV wd M'.con,rV we M'.fst,rV wf M'.tok]/\Qe n ln M s2=some M')∨(r=.b false/\h=[]/\Qe n ln M s2=none)):=by
 intro s c ga gb gc gd ge gf L q h2 hk ht hb hp
 exact Nx c ga gb gc gd ge gf n s L ln q hn hk ht hb hp hln fun b2 c ga gb gc gd ge gf L mm q h3 hk ht hm hb hp=>Z63 n ln hn hln m b2 c ga gb gc gd ge gf L mm q om hk ht hm hb hp
theorem Z68 (c:Nat) (ra:Hd) (rb:Hd) (rc:Hd) (rd:Hd) (re:Hd) (rf:Hd) (n:Zq) (s2:Z4) (M:ZK) (ln:LI) (p:Int) (hn:Xe n) (hln:ln.length<=4294967296) (hk:XD n.decls M p) (ht:0<=Yj n M.vars s2) (hb:M.vars.length+4*s2.sz<=1000000000) (hp:0<=p/\p+4*s2.sz<=999999990):Zi 126 [.p c 0,Yk n,YC s2] [.obj c [.h ra,.h rb,.h rc,.h rd,.h re,.h rf,Z6 ln],rV ra M.vars,rV rb M.own,rV rc M.par,rV rd M.con,rV re M.fst,rV rf M.tok] (fun r h=>(∃(wa:Hd) (wb:Hd) (wc:Hd) (wd:Hd) (we:Hd) (wf:Hd) (M':ZK),r=.b true/\h=[.obj c [.h wa,.h wb,.h wc,.h wd,.h we,.h wf,Z6 ln],rV wa M'.vars,rV wb M'.own,rV wc M'.par,rV wd M'.con,rV we M'.fst,rV wf M'.tok]/\Qe n ln M s2=some M')∨(r=.b false/\h=[]/\Qe n ln M s2=none)):=Z69 n ln hn hln s2.sz s2 c ra rb rc rd re rf M p om hk ht hb hp
theorem Zaq (rt:ZV) (hp:rt.params.length<=1000000:=by exact ob) (hl:rt.lent.length<=4294967296:=by exact ob):Zi 125 [UK rt] [] (fun r h=>∃(c:Nat) (wa:Hd) (wb:Hd) (wc:Hd) (wd:Hd) (we:Hd) (wf:Hd),r=.p c 0/\h=[.obj c [.h wa,.h wb,.h wc,.h wd,.h we,.h wf,Z6 rt.lent],rV wa ((Kk rt).vars),rV wb ((Kk rt).own),rV wc ((Kk rt).par),rV wd ((Kk rt).con),rV we ((Kk rt).fst),rV wf ((Kk rt).tok)]):=by
 refine ZF 45 Tryz.func125 (ar (iA (Tm rt) fun b1=>Z0 (Zu 2 [0] (ic [] (VK rt.lent) ?_))))
 rintro _ _ ⟨v1,rfl,rfl⟩
 refine ZQ 1 [(8,.agg [nl,nl,nl,nl,nl,nl,Z6 rt.lent])] (iA [nl,nl,nl,nl,nl,nl,Z6 rt.lent] fun b2=>?_)
 refine XN (PQ 0 b2 [nl,nl,nl,nl,nl,nl,Z6 rt.lent] [.h hN,.h hN,.h hN,.h hN,.h hN,.h hN,Z6 rt.lent] (.cons (Zc.hd (v:=hN)) (.cons (Zc.hd (v:=hN)) (.cons (Zc.hd (v:=hN)) (.cons (Zc.hd (v:=hN)) (.cons (Zc.hd (v:=hN)) (.cons (Zc.hd (v:=hN)) (.cons (lr _) .nil)))))))) (XN (BH) (XN (BH) (XN (BH) (XN (BH) (XN (BH) (XN (BH) (Z0 (Y7 (ab 0 (Y0 (fun fz gz m F h=>∃(k:Nat) (L2:ZK) (ka:Hd) (kb:Hd) (kc:Hd) (kd:Hd) (ke:Hd) (kf:Hd),(k<=rt.params.length)/\(T2 L2)/\(L2.vars.length=k)/\(A5 rt.lent (rt.params.drop k) k L2=Kk rt)/\F=sF [1,3] fz [(4,.i k)]/\h=[.obj b2 [.h ka,.h kb,.h kc,.h kd,.h ke,.h kf,Z6 rt.lent],Zh gz 8,rV ka L2.vars,rV kb L2.own,rV kc L2.par,rV kd L2.con,rV ke L2.fst,rV kf L2.tok]/\m=rt.params.length-k) _ _ _ ⟨0,(ZK.mk [] [] [] [] [] []),hN,hN,hN,hN,hN,hN,ob,⟨rfl,rfl,rfl,rfl,rfl⟩,rfl,rfl,rfl,rfl,rfl⟩ (wk [6,7,0,0,0,0,0,0] (Y5 fl) (e:=(rc (rc (rv (xs:=[]) ob (rv (xs:=[]) ob (rv (xs:=[]) ob (rv (xs:=[]) ob (rv (xs:=[]) ob (rv (xs:=[]) ob rz)))))))))) ?_))))))))))
 rintro m F h ⟨k,L2,ka,kb,kc,kd,ke,kf,Yb,Zl,Zw,YN,rfl,rfl,rfl⟩
 refine Yf 3 [1] (iw (Yi rt.params) (ZZ ((k:Int)<(rt.params.length:Int)) (fun Za=>?_) (fun Za=>?_)))
 ·refine ak (aq (ab 1 (Zu 3 [1] ?_)))
  obtain ⟨x1,Z3⟩:=Zr rt.params k om
  refine Zm (Zg none (k:Int) 1 (Y3 Z3)) (Xi [1,3,4] [(29,.b ((x1 != 0)&&(!(decide ((k:Int)∈rt.lent)))))] (fun gz=>gz) ?_ ?_)
  ·refine Z2 3 (ib (b:=(x1 != 0)) 23 (fun Zd=>?_) (fun Zd=>?_))
   ·exact ZL 3 [1] (Zy [] (Uw rt.lent (k:Int)) (Z0 (ZM 8 (Zp (!(decide ((k:Int)∈rt.lent))) Zd fl))))
   exact Z0 (ZM 8 (Zp false Zd fl))
  refine ac ((x1 != 0)&&(!(decide ((k:Int)∈rt.lent)))) (p:=(x1≠0)/\(¬((k:Int)∈rt.lent))) (YK Y6 (Yn dq)) (fun Zf=>?_) (fun Zf=>?_)
  ·refine az (ZL 4 [1] (Zm (Zg none (k:Int) 1 (Y3 Z3)) (Z2 1 (ic [0,1,1,1,1,1,1] (QS b2 ka kb kc kd ke kf L2 rt.lent x1 1 (-1) (hlk:=Zl)) ?_))))
   rintro _ _ ⟨wa1,wb1,wc1,wd1,we1,wf1,rfl⟩
   exact ie (az (Z2 1 (ZG k (Z0 (ZH ⟨k+1,(L2.grow x1 1 (-1)),wa1,wb1,wc1,wd1,we1,wf1,ob,(T2.grow Zl),(by simp [ZK.grow];omega),(by rw [Y9 Z3,A5] at YN;first|(rw [Zj Zf] at YN;exact YN)|(rw [Z9 Zf] at YN;exact YN)),rfl,rfl,rfl⟩ (wk [0,6,0,0,0,0,0,0] (ZJ k fl)))))))
  refine az (ZL 4 [1] (Zm (Zg none (k:Int) 1 (Y3 Z3)) (Z2 1 (ic [0,1,1,1,1,1,1] (QS b2 ka kb kc kd ke kf L2 rt.lent x1 0 (-1) (hlk:=Zl)) ?_))))
  rintro _ _ ⟨wa2,wb2,wc2,wd2,we2,wf2,rfl⟩
  exact ie (az (Z2 1 (ZG k (Z0 (ZH ⟨k+1,(L2.grow x1 0 (-1)),wa2,wb2,wc2,wd2,we2,wf2,ob,(T2.grow Zl),(by simp [ZK.grow];omega),(by rw [Y9 Z3,A5] at YN;first|(rw [Zj Zf] at YN;exact YN)|(rw [Z9 Zf] at YN;exact YN)),rfl,rfl,rfl⟩ (wk [0,6,0,0,0,0,0,0] (ZJ k fl)))))))
 refine ax 0 (ZP ?_)
 have hNl:L2=Kk rt:=by rw [<-YN,Xf om];rfl
 exact ZD (r1 [0,1,1,1,1,1,1] ⟨b2,ka,kb,kc,kd,ke,kf,rfl,rfl⟩ (eq:=(rc (rv (xs:=L2.vars) (by rw [hNl]) (rv (xs:=L2.own) (by rw [hNl]) (rv (xs:=L2.par) (by rw [hNl]) (rv (xs:=L2.con) (by rw [hNl]) (rv (xs:=L2.fst) (by rw [hNl]) (rv (xs:=L2.tok) (by rw [hNl]) rz)))))))))
theorem Z2j (n:Zq) (f0:Nat) (k0:Nat) (rt:ZV) (hz:Ua n:=by exact ob) (hr:n.routines[f0]? = some rt:=by exact ob) (hk0:k0<=rt.body.steps.length:=by exact ob):Zi 81 [Yk n,.i f0,.i k0] [] (fun r h=>(∃(c:Nat) (wa:Hd) (wb:Hd) (wc:Hd) (wd:Hd) (we:Hd) (wf:Hd) (L:ZK) (q:Int),r=.tup [.p c 0,.b true]/\h=[.obj c [.h wa,.h wb,.h wc,.h wd,.h we,.h wf,Z6 rt.lent],rV wa L.vars,rV wb L.own,rV wc L.par,rV wd L.con,rV we L.fst,rV wf L.tok]/\XD n.decls L q/\L.vars.length=rt.params.length+YX (rt.body.steps.take k0)/\L.vars.length<=500000000/\rt.lent.length<=4194304)∨(r=.tup [.any,.b false]/\h=[]/\True)):=by
 have hzl:=hz.len
 have hfl:=(XS.1 hr).1
 have hrm:=Y1 hr
 have hbz:=hz.body _ hrm
 have ZE:=V7 rt.body
 have hbe:=rt.body.sz_eq
 obtain ⟨hk,hkv⟩:=Z6o n.decls rt
 refine ZF 64 Tryz.func81 (ar (iA (YJ n) fun b1=>Z0 (Yf 1 [0] (Zy [] (Pu n) (XG 12 [1,2,3] [(21,.b ((!V8 n)||(!(decide (0<=(f0:Int)/\(f0:Int)<=((n.routines.length:Int)-1))))))] (fun gz=>gz) ?_ (fun hj1=>?_))))))
 ·refine Xi [1,2,3] [(34,.b (((!V8 n)||(!(decide (0<=(f0:Int)/\(f0:Int)<=((n.routines.length:Int)-1)))))||(!(decide (0<=(k0:Int)/\(k0:Int)<=(rt.body.steps.length:Int))))))] (fun gz=>gz) ?_ ?_
  ·refine Z2 1 (ib (b:=((!V8 n)||(!(decide (0<=(f0:Int)/\(f0:Int)<=((n.routines.length:Int)-1)))))) 22 (fun Zd=>?_) (fun Zd=>?_))
   ·exact Z0 (wk [0] (Zp true Zd fl))
   exact ZL 4 [0] (Zm (Zg none (f0:Int) 5 (Wm hr)) (Z2 3 (iw (V3 rt.body.steps) (Zy [] (UY (k0:Int) 0 (rt.body.steps.length:Int)) (Z0 (wk [0] (Zp (!(decide (0<=(k0:Int)/\(k0:Int)<=(rt.body.steps.length:Int)))) Zd fl)))))))
  refine ac (((!V8 n)||(!(decide (0<=(f0:Int)/\(f0:Int)<=((n.routines.length:Int)-1)))))||(!(decide (0<=(k0:Int)/\(k0:Int)<=(rt.body.steps.length:Int))))) (p:=((¬(V8 n=true))∨(¬(0<=(f0:Int)/\(f0:Int)<=((n.routines.length:Int)-1))))∨(¬(0<=(k0:Int)/\(k0:Int)<=(rt.body.steps.length:Int)))) (Yh (Yh (Yn Iff.rfl) (Yn dq)) (Yn dq)) (fun Za=>?_) (fun Za=>?_)
  ·exact ar (ZQ 1 [(35,.agg [.sl [] none,.sl [] none,.sl [] none,.sl [] none,.sl [] none,.sl [] none,.sl [] none])] (iA [.sl [] none,.sl [] none,.sl [] none,.sl [] none,.sl [] none,.sl [] none,.sl [] none] fun b2=>Zt (r2 [] [.p b2 0,.b false] (.inr ⟨rfl,rfl,(by first|exact True.intro|exact ⟨Zl,by rw [show k0=j by omega];exact JC,by omega,hll⟩)⟩) (Zc.tup (.cons (Zc.any _) (.cons (lr _) .nil))))))
  have hV:V8 n=true:=Gc fun z=>Za (.inl (.inl z))
  obtain ⟨hok,hall⟩:=IP hz hV
  have hty:=hall rt hrm
  obtain ⟨vs,t0,hvs,hres,hrt0⟩:=Lq hty
  have hpl:=hok.params_at hr
  have hll:=hok.lent_at hr
  refine ak (Zu 3 [0] (Zm (Zg none (f0:Int) 5 (Wm hr)) (Z2 1 (ic [] (Zaq rt) ?_))))
  rintro _ _ ⟨c1,wa1,wb1,wc1,wd1,we1,wf1,rfl,rfl⟩
  refine Z0 (Y7 (ab 0 (Y0 (fun fz gz m F h=>∃(j:Nat) (q2:Int) (L2:ZK) (ka:Hd) (kb:Hd) (kc:Hd) (kd:Hd) (ke:Hd) (kf:Hd),(j<=k0)/\(XD n.decls L2 q2)/\(0<=q2/\q2+4*Yw (rt.body.steps.drop j)<=999999990)/\(L2.vars.length+4*Yw (rt.body.steps.drop j)<=400000000)/\(WJ n (rt.body.steps.drop j) L2.vars=some vs)/\(L2.vars.length=rt.params.length+YX (rt.body.steps.take j))/\F=sF [1,2,3,8] fz [(9,.i j)]/\h=[.obj c1 [.h ka,.h kb,.h kc,.h kd,.h ke,.h kf,Z6 rt.lent],Zh gz 7,rV ka L2.vars,rV kb L2.own,rV kc L2.par,rV kd L2.con,rV ke L2.fst,rV kf L2.tok]/\m=k0-j) _ _ _ ⟨0,1,(Kk rt),wa1,wb1,wc1,wd1,we1,wf1,ob,hk,(by rw [Jt];omega),(by rw [Jt,hkv];omega),(by rw [Jt,hkv];exact hvs),(by rw [hkv];rfl),rfl,rfl,rfl⟩ (wk [0,6,0,0,0,0,0,0] (Y5 fl)) ?_)))
  rintro m F h ⟨j,q2,L2,ka,kb,kc,kd,ke,kf,Yb,Zl,Zw,YN,Wj,JC,rfl,rfl,rfl⟩
  refine X4 (ZZ ((j:Int)<(k0:Int)) (fun Zf=>?_) (fun Zf=>?_))
  ·obtain ⟨s1,hs1⟩:=Zr rt.body.steps j om
   have hss:=Qf hs1
   have hsp:=s1.sz_pos
   have hzd:=Px hs1
   have hdt:=LS hs1
   have hdr:=Y9 hs1
   rw [hdr] at Wj
   obtain ⟨g1,g2⟩:=PJ Wj
   refine ak (aq (ab 1 (aD 14 (ZO 9 14 [0,1,2,3,4] [1,1] (dx 5 (Zg none (f0:Int) 5 (Wm hr)) (Zk 4 8 [6,7,8,9] (dx 10 (Zg none (j:Int) 5 (Wc hs1)) (Zk 2 3 [11] (Z8 12 (dc 12 [0,1,1,1,1,1,1] [] [] (Z68 c1 ka kb kc kd ke kf n s1 L2 rt.lent q2 hok ob Zl g1 om om) ?_))))))))))
   rintro _ _ (⟨wa2,wb2,wc2,wd2,we2,wf2,M'1,rfl,rfl,YQ⟩|⟨rfl,rfl,YZ⟩)
   ·have hP:=YQ
    have kx:=PF hok Zl Zw.1 g1 hP
    have hsf:=Z9x g1
    exact Zk 0 1 [13] (de (WT (ak (az (Z2 1 (ZG j (Z0 (ZH ⟨j+1,(q2+4*s1.sz),M'1,wa2,wb2,wc2,wd2,we2,wf2,ob,kx.1,om,(by rw [kx.2,hsf];split<;>omega),(by rw [kx.2];exact g2),(by rw [kx.2,hsf,hdt];split<;>omega),rfl,rfl,rfl⟩ (wk [0,6,0,0,0,0,0,0] (ZJ j fl))))))))))
   exact Zk 0 1 [13] (de (WU (ar (Zt (r2 [] [.p c1 0,.b false] (.inr ⟨rfl,rfl,(by first|exact True.intro|exact ⟨Zl,by rw [show k0=j by omega];exact JC,by omega,hll⟩)⟩) (Zc.tup (.cons (Zc.any _) (.cons (lr _) .nil))))))))
  exact ax 0 (ar (Zt (r2 [0,1,1,1,1,1,1] [.p c1 0,.b true] (.inl ⟨c1,ka,kb,kc,kd,ke,kf,L2,_,rfl,rfl,(by first|exact True.intro|exact ⟨Zl,by rw [show k0=j by omega];exact JC,by omega,hll⟩)⟩) (lr _))))
 refine Z2 2 (ib (b:=(!V8 n)) 13 (fun ZC=>?_) (fun ZC=>?_))
 ·exact Z2 8 (Yv (wk [0] (Zp true ZC fl)) hj1)
 exact ZL 3 [0] (iw (Vl n.routines) (ia (((n.routines.length:Int)-1)) (((n.routines.length:Int))-(1)) (Zy [] (UY (f0:Int) 0 ((n.routines.length:Int)-1)) (Z2 2 (Yv (wk [0] (Zp (!(decide (0<=(f0:Int)/\(f0:Int)<=((n.routines.length:Int)-1)))) ZC fl)) hj1)))))
theorem EO (b:Z5) (i0:Nat) (s:Z4) (hi:i0<=b.steps.length:=by exact ob) (hz:b.sz<=100000000:=by exact ob):Zi 145 [ZI b,.i i0,YC s] [] (Yg (ZI (Z5.mk (Wp b.steps i0 s) b.result))):=by
 have ZE:=V7 b
 exact ZF 26 Tryz.func145 (ar (iA (X3 b) fun b1=>iA (Xm s) fun b2=>iA [nl,.i 0] fun b3=>ie (ar (iL (Zv []) 0 5 fun v1=>ZL 3 [3] (Zm (KM (es:=Zv b.steps) (hv:=none) (l:=0) (m:=(i0:Int)) (sz:=5) (es':=Zv (b.steps.take i0)) kr om (by simp<;>omega) (by simp<;>omega) (Xc _) (by first|(simp only [U9,Vi,JM,JL];done)|(simp only [U9,Vi,JM,JL];rfl)|(simp [JM,JL];done))) (ip 0 (Zv (b.steps.take i0)) (Zv []) (Zv (b.steps.take i0)) v1 none 5 (Xc _) (Xc _) (VD _) (by simp<;>omega) (by simp [Vc]) fun v2=>Z0 (aD 13 (ZO 8 13 [0,1,4,5,6] [2,3] (dx 7 (KM (es:=Zv b.steps) (hv:=none) (l:=(i0:Int)) (m:=(((Zv b.steps).length:Nat):Int)) (sz:=5) (es':=Zv (b.steps.drop i0)) kr om (by simp<;>omega) (by simp<;>omega) (Xc _) (by first|(simp only [U9,Vi,JM,JL];done)|(simp only [U9,Vi,JM,JL];rfl)|(simp [JM,JL];done))) (ZO 5 7 [9,10] [3] (Z8 2 (dL 2 [2,2] [b1,b1] [YC s] 1 5 fun v3=>Yr 4 4 [] [(16,.sl [YC s] none)] (Z8 3 (dp 3 1 [2,2] [b1,b1] (Zv ((b.steps.take i0)++[s])) (Zv (b.steps.take i0)) [YC s] v2 none 5 (Xc _) (Ty rfl) rfl (by simp<;>omega) (by simp [WC,Vc]) fun v4=>Z8 8 (dp 8 0 [2] [b1] (Zv (Wp b.steps i0 s)) (Zv ((b.steps.take i0)++[s])) (Zv (b.steps.drop i0)) v4 none 5 (Xc _) (Xc _) (VD _) (by simp<;>omega) (by simp only [Wp,WC]) fun v5=>Zk 1 2 [11] (Z8 12 (YM 12 2 [] [] b3 [YS (Wp b.steps i0 s) v5,.i b.result] (de (ZD (r3 [] [.agg [YS (Wp b.steps i0 s) v5,.i b.result]] [0] [(b3,b3)] ⟨rfl,rfl⟩ (Zc.agg (.cons (Zc.sl _ (Yp Zv rfl)) (.cons li .nil)))))))))))))))))))))))
theorem Hr (n:Zq) (f0:Nat) (b:Z5) (rt:ZV) (hr:n.routines[f0]? = some rt:=by exact ob) (hl:n.routines.length<=1000000:=by exact ob) (hp:rt.params.length<=4294967296:=by exact ob) (hl2:rt.lent.length<=4294967296:=by exact ob):Zi 111 [Yk n,.i f0,ZI b] [] (fun r h=>∃(g:Nat) (c:Nat),r=.agg [Ya n.decls,.ms g 0 n.routines.length c]/\h=[.row (.slice (some ⟨g,0,none⟩) n.routines.length c) 5 (Zb (Yy (n.routines.set f0 (ZV.mk rt.params rt.lent rt.result b))))]):=by
 have hfl:=(XS.1 hr).1
 refine ZF 26 Tryz.func111 (ar (iA (YJ n) fun b1=>iA (X3 b) fun b2=>iA [nl,nl] fun b3=>ie (ar (Cj 5 fun g1=>ZL 2 [3] (HA 0 g1 5 (Yy n.routines) none (U3 _) (by simp<;>omega) fun v1=>Dq 0 n.routines.length (v:=v1) (C9 _) om (fun g2 c1 he1=>?_))))))
 subst he1
 exact Z0 (aD 11 (ZO 6 11 [0,1,2,3,4] [3] (dx 5 (Zg none (f0:Int) 5 (Wm hr)) (ZO 3 5 [6,7] [2] (Z8 8 (Yq 8 [] [] [] (CF rt b) (dx 9 (XV g2 n.routines.length c1 f0 5 (f0:Int)) (Z8 10 (Au 10 0 [] [] g2 n.routines.length c1 5 (f0*5) (Tm (ZV.mk rt.params rt.lent rt.result b)) (Zb (Yy n.routines)) (Zb (Yy (n.routines.set f0 (ZV.mk rt.params rt.lent rt.result b)))) (by rw [C9];simp only [YV,Xn];omega) (Z1a (ZV.mk rt.params rt.lent rt.result b) hfl) (de (Zu 4 [3] (Zz 1 b3 [Ya n.decls,.ms g2 0 n.routines.length c1] (ie (ZD (r3 [1] [.agg [Ya n.decls,.ms g2 0 n.routines.length c1]] [0] [(b3,b3)] ⟨g2,c1,rfl,rfl⟩ (lr _))))))))))))))))
theorem MK (n:Zq) (f0:Nat) (b:Z5) (rt:ZV) (hr:n.routines[f0]? = some rt:=by exact ob) (hl:n.routines.length<=1000000:=by exact ob) (hp:rt.params.length<=4294967296:=by exact ob) (hl2:rt.lent.length<=4294967296:=by exact ob):Zi 111 [Yk n,.i f0,ZI b] [] (Yg (Yk (withR n f0 rt b))):=(Wg.frzN (ds:=n.decls) (rs:=(n.routines.set f0 (ZV.mk rt.params rt.lent rt.result b))) (hs:=[]) ((Hr n f0 b rt hr hl hp hl2).mono fun r h ⟨g,c,e1,e2⟩=>⟨g,c,by rw [e1];simp only [Tp],by rw [e2];simp only [Tp]⟩))
theorem Jg (rd:Nat) (bs:LI) (p:Nat) (mx:Nat) (ZE:∀z∈bs,0<=z/\z<=255) (hp:p+1<=1000000000:=by exact ob) (hmx:0<mx:=by exact ob):Zi 79 [.p rd 0,.i mx] [Yt rd bs p] (fun r h=>∃(kn:Nat),r=.i kn/\h=[.obj rd [VV bs,.i (p+1:Nat)]]/\kn<mx):=(XW rd bs p mx ZE hp).mono fun r h ⟨z,hr,hh,hz⟩=>by
  have h0:=hz.lt om
  exact ⟨z.toNat,by rw [hr,Int.toNat_of_nonneg h0.1],hh,by omega⟩
theorem MD (rd:Nat) (bs:LI) (p:Nat) (n:Zq) (ZE:∀z∈bs,0<=z/\z<=255) (hp:p+4<=1000000000:=by exact ob) (hz:Ua n:=by exact ob) (hl1:1<=n.routines.length/\n.routines.length<=1000000:=by exact ob):Zi 116 [.p rd 0,Yk n] [Yt rd bs p] (fun r h=>∃(n2:Zq) (p2:Nat),r=Yk n2/\h=[Yt rd bs p2]/\Gl n n2/\p<=p2/\p2<=p+4):=by
 refine ZF 102 Tryz.func116 (ar (iA (YJ n) fun b1=>iA [nl,nl] fun b2=>ie (Zu 3 [1] (iw (Vl n.routines) (ic [2] (Jg rd bs p n.routines.length (ZE:=ob)) ?_)))))
 rintro _ _ ⟨YF,rfl,rfl,Y4⟩
 refine Z0 (Zu 3 [2] ?_)
 obtain ⟨x1,Z3⟩:=Zr n.routines YF om
 have hrm:=Y1 Z3
 have hbz:=hz.body _ hrm
 have ZE:=V7 (x1).body
 have hpl:=hz.params _ hrm
 have hll:=hz.lent _ hrm
 have hrx:=Z3
 refine Zm (Zg none (YF:Int) 5 (Wm Z3)) (Z2 2 (iA [nl,.i 0] fun b3=>Zz 0 b3 (X3 x1.body) (ie (Zu 3 [0] (iw (V3 x1.body.steps) (ia (((x1.body.steps.length+1:Nat):Int)) (((x1.body.steps.length:Int))+(1)) (ic [1] (Jg rd bs (p+1) (x1.body.steps.length+1) (ZE:=ob)) ?_)))))))
 rintro _ _ ⟨X0,rfl,rfl,Ym⟩
 refine Z0 (Zu 3 [3] (ic [] (Z2j n YF X0 x1 (hr:=hrx)) ?_))
 rintro _ _ (⟨c1,wa1,wb1,wc1,wd1,we1,wf1,L1,q1,rfl,rfl,YQ⟩|⟨rfl,rfl,YZ⟩)
 ·obtain ⟨hLO,hLv,hLb,hLl⟩:=YQ
  have hLn:=hLO.len
  obtain ⟨e1,e2,e3,e4,e5⟩:=hLO.len
  refine Z0 (Y7 (WT (ak (ar (iL (Z7 []) 0 1 fun v1=>?_)))))
  refine Z0 (Y7 (ab 0 (Y0 (fun fz gz m F h=>∃(k:Nat) (vl:LI) (u:Value),(k<=L1.vars.length)/\(vl.length<=k)/\(∀v∈vl,0<=v/\v<(L1.vars.length:Int))/\F=sF [0,3,4,5,6,7,8] fz [(10,ZY vl u),(11,.i k)]/\h=[Zh gz 1,Zh gz 2,Zh gz 3,Zh gz 4,Zh gz 5,Zh gz 6,Zh gz 7,Zh gz 8,Zh gz 9,Zh gz 10,Zh gz 11,.tail u 1]/\m=L1.vars.length-k) _ _ _ ⟨0,[],v1,ob,ob,(fun v hv=>by cases hv),rfl,rfl,rfl⟩ (wk [1,1,1,1,1,1,1,1,1,1,1,0] (fr (Y5 fl))) ?_)))
  rintro m F h ⟨k,vl,u,Yb,Zl,Zw,rfl,rfl,rfl⟩
  refine Yf 5 [0] (Zm (Aa 1 wa1 L1.vars) (ZZ ((k:Int)<(L1.vars.length:Int)) (fun Za=>?_) (fun Za=>?_)))
  ·refine ak (aq (ab 1 (Zu 5 [0] (Zm (VL 1 wa1 L1.vars (k:Int) k) ?_))))
   obtain ⟨x2,Zo⟩:=Zr L1.vars k om
   refine VU (TW 1 wa1 L1.vars k x2 Zo) (Z2 2 (ib (b:=(x2 != 0)) 59 (fun Zd=>?_) (fun Zd=>?_)))
   ·refine Z2 2 (Zy [0,0,0,0,0,0,0] (Fg c1 wa1 wb1 wc1 wd1 we1 wf1 L1 x1.lent (k:Int) (hlk:=hLO.len) (hd:=hLO.down)) (YG (UL L1 x1.lent (k:Int)) Iff.rfl (fun Zf=>?_) (fun Zf=>?_)))
    ·exact az (Z2 2 (iL (Z7 [(k:Int)]) 1 1 fun v2=>ZQ 0 [(66,Z6 [(k:Int)])] (ip 12 (Z7 (vl++[(k:Int)])) (Z7 vl) (Z7 [(k:Int)]) u none 1 (YD _) (YD _) (W5 _) (by simp<;>omega) (by simp [W4,Z7]) fun v3=>Z0 (az (Z2 1 (ZG k (Z0 (ZH ⟨k+1,(vl++[(k:Int)]),v3,ob,ob,(by first|exact Zw|exact Xu Zw om),rfl,rfl,rfl⟩ (wk [2,2,2,2,2,2,2,2,2,2,2,0] (fr (ZJ k fl)))))))))))
    exact ak (az (Z2 1 (ZG k (Z0 (ZH ⟨k+1,vl,u,ob,ob,(by first|exact Zw|exact Xu Zw om),rfl,rfl,rfl⟩ (ZM 12 (fr (ZJ k fl))))))))
   exact Z0 (WT (ak (az (Z2 1 (ZG k (Z0 (ZH ⟨k+1,vl,u,ob,ob,(by first|exact Zw|exact Xu Zw om),rfl,rfl,rfl⟩ (ZM 12 (fr (ZJ k fl))))))))))
  refine ax 0 (YO 1 (iw (Yi vl) (YG ((vl.length:Int)==0) Zs (fun ZA=>?_) (fun ZA=>?_))))
  ·exact Zu 1 [10] (Zz 9 b2 (YJ n) (ie (ZD (r3 [8] [Yk n] [0] [(b2,b2)] ⟨n,(p+1)+1,rfl,rfl,(by first|exact ⟨.inl rfl,by omega,by omega⟩|(have hv:=Zw x3 (Y1 YP);exact ⟨.inr ⟨YF,x1,X0,X0+TR,x3,hrx,by omega,by omega,hv.1,by omega,rfl⟩,by omega,by omega⟩))⟩ (lr _)))))
  refine ak (Yc 3 (iw (Yi vl) (ic [7] (Jg rd bs ((p+1)+1) vl.length (ZE:=ob)) ?_)))
  rintro _ _ ⟨Nr,rfl,rfl,Wu⟩
  obtain ⟨x3,YP⟩:=Zr vl Nr om
  refine Zm (Zg (some u) (Nr:Int) 1 (Y3 YP)) (Z0 (Zu 4 [8] (iw (V3 x1.body.steps) (Z2 1 (ia ((((x1.body.steps.length-X0):Nat):Int)) (((x1.body.steps.length:Int))-((X0:Int))) (ia ((((x1.body.steps.length-X0)+1:Nat):Int)) (((((x1.body.steps.length-X0):Nat):Int))+(1)) (ic [0] (Jg rd bs (((p+1)+1)+1) ((x1.body.steps.length-X0)+1) (ZE:=ob)) ?_)))))))
  rintro _ _ ⟨TR,rfl,rfl,WZ⟩
  exact ia (((X0+TR:Nat):Int)) (((X0:Int))+((TR:Int))) (Z0 (aD 6 (ZO 3 6 [0,1,2] [8] (Z8 3 (Yq 3 [] [2] [b3] (Jq 15 x3) (Z8 4 (Yq 4 [] [] [] (EO x1.body (X0+TR) (Zx 15 x3) (hi:=(by first|omega|(show X0<=(Wp _ _ _).length;rw [On om];omega))) (hz:=(by first|omega|(rw [Z5.sz,DN];have e:(Zx 15 x3).sz=2:=rfl;have e2:=x1.body.sz_eq;omega)))) (Z8 5 (YM 5 8 [] [] b3 (X3 (Z5.mk (Wp x1.body.steps (X0+TR) (Zx 15 x3)) x1.body.result)) (de (aD 9 (ZO 4 9 [0,1,2,3,4] [10,0] (Z8 5 (Yq 5 [] [0,4] [b3,b1] (Jq 14 x3) (Z8 6 (Yq 6 [] [4] [b1] (EO (Z5.mk (Wp x1.body.steps (X0+TR) (Zx 15 x3)) x1.body.result) X0 (Zx 14 x3) (hi:=(by first|omega|(show X0<=(Wp _ _ _).length;rw [On om];omega))) (hz:=(by first|omega|(rw [Z5.sz,DN];have e:(Zx 15 x3).sz=2:=rfl;have e2:=x1.body.sz_eq;omega)))) (Z8 7 (Yq 7 [] [] [] (MK n YF (Z5.mk (Wp (Z5.mk (Wp x1.body.steps (X0+TR) (Zx 15 x3)) x1.body.result).steps X0 (Zx 14 x3)) (Z5.mk (Wp x1.body.steps (X0+TR) (Zx 15 x3)) x1.body.result).result) x1 (hr:=hrx)) (Z8 8 (YM 8 9 [] [] b2 (YJ (withR n YF x1 (Z5.mk (Wp (Z5.mk (Wp x1.body.steps (X0+TR) (Zx 15 x3)) x1.body.result).steps X0 (Zx 14 x3)) (Z5.mk (Wp x1.body.steps (X0+TR) (Zx 15 x3)) x1.body.result).result))) (de (ZD (r3 [2] [Yk (withR n YF x1 (Z5.mk (Wp (Z5.mk (Wp x1.body.steps (X0+TR) (Zx 15 x3)) x1.body.result).steps X0 (Zx 14 x3)) (Z5.mk (Wp x1.body.steps (X0+TR) (Zx 15 x3)) x1.body.result).result))] [0] [(b2,b2)] ⟨(withR n YF x1 (Z5.mk (Wp (Z5.mk (Wp x1.body.steps (X0+TR) (Zx 15 x3)) x1.body.result).steps X0 (Zx 14 x3)) (Z5.mk (Wp x1.body.steps (X0+TR) (Zx 15 x3)) x1.body.result).result)),(((p+1)+1)+1)+1,rfl,rfl,(by first|exact ⟨.inl rfl,by omega,by omega⟩|(have hv:=Zw x3 (Y1 YP);exact ⟨.inr ⟨YF,x1,X0,X0+TR,x3,hrx,by omega,by omega,hv.1,by omega,rfl⟩,by omega,by omega⟩))⟩ (lr _))))))))))))))))))))))))
 exact Z0 (Y7 (WU (Zu 1 [3] (Zz 2 b2 (YJ n) (ie (ZD (r3 [1] [Yk n] [0] [(b2,b2)] ⟨n,(p+1)+1,rfl,rfl,(by first|exact ⟨.inl rfl,by omega,by omega⟩|(have hv:=Zw x3 (Y1 YP);exact ⟨.inr ⟨YF,x1,X0,X0+TR,x3,hrx,by omega,by omega,hv.1,by omega,rfl⟩,by omega,by omega⟩))⟩ (lr _))))))))
end Go.Abs
