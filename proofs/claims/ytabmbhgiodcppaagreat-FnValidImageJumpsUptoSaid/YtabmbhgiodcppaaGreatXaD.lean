/-
  A part of the proofs of several laws (see the last file): no condition.
-/
import Derived.Test.YtabmbhgiodcppaaGreatXaC
set_option linter.all false
set_option linter.unusedVariables false
set_option linter.unusedSimpArgs false
set_option linter.unusedSectionVars false
set_option maxRecDepth 10000
set_option maxHeartbeats 4000000
namespace Go.Abs
open Go.Proofs
theorem Ic (a:Nat) (n:Nat) (ha:a<=1000000:=by exact ob) (hn:n<=1000000:=by exact ob):Zo 71 [.i a,.i n] [] (fun r h=>∃(xs:LI),r=Z3 xs/\h=[]/\xs.length=n/\∀i∈xs,(a:Int)<=i/\i<(a:Int)+n):=by
 refine ZG 20 Tryz.func71 (Y7 (ar (iL (Z6 []) 0 1 fun v1=>?_)))
 refine Z2 (Y0 (ab 0 (Y3 (fun fz gz m F h=>∃(k:Nat) (ys:LI) (u:Value),(k<=n)/\(ys.length=k)/\(∀i∈ys,(a:Int)<=i/\i<(a:Int)+n)/\F=sF [0,1] fz [(5,ZV ys u),(6,.i k)]/\h=[.tail u 1]/\m=n-k) _ _ _ ⟨0,[],v1,ob,ob,(fun i hi=>by cases hi),rfl,rfl,rfl⟩ (wk [0] (fr (Yd fl))) ?_)))
 rintro m F h ⟨k,ys,u,Yk,Zh,Zy,rfl,rfl,rfl⟩
 refine Xd (ZZ ((k:Int)<(n:Int)) (fun Z9=>?_) (fun Z9=>?_))
 ·exact ak (aq (ab 1 (az (Z0 3 (ia (((a+k:Nat):Int)) (((a:Int))+((k:Int))) (iL (Z6 [((a+k:Nat):Int)]) 1 1 fun v2=>ZM 0 [(17,Z3 [((a+k:Nat):Int)])] (ip 1 (Z6 (ys++[((a+k:Nat):Int)])) (Z6 ys) (Z6 [((a+k:Nat):Int)]) u none 1 (YG _) (YG _) (W4 _) (by simp<;>omega) (by simp [W3,Z6]) fun v3=>Z2 (az (Z0 1 (ZE k (Z2 (ZJ ⟨k+1,(ys++[((a+k:Nat):Int)]),v3,ob,ob,(Xx Zy om),rfl,rfl,rfl⟩ (wk [0] (fr (ZO k fl)))))))))))))))
 exact ax 0 (ar (Zm (r2 [] [ZV ys u] ⟨ys,rfl,rfl,⟨by omega,Zy⟩⟩ (Zd.forget _ _))))
theorem NE (l:Nat) (xs:List Z5) (w:Value) (q:Nat) (s:Z5) (hl:xs.length<=4000000000:=by exact ob) (hq:q<=1000000:=by exact ob):Zo 211 [.p l 0,X0 s] [.obj l [Xc xs w,.i q],.tail w 5] (fun r h=>∃(w2:Value),r=.i q/\h=[.obj l [Xc (xs++[s]) w2,.i (((q+1):Nat):Int)],.tail w2 5]):=by
 exact ZG 28 Tryz.func211 (ar (iA (W8 s) fun b1=>Z2 (aD 11 (ZU 5 11 [0,1,2,3,4,5] [1,0] (Z8 6 (Wx 6 [1] [l] [X0 s] (ZL [s]) (VQ [s]).symm 1 5 fun v1=>Yq 4 4 [] [(11,Vb [s])] (Z8 7 (dp 7 3 [] [] (ZL (xs++[s])) (ZL xs) (ZL [s]) w none 5 (XC _) (XC _) (Ua _) (by simp<;>omega) (by simp [Vg,ZL]) fun v2=>Zs 1 3 [8,9] (Z8 10 (YZ 10 3 [] [] l [Xc (xs++[s]) v2,.i q] (de (Zq 5 [0] (ZE q (Z0 2 (Zz 0 l [Xc (xs++[s]) v2,.i (q+1:Nat)] (ie (Zq 4 [0] (ia ((((q+1:Nat):Int)-1)) ((((q+1:Nat):Int))-(1)) (Zm (r2 [0,0] [.i (((q+1:Nat):Int)-1)] ⟨v2,rfl,rfl⟩ li))))))))))))))))))))
theorem NP (g:W1) (e:Z1) (us:LI) (q:Nat) (bb:Nat) (he:eW g.decls g.funcs.length us.length e:=by exact ob) (hu:∀a∈us,0<=a/\a<(q:Int)) (hul:us.length+4*e.sz<=100000:=by exact ob) (hql:q+6*e.sz<=100000:=by exact ob) (hb:e.sz<bb:=by exact ob) (ih:∀(l:Nat) (e2:Z1) (us2:LI) (xs2:List Z5) (w2:Value) (q2:Nat),(eW g.decls g.funcs.length us2.length e2)->(∀a∈us2,0<=a/\a<(q2:Int))->(us2.length+4*e2.sz<=100000)->(xs2.length+6*e2.sz<=100000)->(q2+6*e2.sz<=100000)->(e2.sz<bb)->Zo 177 [.p l 0,Aa g,Y1 e2,Z3 us2] [.obj l [Xc xs2 w2,.i q2],.tail w2 5] (fun r h=>∃(ys:List Z5) (v:Int) (w2:Value),r=.i v/\h=[.obj l [Xc (xs2++ys) w2,.i (((q2+Yn ys):Nat):Int)],.tail w2 5]/\LW g.decls g.funcs.length q2 e2 ys v)):Zo 149 [Aa g,Y1 e,Z3 us,.i q] [] (fun r h=>∃(b:Z7),r=Yh b/\h=[]/\LB g.decls g.funcs.length q e b):=by
 refine ZG 26 Tryz.func149 (ar (iA (IE g) fun b1=>iA (YX e) fun b2=>iA [nl,.i 0] fun b3=>ie (ar (iL (ZL []) 0 5 fun v1=>Z0 2 (iA [Xc [] v1,.i q] fun b4=>Z2 (Zq 4 [4,3] (ic [0,0] (ih b4 e us [] v1 q he hu ob ob ob ob) ?_)))))))
 rintro _ _ ⟨ys1,v2,w21,rfl,rfl,Y6⟩
 have hlw:=Y6
 exact Z2 (Zq 6 [0] (Zz 2 b3 [Xc ([]++ys1) w21,.i v2] (ie (ZT (r3 [] [.agg [Xc ([]++ys1) w21,.i v2]] [0] [(b3,b3)] ⟨(Z7.mk ([]++ys1) v2),rfl,rfl,(by rw [Cu];exact hlw.block)⟩ (Zd.agg (.cons (Zd.forget _ _) (.cons (lr _) .nil))))))))
theorem Z5m (l:Nat) (g:W1) (e:Z1) (us:LI) (xs:List Z5) (w:Value) (q:Nat) (hd:GD g.decls) (he:eW g.decls g.funcs.length us.length e) (hu:∀a∈us,0<=a/\a<(q:Int)) (hul:us.length+4*e.sz<=100000) (hxl:xs.length+6*e.sz<=100000) (hql:q+6*e.sz<=100000) (ih:∀(l:Nat) (e2:Z1) (us2:LI) (xs2:List Z5) (w2:Value) (q2:Nat),(eW g.decls g.funcs.length us2.length e2)->(∀a∈us2,0<=a/\a<(q2:Int))->(us2.length+4*e2.sz<=100000)->(xs2.length+6*e2.sz<=100000)->(q2+6*e2.sz<=100000)->(e2.sz<e.sz)->Zo 177 [.p l 0,Aa g,Y1 e2,Z3 us2] [.obj l [Xc xs2 w2,.i q2],.tail w2 5] (fun r h=>∃(ys:List Z5) (v:Int) (w2:Value),r=.i v/\h=[.obj l [Xc (xs2++ys) w2,.i (((q2+Yn ys):Nat):Int)],.tail w2 5]/\LW g.decls g.funcs.length q2 e2 ys v)):Zo 177 [.p l 0,Aa g,Y1 e,Z3 us] [.obj l [Xc xs w,.i q],.tail w 5] (fun r h=>∃(ys:List Z5) (v:Int) (w2:Value),r=.i v/\h=[.obj l [Xc (xs++ys) w2,.i (((q+Yn ys):Nat):Int)],.tail w2 5]/\LW g.decls g.funcs.length q e ys v):=by
 have Xl:=hd.ok
 obtain ⟨ho,h12,h13,h7,h8,h9,hnum,hkl,hks⟩:=(Z2q e).1 he
 have hez:=e.sz_eq
 refine ZG 148 Tryz.func177 (ar (iA (IE g) fun b1=>iA (YX e) fun b2=>Z2 (Xd (WT [0] (ab 0 (ar (YC (e.op==12) Zf (fun Z9=>?_) (fun Z9=>?_))))))))
 ·refine Zq 3 [0] ?_
  obtain ⟨x1,Z4⟩:=Zv us e.num.toNat (by have:=h12 om;omega)
  have huv:=hu _ (Y2 Z4)
  exact Zp (Zj none e.num 1 (Y5 Z4)) (Zm (r1 [2,2] ⟨[],x1,w,rfl,rfl,(LW.var huv)⟩ (eq:=(ro (ls:=[Xc xs w,.i q]) (by simp [Yn]) (rc rz)))))
 refine ar (YC (e.op==13) Zf (fun Zi=>?_) (fun Zi=>?_))
 ·refine aD 9 (ZU 5 9 [0,1,2,3] [1,0] ?_)
  obtain ⟨x2,Zx⟩:=Zv e.kids 0 (by have:=h13 om;omega)
  have hekx2:=CS hks Zx
  have hszx2:=BY Zx
  have htzx2:=B3 Zx
  rw [Wh] at hekx2
  rw [Rj om] at hekx2
  refine dx 4 (Zj none 0 3 (CK Zx)) (Zs 2 4 [5,6] (Z8 7 (dc 7 [2,2] [] [] (ih l x2 us xs w q (by first|assumption|(rw [Yl];assumption)) (by first|assumption|exact EH hu hlwhp1.v|exact GR hu) (by first|omega|(simp only [Yl,Yw,X5];omega)) (by first|omega|(simp only [Yl,Yw,X5];omega)) ob ob) ?_)))
  rintro _ _ ⟨ys1,v1,w21,rfl,rfl,Y6⟩
  have hlwhp1:=Y6
  have hldhp1:=Y6.dn
  refine Zs 0 1 [8] (de (aD 12 (ZU 8 12 [0,1,2,3] [3,2] ?_)))
  obtain ⟨x3,YU⟩:=Zv e.kids 1 (by have:=h13 om;omega)
  have hz2:=N3 Zx YU
  have hz3:=x2.sz_eq
  have hekx3:=CS hks YU
  have hszx3:=BY YU
  have htzx3:=B3 YU
  rw [Wh] at hekx3
  rw [Rj om] at hekx3
  refine dx 4 (Zj none 1 3 (CK YU)) (Zs 4 7 [5,6,7] (Z8 8 (dL 8 [1,2] [b2,b1] (Z6 [v1]) 1 1 fun v2=>Yq 3 3 [] [(45,Z3 [v1])] (Z8 9 (dc 9 [] [1,2] [b2,b1] (Th us [v1]) ?_)))))
  rintro _ _ ⟨v3,rfl,rfl⟩
  refine Yq 2 2 [] [(46,Z3 (us++[v1]))] (Z8 10 (dc 10 [2,2] [] [] (ih l x3 (us++[v1]) (xs++ys1) w21 (q+Yn ys1) (by first|assumption|(rw [Yl];assumption)) (by first|assumption|exact EH hu hlwhp1.v|exact GR hu) (by first|omega|(simp only [Yl,Yw,X5];omega)) (by first|omega|(simp only [Yl,Yw,X5];omega)) ob ob) ?_))
  rintro _ _ ⟨ys2,v4,w22,rfl,rfl,Yt⟩
  have hlwhp2:=Yt
  have hldhp2:=Yt.dn
  exact Zs 0 1 [11] (de (ZT (r1 [0,0] ⟨(ys1++ys2),v4,w22,rfl,rfl,(LW.let_ hlwhp1 hlwhp2 (by have:=N3 Zx YU;omega))⟩ (eq:=(ro (ls:=[Xc ((xs++ys1)++ys2) w22,.i ((((q+Yn ys1)+Yn ys2):Nat):Int)]) (by rw [UO,<-A4,VJ]) (rc rz))))))
 refine Y0 (Xs (fun fz gz F h=>F=sF [0,3,5,6] fz [(48,.b ((e.op==7)||(e.op==8)))]/\h=gz) ?_ ?_)
 ·refine ac (e.op==7) Zf (fun ZB=>?_) (fun ZB=>?_)
  ·exact ak (ZD ⟨rfl,rfl⟩ (Zw 4 (fc (x:=.b (e.op==7)) (lb (by first|rfl|(rw [Zk ZB])|(rw [Za ZB])|(simp [ZB];done)|(rw [Y9];simp [ZB];done)|omega)) fl)))
  exact Vi (ZD ⟨rfl,rfl⟩ (Zw 4 (fc (x:=.b (e.op==8)) (lb (by first|rfl|(rw [Zk ZB])|(rw [Za ZB])|(simp [ZB];done)|(rw [Y9];simp [ZB];done)|omega)) fl)))
 rintro F h ⟨rfl,rfl⟩
 refine ac ((e.op==7)||(e.op==8)) (p:=(e.op=7)∨(e.op=8)) (ZY Zf Zf) (fun Ye=>?_) (fun Ye=>?_)
 ·refine aD 9 (ZU 5 9 [0,1,2,3] [1,0] ?_)
  obtain ⟨x4,Uu⟩:=Zv e.kids 0 om
  have hekx4:=CS hks Uu
  have hszx4:=BY Uu
  have htzx4:=B3 Uu
  rw [Wh] at hekx4
  rw [Zb1 om] at hekx4
  refine dx 4 (Zj none 0 3 (CK Uu)) (Zs 2 4 [5,6] (Z8 7 (dc 7 [2,2] [] [] (ih l x4 us xs w q (by first|assumption|(rw [Yl];assumption)) (by first|assumption|exact EH hu hlwhp1.v|exact GR hu) (by first|omega|(simp only [Yl,Yw,X5];omega)) (by first|omega|(simp only [Yl,Yw,X5];omega)) ob ob) ?_)))
  rintro _ _ ⟨ys3,v5,w23,rfl,rfl,YP⟩
  have hlwhp3:=YP
  have hldhp3:=YP.dn
  refine Zs 0 1 [8] (de (ar (iL (XM []) 0 2 fun v6=>Z2 (Zq 4 [4,3] (ic [] (KL g.decls e.num) ?_)))))
  rintro _ _ ⟨v7,rfl,rfl⟩
  refine Z2 (Y0 (ab 1 (Y3 (fun fz gz m F h=>∃(k:Nat) (cs:List Z7) (u:Value),(1<=k/\k<=e.kids.length)/\(cs.length+1=k)/\(VR g.decls g.funcs.length (WL g.decls e.op e.num (q+Yn ys3)) 0 cs)/\(YS cs+6*x4.sz<=cs.length+6*Xy (e.kids.take k))/\(QG WD cs)/\F=sF [0,3,5,6,10] fz [(11,Q2 cs u),(12,Z3 (ZQ g.decls e.num)),(13,.i k)]/\h=[Zg gz 2,Zg gz 4,Zg gz 5,.tail u 2,Zg gz 3]/\m=e.kids.length-k) _ _ _ ⟨1,[],v6,ob,ob,True.intro,(by have h:Xy (e.kids.take 1)=Xy (e.kids.take 0)+x4.sz:=B3 Uu;simp only [YS,X5];omega),True.intro,rfl,rfl,rfl⟩ (wk [2,3,3,1,1] (fr (fc (x:=ZV (ZQ g.decls e.num) v7) (Zd.forget _ _) (fc (x:=.i 1) li fl)))) ?_)))
  rintro m F h ⟨k,cs,u,Yk,Zh,Zy,YJ,Wc,rfl,rfl,rfl⟩
  refine Yr 3 [1] (iw (HK e.kids) (ZZ ((k:Int)<(e.kids.length:Int)) (fun YA=>?_) (fun YA=>?_)))
  ·refine ak (aq (ab 2 (Y7 (Xd (WT [1] (Xs (fun fz gz F h=>∃(mf:Nat),(WL g.decls e.op e.num (q+Yn ys3) cs.length=(q+Yn ys3)+mf)/\(mf<=3)/\(TJ g.decls e.op e.num us.length k=us.length+mf)/\F=sF [0,3,5,6,10,11,12,13] fz [(14,.i mf)]/\h=gz) ?_ ?_))))))
   ·refine ac (e.op==8) Zf (fun YW=>?_) (fun YW=>?_)
    ·refine aE 10 (ZU 6 10 [0,1,2,3] [2] (da 4 (((k-1:Nat):Int)) (((k:Int))-(1)) ?_))
     obtain ⟨x5,Td⟩:=Zv (ZQ g.decls e.num) (k-1) (by have:=h8 om;omega)
     exact dx 5 (Zj none ((k-1:Nat):Int) 1 (Y5 Td)) (Zs 3 4 [6] (Z8 7 (YH 7 [] [] [] (Q3 g.decls x5) (dn 8 (.i (((ZK g.decls x5).length:Nat):Int)) (.i (((Z6 (ZK g.decls x5)).length:Nat):Int)) (li (by rw [Yc])) (Zs 0 1 [9] (de (ZD ⟨(ZK g.decls x5).length,(Ln om (by rw [show cs.length=k-1 by omega];exact Td)),(by have:=V5 Xl x5;omega),(Zb2 om (show k=(k-1)+1 by omega) Td),rfl,rfl⟩ (Zw 5 (fc (x:=.i (((ZK g.decls x5).length:Nat):Int)) (li (by first|rfl|(rw [Zk YW])|(rw [Za YW])|(simp [YW];done)|(rw [Y9];simp [YW];done)|omega)) fl)))))))))
    exact ak (ZD ⟨0,(Lo om),om,(Rk om),rfl,rfl⟩ (Zw 5 (fc (x:=.i 0) (li (by first|rfl|(rw [Zk YW])|(rw [Za YW])|(simp [YW];done)|(rw [Y9];simp [YW];done)|omega)) fl)))
   rintro F h ⟨mf,Z7k,Zeu,Z7l,rfl,rfl⟩
   refine aE 25 (ZU 20 25 [0,1,2,3,4] [2,1] ?_)
   obtain ⟨x6,C8⟩:=Zv e.kids k om
   have hekx6:=CS hks C8
   have hszx6:=BY C8
   have htzx6:=B3 C8
   rw [Wh] at hekx6
   rw [Z7l] at hekx6
   have htk:=Am (xs:=e.kids) (k+1)
   have hbl:=F3 cs
   refine dx 5 (Zj none (k:Int) 3 (CK C8)) (ZU 7 19 [6,7,8,9,10,11,12,15,16,17,18,19] [0,0] (da 20 ((((q+Yn ys3)+mf:Nat):Int)) (((((q+Yn ys3):Nat):Int))+((mf:Int))) (Z8 13 (dc 13 [] [0,1,2] [l,b2,b1] (Ic (q+Yn ys3) mf) ?_))))
   rintro _ _ ⟨xs1,rfl,rfl,X2⟩
   have hnx:=X2
   refine Z8 14 (dc 14 [] [0,1,2] [l,b2,b1] (Th us xs1) ?_)
   rintro _ _ ⟨v8,rfl,rfl⟩
   refine Yq 4 4 [] [(98,Z3 (us++xs1))] (Z8 21 (dc 21 [] [] [] (NP g x6 (us++xs1) ((q+Yn ys3)+mf) e.sz (he:=(by rw [Yl,hnx.1];exact hekx6)) (hu:=(Zdv hu hnx.2)) (hul:=(by rw [Yl,hnx.1];omega)) (hql:=om) (ih:=ih)) ?_))
   rintro _ _ ⟨b3,rfl,rfl,Xg⟩
   have hlb:=Xg
   exact Z8 22 (Wx 22 [] [] [Yh b3] (XM [b3]) (Qv [b3]).symm 1 2 fun v9=>Yq 2 2 [] [(106,Jh [b3])] (Z8 23 (dp 23 5 [] [] (XM (cs++[b3])) (XM cs) (XM [b3]) u none 2 (Ks _) (Ks _) (Fe _) (by simp<;>omega) (by simp [BT,XM]) fun v10=>Zs 0 1 [24] (de (az (Z0 1 (ZE k (Z2 (ZJ ⟨k+1,(cs++[b3]),v10,ob,ob,(N6 Zy (by rw [Z7k];exact hlb.1)),(by have:=hlb.2;rw [EZ,Yl];simp only [YS,Yw,X5];omega),(P4 Wc hlb.op),rfl,rfl,rfl⟩ (wk [3,3,3,0,2] (fw (ZO k fl))))))))))))
  refine ax 1 (Zq 6 [1,1] (iL (Z6 [v5]) 1 1 fun v11=>ZM 2 [(116,.agg [.i e.op,.i e.num,.i 0,Z3 [v5],Jh cs])] (ic [1,4] (NE l (xs++ys3) w23 (q+Yn ys3) (Z5.mk e.op e.num 0 [v5] cs) (hl:=(by first|(have h1:=KN zs;have h2:=Am (xs:=e.kids) k;have h3:=Ah zs;(try simp only [Yl]);omega)|((try simp only [Yl]);omega))) (hq:=(by first|(have h1:=KN zs;have h2:=Am (xs:=e.kids) k;have h3:=Ah zs;(try simp only [Yl]);omega)|((try simp only [Yl]);omega)))) ?_)))
  rintro _ _ ⟨w24,rfl,rfl⟩
  refine Z2 ?_
  have hcb:YK e.op=false:=by simp [YK];omega
  exact ZT (r1 [0,0] ⟨(ys3++[Z5.mk e.op e.num 0 [v5] cs]),(((q+Yn ys3):Nat):Int),w24,rfl,rfl,(LW.branch (s0:=x4.sz) (sr:=Xy (e.kids.take k)-x4.sz) om (fun h=>by have:=h7 h;omega) (fun h=>by have:=h8 h;omega) hnum hlwhp3.fs hlwhp3.v Zy om hlwhp3.sz (by have:=F3 cs;omega) (by have:=Am (xs:=e.kids) k;omega) hlwhp3.op Wc)⟩ (eq:=(ro (ls:=[Xc ((xs++ys3)++[(Z5.mk e.op e.num 0 [v5] cs)]) w24,.i ((((q+Yn ys3)+1):Nat):Int)]) (by rw [DQ (s:=Z5.mk e.op e.num 0 [v5] cs) hcb,<-A4,VJ]) (rc rz))))
 refine ak (ar (iL (Z6 []) 0 1 fun v12=>?_))
 refine Z2 (Y0 (ab 3 (Y3 (fun fz gz m F h=>∃(k:Nat) (asl:LI) (u:Value) (zs:List Z5) (w3:Value),(k<=e.kids.length)/\(asl.length=k)/\(W5 g.decls g.funcs.length q zs)/\(∀a∈asl,0<=a/\a<((q+Yn zs:Nat):Int))/\(Yo zs<=6*Xy (e.kids.take k))/\(TE WD zs)/\F=sF [0,3,5,6] fz [(15,ZV asl u),(16,.i k)]/\h=[Zg gz 1,Zg gz 2,.obj l [Xc (xs++zs) w3,.i (((q+Yn zs):Nat):Int)],.tail u 1,.tail w3 5]/\m=e.kids.length-k) _ _ _ ⟨0,[],v12,[],w,ob,ob,True.intro,(fun a ha=>by cases ha),(by simp [Yo]),True.intro,rfl,rfl,rfl⟩ (wk [1,1,1,0,0] (fr (Yd fl)) (e:=(rc (rc (ro (ls:=[Xc xs w,.i q]) (by simp [Yn]) (rc (rc rz))))))) ?_)))
 rintro m F h ⟨k,asl,u,zs,w3,U7,Wb,XV,Hp,Zej,My,rfl,rfl,rfl⟩
 refine Yr 3 [0] (iw (HK e.kids) (ZZ ((k:Int)<(e.kids.length:Int)) (fun Wo=>?_) (fun Wo=>?_)))
 ·refine ak (aq (ab 4 (aD 10 (ZU 5 10 [0,1,2,3,4] [1,0] ?_))))
  obtain ⟨x7,FG⟩:=Zv e.kids k om
  have hzl:=KN zs
  have hzd:=Ah zs
  have htk:=Am (xs:=e.kids) (k+1)
  have hekx7:=CS hks FG
  have hszx7:=BY FG
  have htzx7:=B3 FG
  rw [Wh] at hekx7
  rw [Rk om] at hekx7
  refine dx 5 (Zj none (k:Int) 3 (CK FG)) (Zs 2 4 [6,7] (Z8 8 (dc 8 [2,3] [] [] (ih l x7 us (xs++zs) w3 (q+Yn zs) (by first|assumption|(rw [Yl];assumption)) (by first|assumption|exact EH hu hlwhp1.v|exact GR hu) (by first|omega|(simp only [Yl,Yw,X5];omega)) (by first|omega|(simp only [Yl,Yw,X5];omega)) ob ob) ?_)))
  rintro _ _ ⟨ys4,v13,w25,rfl,rfl,XQ⟩
  have hlwhp6:=XQ
  have hldhp6:=XQ.dn
  exact Zs 0 1 [9] (de (az (Z0 2 (iL (Z6 [v13]) 1 1 fun v14=>ZM 0 [(137,Z3 [v13])] (ip 5 (Z6 (asl++[v13])) (Z6 asl) (Z6 [v13]) u none 1 (YG _) (YG _) (W4 _) (by simp<;>omega) (by simp [W3,Z6]) fun v15=>Z2 (az (Z0 1 (ZE k (Z2 (ZJ ⟨k+1,(asl++[v13]),v15,(zs++ys4),w25,ob,ob,(JM.2 ⟨XV,hlwhp6.fs⟩),(by rw [UO,<-A4];exact EH Hp hlwhp6.v),(by have:=hlwhp6.sz;rw [TL];omega),(G8.2 ⟨My,hlwhp6.op⟩),rfl,rfl,rfl⟩ (wk [4,4,2,0,1] (fr (ZO k fl)) (e:=(rc (rc (ro (ls:=[Xc ((xs++zs)++ys4) w25,.i ((((q+Yn zs)+Yn ys4):Nat):Int)]) (by rw [UO,<-A4,VJ]) (rc (rc rz)))))))))))))))))
 refine ax 3 (Zq 6 [0,0] (iL (XM []) 0 2 fun v16=>ZM 1 [(146,.agg [.i e.op,.i e.num,.i 0,Z3 asl,Jh []])] (ic [3,4] (NE l (xs++zs) w3 (q+Yn zs) (Z5.mk e.op e.num 0 asl []) (hl:=(by first|(have h1:=KN zs;have h2:=Am (xs:=e.kids) k;have h3:=Ah zs;(try simp only [Yl]);omega)|((try simp only [Yl]);omega))) (hq:=(by first|(have h1:=KN zs;have h2:=Am (xs:=e.kids) k;have h3:=Ah zs;(try simp only [Yl]);omega)|((try simp only [Yl]);omega)))) ?_)))
 rintro _ _ ⟨w26,rfl,rfl⟩
 refine Z2 ?_
 have hcb:YK e.op=false:=by simp [YK];omega
 exact ZT (r1 [0,0] ⟨(zs++[Z5.mk e.op e.num 0 asl []]),(((q+Yn zs):Nat):Int),w26,rfl,rfl,(LW.node om h9 hnum XV Hp om (by have:=Am (xs:=e.kids) k;omega) My)⟩ (eq:=(ro (ls:=[Xc ((xs++zs)++[(Z5.mk e.op e.num 0 asl [])]) w26,.i ((((q+Yn zs)+1):Nat):Int)]) (by rw [DQ (s:=Z5.mk e.op e.num 0 asl []) hcb,<-A4,<-VJ]) (rc rz))))
theorem Z5l (l:Nat) (g:W1) (e:Z1) (us:LI) (xs:List Z5) (w:Value) (q:Nat) (hd:GD g.decls) (he:eW g.decls g.funcs.length us.length e) (hu:∀a∈us,0<=a/\a<(q:Int)) (hul:us.length+4*e.sz<=100000) (hxl:xs.length+6*e.sz<=100000) (hql:q+6*e.sz<=100000):Zo 177 [.p l 0,Aa g,Y1 e,Z3 us] [.obj l [Xc xs w,.i q],.tail w 5] (fun r h=>∃(ys:List Z5) (v:Int) (w2:Value),r=.i v/\h=[.obj l [Xc (xs++ys) w2,.i (((q+Yn ys):Nat):Int)],.tail w2 5]/\LW g.decls g.funcs.length q e ys v):=by
 have key:∀k:Nat,∀(l:Nat) (e2:Z1) (us2:LI) (xs2:List Z5) (w2:Value) (q2:Nat),(eW g.decls g.funcs.length us2.length e2)->(∀a∈us2,0<=a/\a<(q2:Int))->(us2.length+4*e2.sz<=100000)->(xs2.length+6*e2.sz<=100000)->(q2+6*e2.sz<=100000)->(e2.sz<k)->Zo 177 [.p l 0,Aa g,Y1 e2,Z3 us2] [.obj l [Xc xs2 w2,.i q2],.tail w2 5] (fun r h=>∃(ys:List Z5) (v:Int) (w2:Value),r=.i v/\h=[.obj l [Xc (xs2++ys) w2,.i (((q2+Yn ys):Nat):Int)],.tail w2 5]/\LW g.decls g.funcs.length q2 e2 ys v):=by
  intro k
  induction k with
  | zero=>intro l e2 us2 xs2 w2 q2 h1 h2 h3 h4 h5 h6;omega
  | succ k ih=>intro l e2 us2 xs2 w2 q2 h1 h2 h3 h4 h5 h6;exact Z5m l g e2 us2 xs2 w2 q2 hd h1 h2 h3 h4 h5 fun l e3 us3 xs3 w3 q3 a1 a2 a3 a4 a5 a6=>ih l e3 us3 xs3 w3 q3 a1 a2 a3 a4 a5 om
 exact key (e.sz+1) l e us xs w q he hu hul hxl hql om
theorem Ib (g:W1) (e:Z1) (us:LI) (q:Nat) (hd:GD g.decls:=by exact ob) (he:eW g.decls g.funcs.length us.length e:=by exact ob) (hu:∀a∈us,0<=a/\a<(q:Int)) (hul:us.length+4*e.sz<=100000:=by exact ob) (hql:q+6*e.sz<=100000:=by exact ob):Zo 149 [Aa g,Y1 e,Z3 us,.i q] [] (fun r h=>∃(b:Z7),r=Yh b/\h=[]/\LB g.decls g.funcs.length q e b):=(NP g e us q (e.sz+1) he hu hul hql om (fun l e2 us2 xs2 w2 q2 h1 h2 h3 h4 h5 _=>Z5l l g e2 us2 xs2 w2 q2 hd h1 h2 h3 h4 h5))
theorem AF (ds:List Zb) (hd:Xw ds:=by exact ob):Zo 70 [Ya ds] [] (Yy (Ya ds)):=by
 have hdl:=hd.len
 refine ZG 55 Tryz.func70 (Y7 (ar (iL (YR []) 0 3 fun v1=>?_)))
 refine Z2 (Y0 (ab 0 (Y3 (fun fz gz m F h=>∃(k:Nat) (v:Value),(k<=ds.length)/\F=sF [0] fz [(3,Kc (ds.take k) v),(4,.i k)]/\h=[.tail v 3]/\m=ds.length-k) _ _ _ ⟨0,v1,ob,rfl,rfl,rfl⟩ (wk [0] (fc (x:=Kc [] v1) (Zd.slh _ (Yp YR rfl)) (Yd fl))) ?_)))
 rintro m F h ⟨k,v,Yk,rfl,rfl,rfl⟩
 refine YQ 2 (iw (Uo ds) (ZZ ((k:Int)<(ds.length:Int)) (fun Z9=>?_) (fun Z9=>?_)))
 ·obtain ⟨xd,hxd⟩:=Zv ds k om
  have hcl:=hd.cons_at hxd
  refine ak (aq (ab 1 (ar (iL (Wk []) 0 1 fun v2=>?_))))
  refine Z2 (Y0 (ab 2 (Y3 (fun fz gz m F h=>∃(j:Nat) (u:Value),(j<=xd.cons.length)/\F=sF [0,3,4] fz [(5,Df (xd.cons.take j) u),(6,.i j)]/\h=[.tail u 1,Zg gz 1]/\m=xd.cons.length-j) _ _ _ ⟨0,v2,ob,rfl,rfl,rfl⟩ (wk [0,0] (fc (x:=Df [] v2) (Zd.slh _ (Yp Wk rfl)) (Yd fl))) ?_)))
  rintro m F h ⟨j,u,U7,rfl,rfl,rfl⟩
  refine YQ 3 (Zp (Zj none (k:Int) 3 (Vn hxd)) (Z0 2 (iw (UP xd.cons) (ZZ ((j:Int)<(xd.cons.length:Int)) (fun Zi=>?_) (fun Zi=>?_)))))
  ·refine ak (aq (ab 3 (az (Z0 3 (Zp (Zj none (k:Int) 3 (Vn hxd)) (Z0 3 ?_))))))
   obtain ⟨x1,Z4⟩:=Zv xd.cons j om
   have hfl:=hd.fields_at hxd Z4
   refine Zp (Zj none (j:Int) 1 (BU Z4)) (Z0 2 (ic [] (WI x1.fields) ?_))
   rintro _ _ ⟨v3,rfl,rfl⟩
   exact ZM 1 [(36,Cw x1)] (iL (Wk [x1]) 1 1 fun v4=>ZM 0 [(37,QE [x1])] (ip 2 (Wk (xd.cons.take (j+1))) (Wk (xd.cons.take j)) (Wk [x1]) u none 1 (DR _) (DR _) (MR _) (by simp<;>omega) (by rw [WU Z4];simp [Wk]) fun v5=>Z2 (az (Z0 1 (ZE j (Z2 (ZJ ⟨j+1,v5,ob,rfl,rfl,rfl⟩ (wk [0,2] (fr (ZO j fl))))))))))
  exact ax 2 (aE 16 (Zs 13 16 [0,1,2] (dx 3 (Zj none (k:Int) 3 (Vn hxd)) (Zs 8 12 [4,5,6,7] (dx 8 (Zj none (k:Int) 3 (Vn hxd)) (Yq 3 7 [9,10,11,12] [(51,.agg [.i xd.frm,.i xd.to_,QE (xd.cons.take j)])] (Z8 13 (dL 13 [] [] (YR [Zb.mk xd.frm xd.to_ (xd.cons.take j)]) 1 3 fun v6=>Yq 2 2 [] [(52,Ya [Zb.mk xd.frm xd.to_ (xd.cons.take j)])] (Z8 14 (dp 14 2 [] [] (YR (ds.take (k+1))) (YR (ds.take k)) (YR [Zb.mk xd.frm xd.to_ (xd.cons.take j)]) v none 3 (K0 _) (K0 _) (DS _) (by simp<;>omega) (by rw [WU hxd];simp [YR,WJ (show xd.cons.length<=j by omega)]) fun v7=>Zs 0 1 [15] (de (az (Z0 1 (ZE k (Z2 (ZJ ⟨k+1,v7,ob,rfl,rfl,rfl⟩ (wk [0] (fr (ZO k fl)))))))))))))))))))
 exact ax 0 (ar (Zm (ZW (Kc (ds.take k) v) (Zd.sl _ (Yp YR (by rw [WJ om]))))))
theorem Z5t (g:W1) (hg:H3 g:=by exact ob):Zo 136 [Aa g] [] (fun r h=>∃(n:ZC),r=YB n/\h=[]/\FO n 181 WD):=by
 have hgl:=hg.gp.len
 have Xl:=hg.gp.decls.ok
 refine ZG 49 Tryz.func136 (ar (iA (IE g) fun b1=>iA [nl,nl] fun b2=>ie (Zq 2 [1] (Zu [] (AF g.decls) (iL (X6 []) 0 5 fun v1=>Z0 1 (iA [nl,nl] fun b3=>?_))))))
 refine Zz 0 b3 [Ya g.decls,WG [] v1] (ie (Y0 (ab 0 (Y3 (fun fz gz m F h=>∃(k:Nat) (rs:List Yz) (u:Value),(k<=g.funcs.length)/\(rs.length=k)/\(∀r∈rs,RN g.decls g.funcs.length r)/\F=sF [1,2,3] fz [(4,.i k)]/\h=[.obj b3 [Ya g.decls,WG rs u],Zg gz 2,Zg gz 3,.tail u 5]/\m=g.funcs.length-k) _ _ _ ⟨0,[],v1,ob,ob,(fun r hr=>by cases hr),rfl,rfl,rfl⟩ (wk [0,1,1,0] (Yd fl)) ?_))))
 rintro m F h ⟨k,rs,u,Yk,Zh,Zy,rfl,rfl,rfl⟩
 refine Yr 3 [2] (iw (CM g.funcs) (ZZ ((k:Int)<(g.funcs.length:Int)) (fun Z9=>?_) (fun Z9=>?_)))
 ·refine ak (aq (ab 1 (Zq 3 [2] ?_)))
  obtain ⟨x1,Z4⟩:=Zv g.funcs k om
  have hso:=(hg.gp.sigs _ (Y2 Z4)).bd
  have hsi:=hg.gp.sigs _ (Y2 Z4)
  have hbo:=hg.body _ (Y2 Z4)
  refine Zp (Zj none (k:Int) 5 (Ff Z4)) (Z0 1 (iA [nl,.i 0,.i 0,.i 0,nl] fun b4=>?_))
  refine Zz 0 b4 (FQ x1) (ie (Zq 2 [0] (iw (Yc x1.params) (Z2 (aD 9 (ZU 4 9 [0,1,2,3,5] [3,0] (AY (fun fz gz F h=>∃(b5:Z7) (b6:Nat) (xs1:LI),(xs1.length=x1.params.length/\∀i∈xs1,(0:Int)<=i/\i<(0:Int)+x1.params.length)/\(LB g.decls g.funcs.length x1.params.length x1.body b5)/\F=sF [1,2,3,4,5] fz [(7,.p b6 0)]/\h=[.obj b6 (XR b5),Zg gz 0,Zg gz 1,Zg gz 2,Zg gz 3,Zg gz 4]) ?_ ?_)))))))
  ·refine U9 4 7 ?_ ?_
   ·refine dc 4 [] [0,3] [b4,b1] (Ic 0 x1.params.length) ?_
    rintro _ _ ⟨xs1,rfl,rfl,Y6⟩
    have hnx:=Y6
    refine U9 6 7 ?_ ?_
    ·refine dc 6 [] [] [] (Ib g x1.body xs1 x1.params.length (hd:=hg.gp.decls) (he:=(by rw [hnx.1];exact hbo.1)) (hu:=(fun a ha=>by have:=hnx.2 a ha;omega))) ?_
     rintro _ _ ⟨b5,rfl,rfl,Yt⟩
     have hlb:=Yt
     exact Z8 7 (dA 7 [] [] [nl,.i 0] fun b6=>Z8 8 (YZ 8 0 [] [] b6 (XR b5) (de (ZD ⟨_,b6,_,(by assumption),(by assumption),rfl,rfl⟩ (Zw 6 fl)))))
    refine dA 7 [0,3] [b4,b1] [nl,.i 0] fun b7=>Z8 6 (dc 6 [] [] [] (Ib g x1.body xs1 x1.params.length (hd:=hg.gp.decls) (he:=(by rw [hnx.1];exact hbo.1)) (hu:=(fun a ha=>by have:=hnx.2 a ha;omega))) ?_)
    rintro _ _ ⟨b8,rfl,rfl,YP⟩
    have hlb:=YP
    exact Z8 8 (YZ 8 0 [] [] b7 (XR b8) (de (ZD ⟨_,b7,_,(by assumption),(by assumption),rfl,rfl⟩ (Zw 6 fl))))
   refine dA 7 [0,3] [b4,b1] [nl,.i 0] fun b9=>Z8 4 (dc 4 [] [1,4] [b4,b1] (Ic 0 x1.params.length) ?_)
   rintro _ _ ⟨xs2,rfl,rfl,X2⟩
   have hnx:=X2
   refine Z8 6 (dc 6 [] [] [] (Ib g x1.body xs2 x1.params.length (hd:=hg.gp.decls) (he:=(by rw [hnx.1];exact hbo.1)) (hu:=(fun a ha=>by have:=hnx.2 a ha;omega))) ?_)
   rintro _ _ ⟨b10,rfl,rfl,Xg⟩
   have hlb:=Xg
   exact Z8 8 (YZ 8 0 [] [] b9 (XR b10) (de (ZD ⟨_,b9,_,(by assumption),(by assumption),rfl,rfl⟩ (Zw 6 fl))))
  rintro F h ⟨b5,b6,xs1,Y6,Yt,rfl,rfl⟩
  have hnx:=Y6
  have hlb:=Yt
  refine aE 14 (ZU 7 14 [0,1,2,3,6,7,8] [2,1,1,0] (U9 4 5 ?_ ?_))
  ·refine dc 4 [] [0,1,2] [b6,b4,b3] (WI x1.params) ?_
   rintro _ _ ⟨v2,rfl,rfl⟩
   exact Z8 5 (dL 5 [0,1,2] [b6,b4,b3] (Z6 []) 0 1 fun v3=>Yq 4 5 [9] [(44,.agg [Z3 x1.params,Z3 [],.i x1.result,Vb b5.steps,.i b5.result])] (Z8 10 (dL 10 [2] [b3] (X6 [Yz.mk x1.params [] x1.result (Z7.mk b5.steps b5.result)]) 1 5 fun v4=>Yq 3 3 [] [(45,Ji [Yz.mk x1.params [] x1.result (Z7.mk b5.steps b5.result)])] (Z8 11 (dp 11 8 [] [] (X6 (rs++[Yz.mk x1.params [] x1.result (Z7.mk b5.steps b5.result)])) (X6 rs) (X6 [Yz.mk x1.params [] x1.result (Z7.mk b5.steps b5.result)]) u none 5 (UR _) (UR _) (B1 _) (by simp<;>omega) (by simp [CP,X6]) fun v5=>Zs 1 2 [12] (Z8 13 (YZ 13 6 [] [] b3 [Ya g.decls,WG (rs++[Yz.mk x1.params [] x1.result (Z7.mk b5.steps b5.result)]) v5] (de (az (Z0 1 (ZE k (Z2 (ZJ ⟨k+1,(rs++[Yz.mk x1.params [] x1.result (Z7.mk b5.steps b5.result)]),v5,ob,ob,(Xx Zy (RN.of hsi hlb hbo.2)),rfl,rfl,rfl⟩ (wk [0,6,6,0] (ZO k fl)))))))))))))))
  refine dL 5 [0,1,1,2] [b6,b4,b4,b3] (Z6 []) 0 1 fun v6=>Z8 4 (dc 4 [] [0,1,2] [b6,b4,b3] (WI x1.params) ?_)
  rintro _ _ ⟨v7,rfl,rfl⟩
  exact Yq 4 5 [9] [(44,.agg [Z3 x1.params,Z3 [],.i x1.result,Vb b5.steps,.i b5.result])] (Z8 10 (dL 10 [2] [b3] (X6 [Yz.mk x1.params [] x1.result (Z7.mk b5.steps b5.result)]) 1 5 fun v8=>Yq 3 3 [] [(45,Ji [Yz.mk x1.params [] x1.result (Z7.mk b5.steps b5.result)])] (Z8 11 (dp 11 8 [] [] (X6 (rs++[Yz.mk x1.params [] x1.result (Z7.mk b5.steps b5.result)])) (X6 rs) (X6 [Yz.mk x1.params [] x1.result (Z7.mk b5.steps b5.result)]) u none 5 (UR _) (UR _) (B1 _) (by simp<;>omega) (by simp [CP,X6]) fun v9=>Zs 1 2 [12] (Z8 13 (YZ 13 6 [] [] b3 [Ya g.decls,WG (rs++[Yz.mk x1.params [] x1.result (Z7.mk b5.steps b5.result)]) v9] (de (az (Z0 1 (ZE k (Z2 (ZJ ⟨k+1,(rs++[Yz.mk x1.params [] x1.result (Z7.mk b5.steps b5.result)]),v9,ob,ob,(Xx Zy (RN.of hsi hlb hbo.2)),rfl,rfl,rfl⟩ (wk [0,6,6,0] (ZO k fl))))))))))))))
 exact ax 0 (Zq 1 [0] (Zz 1 b2 [Ya g.decls,WG rs u] (ie (ZT (r3 [] [.agg [Ya g.decls,WG rs u]] [0] [(b2,b2)] ⟨(ZC.mk g.decls rs),rfl,rfl,(RN.all hg.gp.decls (by show 1<=rs.length/\rs.length<=4;omega) (by show ∀r∈rs,RN g.decls rs.length r;rw [show rs.length=g.funcs.length by omega];exact Zy) om)⟩ (Zd.agg (.cons (lr _) (.cons (Zd.forget _ _) .nil))))))))
theorem Zcr (n:ZC) (hz:Js n:=by exact ob):Zo 142 [YB n] [] (Yy (.b (QR n))):=by
 have hzl:=hz.len
 refine ZG 35 Tryz.func142 (ar (iA (X4 n) fun b1=>Z2 (Yr 1 [0] (Zu [] (Zcq n (hz:=hz.decls) (hr:=(fun r hr=>⟨hz.params r hr,hz.lent r hr⟩))) (YC (!JR n) (p:=¬(JR n=true)) (Ys Iff.rfl) (fun Z9=>?_) (fun Z9=>?_))))))
 ·exact ar (Zm (ZW (.b false) (lb (by first|rfl|omega|grind [QR]))))
 have hok:=OV hz (by simpa using Z9)
 refine ak (Y0 (ab 0 (Y3 (fun fz gz m F h=>∃(k:Nat),(k<=n.routines.length)/\(AE n (n.routines.drop k)=AE n n.routines)/\F=sF [1] fz [(3,.i k)]/\h=gz/\m=n.routines.length-k) _ _ _ ⟨0,ob,ob,rfl,rfl,rfl⟩ (wk [0] (Yd fl)) ?_)))
 rintro m F h ⟨k,Yk,Zh,rfl,rfl,rfl⟩
 refine Yr 3 [0] (iw (TB n.routines) (ZZ ((k:Int)<(n.routines.length:Int)) (fun Zi=>?_) (fun Zi=>?_)))
 ·refine ak (aq (ab 1 (Zq 3 [0] ?_)))
  obtain ⟨x1,Z4⟩:=Zv n.routines k om
  have ZI:=hz.body _ (Y2 Z4)
  have hps:=hok.params_at Z4
  refine Zp (Zj none (k:Int) 5 (Vw Z4)) (Z0 1 (iA [nl,nl,.i 0,nl,.i 0] fun b2=>Zz 0 b2 (Jd x1) (ie (aD 15 (ZU 13 15 [0,1] [0] (Z8 2 (YH 2 [] [] [] (Zch x1.body) (BO [1,3] [(34,.b ((decide ((AI x1.body)<0))||((XW n x1.params x1.body) != x1.result)))] (fun gz=>gz) ?_ ?_))))))))
  ·refine Zs 10 12 [3,4] (db (b:=(decide ((AI x1.body)<0))) 24 (fun Zc=>?_) (fun Zc=>?_))
   ·exact Zs 0 10 [5,6,7,8,9,10,11,12,13,14] (de (wk [0,0] (Zl true Zc fl)))
   exact ZU 3 10 [5,6,7,8,9,11,12] [1,0,0,0] (Z8 10 (YH 10 [] [0] [b2] (RD n x1.params x1.body ob ob) (Zs 0 2 [13,14] (de (wk [0,0] (Zl ((XW n x1.params x1.body) != x1.result) Zc fl))))))
  refine ac ((decide ((AI x1.body)<0))||((XW n x1.params x1.body) != x1.result)) (p:=((AI x1.body)<0)∨((XW n x1.params x1.body)≠x1.result)) (ZY dq Yv) (fun ZB=>?_) (fun ZB=>?_)
  ·refine Y7 ?_
   rw [Yi Z4] at Zh
   exact ZT (ZW (.b false) (lb (by clear Z4;first|rfl|omega|grind [AE,QR])))
  refine ak (az (Z0 1 (ZE k (Z2 ?_))))
  have hdr:=Yi Z4
  exact ZJ ⟨k+1,ob,(by rw [hdr] at Zh;clear hdr Z4;grind [AE]),rfl,rfl,rfl⟩ (wk [1] (ZO k fl))
 refine ax 0 (Y7 ?_)
 try rw [Xt (xs:=n.routines) (k:=k) om] at Zh
 exact ZT (ZW (.b true) (lb (by first|rfl|omega|grind [AE,QR])))
theorem RH (op:Int) :Zo 210 [.i op] [] (Yy (.b (YK op))):=by
 exact ZG 5 Tryz.func210 (Y7 (Yf 1 (Zu [] (V0 op 14 17) (Zm (ZW (.b (decide (14<=op/\op<=17))) (lb (by first|rfl|omega|grind [YK])))))))
theorem RE (op:Int) :Zo 220 [.i op] [] (Yy (.b (JF op))):=by
 refine ZG 17 Tryz.func220 (Y7 (ar (Xb 6 [0] [(8,.b ((op==6)||(op==9)))] (fun gz=>gz) ?_ (fun hj1=>?_))))
 ·refine Xb 10 [0] [(12,.b (((op==6)||(op==9))||(op==10)))] (fun gz=>gz) ?_ (fun hj2=>?_)
  ·refine Xb 14 [] [(16,.b ((((op==6)||(op==9))||(op==10))||(op==11)))] (fun gz=>gz) ?_ (fun hj3=>?_)
   ·exact Zm (ZW (.b ((((op==6)||(op==9))||(op==10))||(op==11))) (lb (by first|rfl|omega|grind [JF])))
   refine Z0 1 (ib (b:=(((op==6)||(op==9))||(op==10))) 13 (fun Zc=>?_) (fun Zc=>?_))
   ·exact Z0 3 (Yb (wk [] (Zl true Zc fl)) hj3)
   exact Z0 3 (Yb (wk [] (Zl (op==11) Zc fl)) hj3)
  refine Z0 1 (ib (b:=((op==6)||(op==9))) 9 (fun ZF=>?_) (fun ZF=>?_))
  ·exact Z0 3 (Yb (wk [] (Zl true ZF fl)) hj2)
  exact Z0 3 (Yb (wk [] (Zl (op==10) ZF fl)) hj2)
 refine Z0 3 (ib (b:=(op==6)) 5 (fun Ym=>?_) (fun Ym=>?_))
 ·exact Z0 3 (Yb (wk [] (Zl true Ym fl)) hj1)
 exact Z0 3 (Yb (wk [] (Zl (op==9) Ym fl)) hj1)
theorem ED (n:ZC) (s:Z5) (i:Nat) (hn:Xr n:=by exact ob) (hnum:s.op=9->0<=s.num/\s.num<n.routines.length:=by exact ob):Zo 208 [YB n,X0 s,.i i] [] (Yy (.b (UH n s.op s.num i))):=by
 refine ZG 21 Tryz.func208 (ar (iA (X4 n) fun b1=>iA (W8 s) fun b2=>Z2 (Zq 4 [0] (ib (b:=(s.op==9)) 10 (fun Zc=>?_) (fun Zc=>?_)))))
 ·have Y6:s.op=9:=(Zf).1 Zc
  refine ZA 4 [1,0] ?_
  obtain ⟨x1,Z4⟩:=Zv n.routines s.num.toNat om
  have hlt:=hn.lent_at Z4
  have hlr:=Z8c (n:=n) Y6 Z4
  exact Zp (Zj none s.num 5 (Vw Z4)) (Z0 3 (Zu [] (Uz x1.lent (i:Int)) (Zm (ZW (.b (decide ((i:Int)∈x1.lent))) (lb (by rw [UH,hlr]))))))
 have Yt:¬(s.op=9):=Y8 Zf Zc
 exact Zm (ZW (.b false) (lb (by rw [UH,Da,Za Yt];simp)))
theorem GG (n:ZC) (us:LI) (s:Z5) (i:Nat) (a:Int) (hn:Xr n:=by exact ob) (hnum:s.op=9->0<=s.num/\s.num<n.routines.length:=by exact ob) (ha:s.args[i]? = some a:=by exact ob) (hi:0<=a/\a<us.length:=by exact ob):Zo 203 [YB n,Z3 us,X0 s,.i i] [] (Yy (.b (KY n us s.op s.num a i))):=by
 have hal:=(Xh.1 ha).1
 refine ZG 30 Tryz.func203 (ar (iA (X4 n) fun b1=>iA (W8 s) fun b2=>Z2 (Zq 2 [0] (Zu [] (RE s.op) (Z0 1 (ib (b:=JF s.op) 12 (fun Zc=>?_) (fun Zc=>?_)))))))
 ·refine ZA 4 [0] ?_
  obtain ⟨x1,Z4⟩:=Zv s.args i om
  have hxa:x1=a:=by rw [ha] at Z4;exact (Cv Z4).symm
  subst hxa
  refine Zp (Zj none (i:Int) 1 (Y5 Z4)) (Z0 1 ?_)
  obtain ⟨x2,Zx⟩:=Zv us x1.toNat om
  have hga:=UW Zx
  refine Zp (Zj none x1 1 (Y5 Zx)) (Z0 4 (ib (b:=(x2 != 0)) 23 (fun ZF=>?_) (fun ZF=>?_)))
  ·exact ZA 3 [1,0] (Zu [] (ED n s i) (Zm (ZW (.b (!UH n s.op s.num i)) (lb (by clear Z4 Zx;first|rfl|(rw [KY];grind))))))
  exact Zm (ZW (.b false) (lb (by clear Z4 Zx;first|rfl|(rw [KY];grind))))
 exact Zm (ZW (.b false) (lb (by  first|rfl|(rw [KY];grind))))
theorem RM (xs:LI) (ys:LI) (hl_xs:xs.length<=4294967296:=by exact ob) (hl_ys:ys.length<=4294967296:=by exact ob):Zo 207 [Z3 xs,Z3 ys] [] (Yy (.b (decide (xs=ys)))):=by
 refine ZG 26 Tryz.func207 (Y7 (YQ 1 (iw (Yc xs) (Z0 1 (iw (Yc ys) (YC ((xs.length:Int) != (ys.length:Int)) Yv (fun Z9=>?_) (fun Z9=>?_)))))))
 ·exact ar (Zm (ZW (.b false) (lb (eq_comm.1 (decide_eq_false (fun q=>by rw [q] at Z9;exact Z9 rfl))))))
 refine ak (Y0 (ab 0 (Y3 (fun fz gz m F h=>∃(k:Nat),(k<=xs.length)/\(xs.take k=ys.take k)/\F=sF [0,1] fz [(5,.i k)]/\h=gz/\m=xs.length-k) _ _ _ ⟨0,ob,ob,rfl,rfl,rfl⟩ (wk [] (Yd fl)) ?_)))
 rintro m F h ⟨k,Yk,Zh,rfl,rfl,rfl⟩
 refine YQ 2 (iw (Yc xs) (ZZ ((k:Int)<(xs.length:Int)) (fun Zi=>?_) (fun Zi=>?_)))
 ·refine ak (aq (ab 1 (aD 9 (Zs 7 9 [0,1] ?_))))
  obtain ⟨x1,Z4⟩:=Zv xs k om
  refine dx 2 (Zj none (k:Int) 1 (Y5 Z4)) (Zs 3 6 [3,4,5] ?_)
  obtain ⟨x2,Zx⟩:=Zv ys k om
  refine dx 6 (Zj none (k:Int) 1 (Y5 Zx)) (Zs 0 2 [7,8] (de (ac (x1 != x2) Yv (fun ZB=>?_) (fun ZB=>?_))))
  ·exact ar (Zm (ZW (.b false) (lb (eq_comm.1 (decide_eq_false (fun q=>by subst q;rw [Z4] at Zx;cases Zx;exact ZB rfl))))))
  refine ak (az (Z0 1 (ZE k (Z2 ?_))))
  have hdr:=Yi Z4
  exact ZJ ⟨k+1,ob,(by rw [WU Z4,WU Zx,Zh];have hxx:x1=x2:=om;rw [hxx]),rfl,rfl,rfl⟩ (wk [] (ZO k fl))
 exact ax 0 (ar (Zm (ZW (.b true) (lb (eq_comm.1 (decide_eq_true (by rw [WJ om,WJ om] at Zh;exact Zh)))))))
theorem AG (xs:LI) (hlen:xs.length<=4294967296:=by exact ob):Zo 74 [Z3 xs] [] (fun r h=>∃(v:Hd),r=.h v/\h=[rV v xs]):=by
 exact ZG 6 Tryz.func74 (Y7 (ar (iVL [] 0 fun v1=>Z0 1 (Av 0 v1 [] xs none fun v2=>Zm (r1 [0] ⟨v2,rfl,rfl⟩ (eq:=(rv (xs:=([]++xs)) ob rz)))))))
theorem K7 (b:Nat) (ga:Hd) (gb:Hd) (gc:Hd) (gd:Hd) (ge:Hd) (gf:Hd) (L:ZH) (ln:LI) (t:Int) (o:Int) (p:Int) (hlb:L.vars.length<=1000000000:=by exact ob) (hlk:T8 L:=by exact ob):Zo 164 [.p b 0,.i t,.i o,.i p] [.obj b [.h ga,.h gb,.h gc,.h gd,.h ge,.h gf,Z3 ln],rV ga L.vars,rV gb L.own,rV gc L.par,rV gd L.con,rV ge L.fst,rV gf L.tok] (fun r h=>∃(wa:Hd) (wb:Hd) (wc:Hd) (wd:Hd) (we:Hd) (wf:Hd),h=[.obj b [.h wa,.h wb,.h wc,.h wd,.h we,.h wf,Z3 ln],rV wa ((L.grow t o p).vars),rV wb ((L.grow t o p).own),rV wc ((L.grow t o p).par),rV wd ((L.grow t o p).con),rV we ((L.grow t o p).fst),rV wf ((L.grow t o p).tok)]):=by
 obtain ⟨e1,e2,e3,e4,e5⟩:=hlk
 exact ZG 65 Tryz.func164 (Zq 6 [0] (iL (Z6 [t]) 1 1 fun v1=>ZM 0 [(14,Z3 [t])] (Av 2 ga L.vars [t] none fun v2=>Z0 2 (Zz 2 b [.h v2,.h gb,.h gc,.h gd,.h ge,.h gf,Z3 ln] (ie (Zq 6 [0] (iL (Z6 [o]) 1 1 fun v3=>ZM 0 [(24,Z3 [o])] (Av 4 gb L.own [o] none fun v4=>Z0 2 (Zz 2 b [.h v2,.h v4,.h gc,.h gd,.h ge,.h gf,Z3 ln] (ie (Zq 6 [0] (iL (Z6 [p]) 1 1 fun v5=>ZM 0 [(34,Z3 [p])] (Av 6 gc L.par [p] none fun v6=>Z0 2 (Zz 2 b [.h v2,.h v4,.h v6,.h gd,.h ge,.h gf,Z3 ln] (ie (Zq 5 [0] (iL (Z6 [-1]) 1 1 fun v7=>ZM 0 [(43,Z3 [-1])] (Av 8 gd L.con [-1] none fun v8=>Z0 2 (Zz 2 b [.h v2,.h v4,.h v6,.h v8,.h ge,.h gf,Z3 ln] (ie (Zq 5 [0] (iL (Z6 [-1]) 1 1 fun v9=>ZM 0 [(52,Z3 [-1])] (Av 10 ge L.fst [-1] none fun v10=>Z0 2 (Zz 2 b [.h v2,.h v4,.h v6,.h v8,.h v10,.h gf,Z3 ln] (ie (az (ZA 5 [0] (iL (Z6 [-1]) 1 1 fun v11=>ZM 0 [(61,Z3 [-1])] (Av 12 gf L.tok [-1] none fun v12=>Z0 2 (Zz 2 b [.h v2,.h v4,.h v6,.h v8,.h v10,.h v12,Z3 ln] (ie (r2 [0,10,8,6,4,2,0] [] ⟨v2,v4,v6,v8,v10,v12,rfl⟩ (lr _) (eq:=(rc (rv (xs:=(L.vars++[t])) ob (rv (xs:=(L.own++[o])) ob (rv (xs:=(L.par++[p])) ob (rv (xs:=(L.con++[-1])) ob (rv (xs:=(L.fst++[-1])) ob (rv (xs:=(L.tok++[-1])) ob rz))))))))))))))))))))))))))))))))))))))))
theorem Z86 (b:Nat) (ga:Hd) (gb:Hd) (gc:Hd) (gd:Hd) (ge:Hd) (gf:Hd) (L:ZH) (ln:LI) (hlb:L.vars.length<=1000000000:=by exact ob) (hlk:T8 L:=by exact ob) (hln:ln.length<=4294967296:=by exact ob):Zo 226 [.p b 0] [.obj b [.h ga,.h gb,.h gc,.h gd,.h ge,.h gf,Z3 ln],rV ga L.vars,rV gb L.own,rV gc L.par,rV gd L.con,rV ge L.fst,rV gf L.tok] (fun r h=>∃(c:Nat) (wa:Hd) (wb:Hd) (wc:Hd) (wd:Hd) (we:Hd) (wf:Hd),r=.p c 0/\h=[.obj c [.h wa,.h wb,.h wc,.h wd,.h we,.h wf,Z3 ln],rV wa L.vars,rV wb L.own,rV wc L.par,rV wd L.con,rV we L.fst,rV wf L.tok,.obj b [.h ga,.h gb,.h gc,.h gd,.h ge,.h gf,Z3 ln],rV ga L.vars,rV gb L.own,rV gc L.par,rV gd L.con,rV ge L.fst,rV gf L.tok]):=by
 obtain ⟨e1,e2,e3,e4,e5⟩:=hlk
 refine ZG 40 Tryz.func226 (Y7 (aD 38 (ZU 10 38 [0,1,2,3,5,6,7,8,10,11,12,13,15,16,17,18,20,21,22,23,25,26,27,28,30,31,32,33] [0,0,0,0,0,0,0] (Z8 4 (JG 4 [1] [0,0,0,0,0,0] [b,b,b,b,b,b] [rV ga L.vars] (AG L.vars) CC (gL (v:=ga) 0 gN) (KD JQ) ?_)))))
 rintro _ _ ⟨v1,rfl,rfl⟩
 refine Z8 9 (JG 9 [3] [0,0,0,0,0] [b,b,b,b,b] [rV gb L.own] (AG L.own) CC (gL (v:=gb) 0 gN) (KD JQ) ?_)
 rintro _ _ ⟨v2,rfl,rfl⟩
 refine Z8 14 (JG 14 [5] [0,0,0,0] [b,b,b,b] [rV gc L.par] (AG L.par) CC (gL (v:=gc) 0 gN) (KD JQ) ?_)
 rintro _ _ ⟨v3,rfl,rfl⟩
 refine Z8 19 (JG 19 [7] [0,0,0] [b,b,b] [rV gd L.con] (AG L.con) CC (gL (v:=gd) 0 gN) (KD JQ) ?_)
 rintro _ _ ⟨v4,rfl,rfl⟩
 refine Z8 24 (JG 24 [9] [0,0] [b,b] [rV ge L.fst] (AG L.fst) CC (gL (v:=ge) 0 gN) (KD JQ) ?_)
 rintro _ _ ⟨v5,rfl,rfl⟩
 refine Z8 29 (JG 29 [11] [0] [b] [rV gf L.tok] (AG L.tok) CC (gL (v:=gf) 0 gN) (KD JQ) ?_)
 rintro _ _ ⟨v6,rfl,rfl⟩
 refine Z8 34 (dc 34 [] [] [] (WI ln) ?_)
 rintro _ _ ⟨v7,rfl,rfl⟩
 exact Yq 2 3 [35] [(38,.agg [.h v1,.h v2,.h v3,.h v4,.h v5,.h v6,Z3 ln])] (Z8 36 (dA 36 [] [] [.h v1,.h v2,.h v3,.h v4,.h v5,.h v6,Z3 ln] fun b1=>Zs 0 1 [37] (de (ZT (r1 [0,11,9,7,5,3,1,7,6,5,4,3,2,1] ⟨b1,v1,v2,v3,v4,v5,v6,rfl,rfl⟩)))))
theorem FV (b:Nat) (ga:Hd) (gb:Hd) (gc:Hd) (gd:Hd) (ge:Hd) (gf:Hd) (L:ZH) (ln:LI) (i:Int) (hlk:T8 L:=by exact ob) (hi:0<=i/\i<L.vars.length:=by exact ob) (hq:∀x∈L.own,0<=x/\x<=1000000000):Zo 165 [.p b 0,.i i] [.obj b [.h ga,.h gb,.h gc,.h gd,.h ge,.h gf,Z3 ln],rV ga L.vars,rV gb L.own,rV gc L.par,rV gd L.con,rV ge L.fst,rV gf L.tok] (fun r h=>(∃(wa:Hd) (wb:Hd) (wc:Hd) (wd:Hd) (we:Hd) (wf:Hd) (L':ZH),r=.b true/\h=[.obj b [.h wa,.h wb,.h wc,.h wd,.h we,.h wf,Z3 ln],rV wa L'.vars,rV wb L'.own,rV wc L'.par,rV wd L'.con,rV we L'.fst,rV wf L'.tok]/\TM L i=some L')∨(r=.b false/\h=[]/\TM L i=none)):=by
 obtain ⟨e1,e2,e3,e4,e5⟩:=hlk
 refine ZG 27 Tryz.func165 (Y7 (Yr 5 [0] (Zp (VV 2 gb L.own i i.toNat (hq:=rfl)) ?_)))
 obtain ⟨x1,Z4⟩:=Zv L.own i.toNat om
 have hxq:=hq _ (Y2 Z4)
 have hgi:=UW Z4
 refine U2 (Q4 2 gb L.own i.toNat x1 Z4) (ZZ (x1<1) (fun Z9=>?_) (fun Z9=>?_))
 ·exact ar (Zm (r1 [] (.inr ⟨rfl,rfl,(by rw [TM,hgi,Zk Z9])⟩)))
 exact ak (aD 15 (ZU 5 15 [0,1,2,3,4,5,6,7,8,9] [0,0] (dx 10 (VV 2 gb L.own i i.toNat (hq:=rfl)) (Un 11 (Q4 2 gb L.own i.toNat x1 Z4) (da 12 ((x1-1)) ((x1)-(1)) (dx 13 (VV 2 gb L.own i i.toNat (hq:=rfl)) (Z8 14 (BP 14 2 [] [] gb L.own i.toNat (x1-1) (de (ar (Zm (r1 [1,1,0,0,0,0,0] (.inl ⟨ga,gb,gc,gd,ge,gf,(ZH.mk L.vars (L.own.set i.toNat (x1-1)) L.par L.con L.fst L.tok),rfl,rfl,(by rw [TM,hgi,Za Z9])⟩) (eq:=(rc (rv (xs:=L.vars) ob (rv (xs:=(L.own.set i.toNat (x1-1))) ob (rv (xs:=L.par) ob (rv (xs:=L.con) ob (rv (xs:=L.fst) ob (rv (xs:=L.tok) ob rz))))))))))))))))))))
theorem FU (b:Nat) (ga:Hd) (gb:Hd) (gc:Hd) (gd:Hd) (ge:Hd) (gf:Hd) (L:ZH) (ln:LI) (i:Int) (hlk:T8 L:=by exact ob) (hln:ln.length<=4294967296:=by exact ob) (hi:0<=i/\i<L.vars.length:=by exact ob) (hd:∀j:Int,0<=j->j<L.vars.length->gI L.par j<j):Zo 115 [.p b 0,.i i] [.obj b [.h ga,.h gb,.h gc,.h gd,.h ge,.h gf,Z3 ln],rV ga L.vars,rV gb L.own,rV gc L.par,rV gd L.con,rV ge L.fst,rV gf L.tok] (fun r h=>r=.b (UM L ln i)/\h=[.obj b [.h ga,.h gb,.h gc,.h gd,.h ge,.h gf,Z3 ln],rV ga L.vars,rV gb L.own,rV gc L.par,rV gd L.con,rV ge L.fst,rV gf L.tok]):=by
 obtain ⟨e1,e2,e3,e4,e5⟩:=hlk
 refine ZG 31 Tryz.func115 (Y7 (aq (ab 0 (Y3 (fun fz gz m F h=>∃(j:Int),(0<=j/\j<L.vars.length)/\(Qr L.own L.par ln (j.toNat+1) j=UM L ln i)/\F=sF [0] fz [(1,.i j)]/\h=gz/\m=j.toNat) _ _ _ ⟨i,ob,ob,rfl,rfl,rfl⟩ (Zw 7 fl) ?_))))
 rintro m F h ⟨j,Yk,Zh,rfl,rfl,rfl⟩
 refine Yr 5 [0] (Zp (VV 2 gb L.own j j.toNat (hq:=rfl)) ?_)
 obtain ⟨x1,Z4⟩:=Zv L.own j.toNat om
 have hg1:=UW Z4
 refine U2 (Q4 2 gb L.own j.toNat x1 Z4) (Xp [0,1] [(21,.b ((decide (x1<1))&&(!(decide (j∈ln)))))] (fun gz=>gz) ?_ ?_)
 ·refine Z0 2 (ib (b:=(decide (x1<1))) 13 (fun Zc=>?_) (fun Zc=>?_))
  ·exact ZA 5 [0] (Zu [] (Uz ln j) (Z2 (Zw 7 (Zl (!(decide (j∈ln))) Zc fl))))
  exact Z2 (Zw 7 (Zl false Zc fl))
 refine ac ((decide (x1<1))&&(!(decide (j∈ln)))) (p:=(x1<1)/\(¬(j∈ln))) (YI dq (Ys dq)) (fun Z9=>?_) (fun Z9=>?_)
 ·refine ak (ab 1 (Zq 5 [0] (Zp (VV 3 gc L.par j j.toNat (hq:=rfl)) ?_)))
  obtain ⟨x2,Zx⟩:=Zv L.par j.toNat om
  have hg2:=UW Zx
  have hdj:=hd j om om
  rw [hg2] at hdj
  refine U2 (Q4 3 gc L.par j.toNat x2 Zx) (Z2 (ar (ZZ (x2<0) (fun Zi=>?_) (fun Zi=>?_))))
  ·exact ar (Zm (r2 [0,0,0,0,0,0,0] [.b false] ⟨rfl,rfl⟩ (lb (Z03 hg1 hg2 Z9 Zi Zh))))
  exact ak (ZJ ⟨x2,om,(Z04 hg1 hg2 Yk Z9 Zi hd Zh),rfl,rfl,rfl⟩ (Zw 7 fl))
 exact ax 0 (ar (Zm (r2 [0,0,0,0,0,0,0] [.b true] ⟨rfl,rfl⟩ (lb (Z05 hg1 Z9 Zh)))))
theorem OE (b:Nat) (ga:Hd) (gb:Hd) (gc:Hd) (gd:Hd) (ge:Hd) (gf:Hd) (L:ZH) (ln:LI) (mm:Nat) (hlk:T8 L:=by exact ob) (hlb:L.vars.length<=1000000000:=by exact ob) (hm:mm<=L.vars.length:=by exact ob):Zo 239 [.p b 0,.i mm] [.obj b [.h ga,.h gb,.h gc,.h gd,.h ge,.h gf,Z3 ln],rV ga L.vars,rV gb L.own,rV gc L.par,rV gd L.con,rV ge L.fst,rV gf L.tok] (fun r h=>(∃(wa:Hd) (wb:Hd) (wc:Hd) (wd:Hd) (we:Hd) (wf:Hd) (L':ZH),r=.b true/\h=[.obj b [.h wa,.h wb,.h wc,.h wd,.h we,.h wf,Z3 ln],rV wa L'.vars,rV wb L'.own,rV wc L'.par,rV wd L'.con,rV we L'.fst,rV wf L'.tok]/\KZ L mm=some L')∨(r=.b false/\h=[]/\KZ L mm=none)):=by
 obtain ⟨e1,e2,e3,e4,e5⟩:=hlk
 refine ZG 88 Tryz.func239 (Y7 (Y0 (ab 0 (Y3 (fun fz gz m F h=>∃(k:Nat),(mm<=k/\k<=L.vars.length)/\(Bu (L.own.drop k) (L.tok.drop k)=Bu (L.own.drop mm) (L.tok.drop mm))/\F=sF [0,1] fz [(5,.i k)]/\h=gz/\m=L.vars.length-k) _ _ _ ⟨mm,ob,ob,rfl,rfl,rfl⟩ (Zw 7 fl) ?_))))
 rintro m F h ⟨k,Yk,Zh,rfl,rfl,rfl⟩
 refine Yr 5 [0] (Zp (Cq 1 ga L.vars) (ZZ ((k:Int)<(L.vars.length:Int)) (fun Z9=>?_) (fun Z9=>?_)))
 ·refine ak (aq (ab 1 (Zq 5 [0] (Zp (VV 2 gb L.own (k:Int) k) ?_))))
  obtain ⟨x1,Z4⟩:=Zv L.own k om
  refine U2 (Q4 2 gb L.own k x1 Z4) (Z0 2 (ib (b:=(x1 != 0)) 24 (fun Zc=>?_) (fun Zc=>?_)))
  ·have Y6:x1≠0:=(Yv).1 Zc
   refine Z2 (VD (Y7 ?_))
   obtain ⟨y2,hy2⟩:=Zv L.tok k om
   exact ZT (r1 [] (.inr ⟨rfl,rfl,(by rw [KZ,<-Zh,Yi Z4,Yi hy2,Bu,Zk (show x1≠0∨0<=y2 by omega)];rfl)⟩))
  have Yt:¬(x1≠0):=Y8 Yv Zc
  refine ZA 5 [0] (Zp (VV 6 gf L.tok (k:Int) k) ?_)
  obtain ⟨x2,Zx⟩:=Zv L.tok k om
  refine U2 (Q4 6 gf L.tok k x2 Zx) (ZZ (x2>=0) (fun Zi=>?_) (fun Zi=>?_))
  ·exact ar (Zm (r1 [] (.inr ⟨rfl,rfl,(by rw [KZ,<-Zh,Yi Z4,Yi Zx,Bu,Zk (show x1≠0∨0<=x2 by omega)];rfl)⟩)))
  exact ak (az (Z0 1 (ZE k (Z2 (ZJ ⟨k+1,ob,(by rw [Yi Z4,Yi Zx,Bu,Za om] at Zh;exact Zh),rfl,rfl,rfl⟩ (Zw 7 (ZO k fl)))))))
 exact ax 0 (Zq 6 [0] (Zp (DB 1 ga L.vars mm) (Z0 2 (Xi (Dy 1 mm ga L.vars) (Zz 1 b [.h (ga.cut mm),.h gb,.h gc,.h gd,.h ge,.h gf,Z3 ln] (ie (Zq 6 [0] (Zp (DB 2 gb L.own mm) (Z0 2 (Xi (Dy 2 mm gb L.own) (Zz 1 b [.h (ga.cut mm),.h (gb.cut mm),.h gc,.h gd,.h ge,.h gf,Z3 ln] (ie (Zq 6 [0] (Zp (DB 3 gc L.par mm) (Z0 2 (Xi (Dy 3 mm gc L.par) (Zz 1 b [.h (ga.cut mm),.h (gb.cut mm),.h (gc.cut mm),.h gd,.h ge,.h gf,Z3 ln] (ie (Zq 6 [0] (Zp (DB 4 gd L.con mm) (Z0 2 (Xi (Dy 4 mm gd L.con) (Zz 1 b [.h (ga.cut mm),.h (gb.cut mm),.h (gc.cut mm),.h (gd.cut mm),.h ge,.h gf,Z3 ln] (ie (Zq 6 [0] (Zp (DB 5 ge L.fst mm) (Z0 2 (Xi (Dy 5 mm ge L.fst) (Zz 1 b [.h (ga.cut mm),.h (gb.cut mm),.h (gc.cut mm),.h (gd.cut mm),.h (ge.cut mm),.h gf,Z3 ln] (ie (Zq 6 [0] (Zp (DB 6 gf L.tok mm) (Z0 2 (Xi (Dy 6 mm gf L.tok) (Zz 1 b [.h (ga.cut mm),.h (gb.cut mm),.h (gc.cut mm),.h (gd.cut mm),.h (ge.cut mm),.h (gf.cut mm),Z3 ln] (ie (ar (Zm (r1 [0,5,4,3,2,1,0] (.inl ⟨(ga.cut mm),(gb.cut mm),(gc.cut mm),(gd.cut mm),(ge.cut mm),(gf.cut mm),(ZH.mk (L.vars.take mm) (L.own.take mm) (L.par.take mm) (L.con.take mm) (L.fst.take mm) (L.tok.take mm)),rfl,rfl,(by rw [KZ,Zk (by rw [<-Zh,Xt om];rfl)];rfl)⟩) (eq:=(rc (rv (xs:=(L.vars.take mm)) ob (rv (xs:=(L.own.take mm)) ob (rv (xs:=(L.par.take mm)) ob (rv (xs:=(L.con.take mm)) ob (rv (xs:=(L.fst.take mm)) ob (rv (xs:=(L.tok.take mm)) ob rz)))))))))))))))))))))))))))))))))))))))))))))))
theorem Z88 (b:Nat) (ga:Hd) (gb:Hd) (gc:Hd) (gd:Hd) (ge:Hd) (gf:Hd) (n:ZC) (s:Z5) (L:ZH) (ln:LI) (q:Int) (x:Int) (hn:Xr n:=by exact ob) (hk:XG n.decls L q:=by exact ob) (hlb:L.vars.length<=1000000000:=by exact ob) (ha:s.args[0]? = some x:=by exact ob) (hx:0<=x/\x<L.vars.length:=by exact ob) (hq:0<=q/\q<=999999990:=by exact ob):Zo 166 [.p b 0,YB n,X0 s] [.obj b [.h ga,.h gb,.h gc,.h gd,.h ge,.h gf,Z3 ln],rV ga L.vars,rV gb L.own,rV gc L.par,rV gd L.con,rV ge L.fst,rV gf L.tok] (fun r h=>(∃(wa:Hd) (wb:Hd) (wc:Hd) (wd:Hd) (we:Hd) (wf:Hd) (L':ZH),r=.b true/\h=[.obj b [.h wa,.h wb,.h wc,.h wd,.h we,.h wf,Z3 ln],rV wa L'.vars,rV wb L'.own,rV wc L'.par,rV wd L'.con,rV we L'.fst,rV wf L'.tok]/\JS n.decls L s.op x=some L')∨(r=.b false/\h=[]/\JS n.decls L s.op x=none)):=by
 obtain ⟨e1,e2,e3,e4,e5⟩:=hk.len
 have Xl:=hn.decls
 have hal:=(Xh.1 ha).1
 obtain ⟨xcon,hxcon⟩:=Zv L.con ((x).toNat) om
 have hgcon:=UW hxcon
 obtain ⟨xtok,hxtok⟩:=Zv L.tok ((x).toNat) om
 have hgtok:=UW hxtok
 obtain ⟨xfst,hxfst⟩:=Zv L.fst ((x).toNat) om
 have hgfst:=UW hxfst
 have hfl:=V5 Xl xcon
 have har:=hk.arm x om om
 rw [hgcon,hgfst] at har
 refine ZG 105 Tryz.func166 (ar (iA (X4 n) fun b1=>iA (W8 s) fun b2=>Z2 (Zq 2 [0] (Zp (Zj none 0 1 (Y5 ha)) (Z2 (Yr 5 [2] (Zp (VV 6 gd L.con x x.toNat (hq:=rfl)) (U2 (Q4 6 gd L.con x.toNat xcon hxcon) (Xb 23 [0,4,5,7] [(36,.b ((decide (xcon<0))||((s.op==17)&&(decide (xtok>=0)))))] (fun gz=>gz) ?_ (fun hj1=>?_))))))))))
 ·refine Z0 1 (ib (b:=((decide (xcon<0))||((s.op==17)&&(decide (xtok>=0))))) 37 (fun Zc=>?_) (fun Zc=>?_))
  ·have Y6:(xcon<0)∨((s.op=17)/\(xtok>=0)):=((ZY dq (YI Zf dq))).1 Zc
   exact Z2 (VD (ar (Zm (r1 [] (.inr ⟨rfl,rfl,(by rw [JS,hgcon,hgtok,Zk om])⟩)))))
  have Yt:¬((xcon<0)∨((s.op=17)/\(xtok>=0))):=Y8 (ZY dq (YI Zf dq)) Zc
  refine Z0 2 (ic [2,2,2,2,2,2,2] (FV b ga gb gc gd ge gf L ln x (hlk:=hk.len) (hq:=(fun y hy=>⟨hk.nn y hy,by have:=hk.bd y hy;omega⟩))) ?_)
  rintro _ _ (⟨wa1,wb1,wc1,wd1,we1,wf1,L'1,rfl,rfl,YP⟩|⟨rfl,rfl,X2⟩)
  ·obtain ⟨t1,t2,t3,t4,t5,t6,t7⟩:=Jm YP
   have hk1:=hk.take YP
   obtain ⟨f1,f2,f3,f4,f5⟩:=hk1.len
   have hxcon1:L'1.con[x.toNat]? = some xcon:=by rw [t4];exact hxcon
   have hvl:L'1.vars.length=L.vars.length:=by rw [t2]
   have har2:=har om
   have hxfst1:L'1.fst[x.toNat]? = some xfst:=by rw [t5];exact hxfst
   refine Z2 (Vt (ak (aD 11 (ZU 4 11 [0,1,2,3,4,5,6] [8,0] (dx 7 (VV 4 wd1 L'1.con x x.toNat (hq:=rfl)) (Un 8 (Q4 4 wd1 L'1.con x.toNat xcon hxcon1) (Z8 9 (YH 9 [] [] [] (Q3 n.decls xcon) (Zs 0 1 [10] (de (Y0 (ab 0 (Y3 (fun fz gz m F h=>∃(k:Nat) (o:LI),(k<=(ZK n.decls xcon).length)/\(o.length=L.vars.length)/\(∀y∈o,0<=y/\y<=q+k)/\(Q7 o (xfst+k) ((ZK n.decls xcon).drop k)=Q7 L'1.own xfst (ZK n.decls xcon))/\F=sF [0,5,7,8] fz [(9,.i k)]/\h=[Zg gz 0,Zg gz 1,rV wb1 o,Zg gz 3,Zg gz 4,Zg gz 5,Zg gz 6,Zg gz 7]/\m=(ZK n.decls xcon).length-k) _ _ _ ⟨0,L'1.own,ob,om,(by intro y hy;have h1:=hk1.nn y hy;have h2:=hk1.bd y hy;omega),(by rw [show xfst+((0:Nat):Int)=xfst by omega,Bw]),rfl,rfl,rfl⟩ (Zw 8 (Yd fl)) ?_)))))))))))))
   rintro m F h ⟨k,o,Yk,Zh,Zy,YJ,rfl,rfl,rfl⟩
   refine YQ 2 (io (.i (((ZK n.decls xcon).length:Nat):Int)) (.i (((Z6 (ZK n.decls xcon)).length:Nat):Int)) (li (by rw [Yc])) (ZZ ((k:Int)<(((ZK n.decls xcon).length:Nat):Int)) (fun Z9=>?_) (fun Z9=>?_)))
   ·refine ak (aq (ab 1 (Yf 2 ?_)))
    obtain ⟨x1,Z4⟩:=Zv (ZK n.decls xcon) k om
    refine Zp (Zj none (k:Int) 1 (Y5 Z4)) (YC (x1 != 0) Yv (fun Zi=>?_) (fun Zi=>?_))
    ·refine aE 31 (ZU 22 31 [0,1,2,3,4,5,6,7,8] [0,0] (dx 9 (VV 5 we1 L'1.fst x x.toNat (hq:=rfl)) (Un 10 (Q4 5 we1 L'1.fst x.toNat xfst hxfst1) (Zs 19 20 [11] (da 12 ((xfst+(k:Int))) ((xfst)+((k:Int))) (ZU 9 18 [13,14,15,16,17,18,19,20,21] [0,0] (dx 22 (VV 5 we1 L'1.fst x x.toNat (hq:=rfl)) (Un 23 (Q4 5 we1 L'1.fst x.toNat xfst hxfst1) (Zs 6 7 [24] (da 25 ((xfst+(k:Int))) ((xfst)+((k:Int))) (dx 26 (VV 2 wb1 o (xfst+(k:Int)) ((xfst+(k:Int)).toNat) (hq:=rfl)) ?_)))))))))))
     obtain ⟨x2,Zx⟩:=Zv o ((xfst+(k:Int)).toNat) om
     have hy2:=Zy _ (Y2 Zx)
     exact Un 27 (Q4 2 wb1 o ((xfst+(k:Int)).toNat) x2 Zx) (da 28 ((x2+1)) ((x2)+(1)) (dx 29 (VV 2 wb1 o (xfst+(k:Int)) ((xfst+(k:Int)).toNat) (hq:=rfl)) (Z8 30 (BP 30 2 [] [] wb1 o ((xfst+(k:Int)).toNat) (x2+1) (de (az (Z0 1 (ZE k (Z2 (ZJ ⟨k+1,(o.set (xfst+(k:Nat)).toNat (x2+1)),ob,ob,(by intro y hy;first|(rcases Jg hy with hy|rfl<;>first|(have:=Zy y hy;omega)|omega)|(have:=Zy y hy;omega)),(by rw [Yi Z4,Q7] at YJ;first|(rw [Zk Zi,UW Zx] at YJ;rw [show xfst+((k+1:Nat):Int)=xfst+k+1 by omega];exact YJ)|(rw [Za Zi] at YJ;rw [show xfst+((k+1:Nat):Int)=xfst+k+1 by omega];exact YJ)),rfl,rfl,rfl⟩ (wk [1,1,0,0,0,0,0,0] (ZO k fl) (e:=(rc (rc (rv (xs:=(o.set ((xfst+(k:Int)).toNat) (x2+1))) ob (rc (rc (rc (rc (rc rz))))))))))))))))))))
    exact ak (az (Z0 1 (ZE k (Z2 (ZJ ⟨k+1,o,ob,ob,(by intro y hy;first|(rcases Jg hy with hy|rfl<;>first|(have:=Zy y hy;omega)|omega)|(have:=Zy y hy;omega)),(by rw [Yi Z4,Q7] at YJ;first|(rw [Zk Zi,UW Zx] at YJ;rw [show xfst+((k+1:Nat):Int)=xfst+k+1 by omega];exact YJ)|(rw [Za Zi] at YJ;rw [show xfst+((k+1:Nat):Int)=xfst+k+1 by omega];exact YJ)),rfl,rfl,rfl⟩ (Zw 8 (ZO k fl)))))))
   refine ax 0 (Xd (WT [7] (ac (s.op==17) Zf (fun ZB=>?_) (fun ZB=>?_))))
   ·refine az (ZA 6 [0] (io (.i (((ZK n.decls xcon).length:Nat):Int)) (.i (((Z6 (ZK n.decls xcon)).length:Nat):Int)) (li (by rw [Yc])) (Zp (VV 6 wf1 L'1.tok x x.toNat (hq:=rfl)) (Iq 6 wf1 L'1.tok x.toNat (((ZK n.decls xcon).length:Nat):Int) (ie (Y7 ?_))))))
    have hof:o=Q7 L'1.own xfst (ZK n.decls xcon):=by rw [<-YJ,Xt om];rfl
    exact ZT (r1 [1,1,1,1,1,1,0] (.inl ⟨wa1,wb1,wc1,wd1,we1,wf1,(ZH.mk L'1.vars o L'1.par L'1.con L'1.fst (L'1.tok.set x.toNat (((ZK n.decls xcon).length:Nat):Int))),rfl,rfl,(by rw [JS,hgcon,hgfst,hgtok,Za om,YP,hof,t6];simp [ZB,t2,t3,t4,t5])⟩) (eq:=(rc (rv (xs:=L'1.vars) ob (rv (xs:=o) ob (rv (xs:=L'1.par) ob (rv (xs:=L'1.con) ob (rv (xs:=L'1.fst) ob (rv (xs:=(L'1.tok.set x.toNat (((ZK n.decls xcon).length:Nat):Int))) ob rz)))))))))
   refine ak (Y7 ?_)
   have hof:o=Q7 L'1.own xfst (ZK n.decls xcon):=by rw [<-YJ,Xt om];rfl
   exact ZT (r1 [0,0,0,0,0,0,0] (.inl ⟨wa1,wb1,wc1,wd1,we1,wf1,(ZH.mk L'1.vars o L'1.par L'1.con L'1.fst L'1.tok),rfl,rfl,(by rw [JS,hgcon,hgfst,hgtok,Za om,YP,hof,t6];simp [ZB,t2,t3,t4,t5])⟩) (eq:=(rc (rv (xs:=L'1.vars) ob (rv (xs:=o) ob (rv (xs:=L'1.par) ob (rv (xs:=L'1.con) ob (rv (xs:=L'1.fst) ob (rv (xs:=L'1.tok) ob rz)))))))))
  exact Z2 (VD (ar (Zm (r1 [] (.inr ⟨rfl,rfl,(by rw [JS,hgcon,hgtok,Za om,X2])⟩)))))
 refine Z0 2 (ib (b:=(decide (xcon<0))) 22 (fun ZF=>?_) (fun ZF=>?_))
 ·have Xg:xcon<0:=(dq).1 ZF
  exact Z0 14 (Yb (Zw 9 (Zl true ZF fl)) hj1)
 have XQ:¬(xcon<0):=Y8 dq ZF
 refine ZA 4 [0] (ib (b:=(s.op==17)) 26 (fun Ym=>?_) (fun Ym=>?_))
 ·have Wf:s.op=17:=(Zf).1 Ym
  exact ZA 5 [2] (Zp (VV 8 gf L.tok x x.toNat (hq:=rfl)) (U2 (Q4 8 gf L.tok x.toNat xtok hxtok) (Z0 3 (Yb (Zw 9 (Zl (decide (xtok>=0)) (And.intro ZF Ym) fl)) hj1))))
 have WY:¬(s.op=17):=Y8 Zf Ym
 exact Z0 10 (Yb (Zw 9 (Zl false (And.intro ZF Ym) fl)) hj1)
theorem Z87 (b:Nat) (ga:Hd) (gb:Hd) (gc:Hd) (gd:Hd) (ge:Hd) (gf:Hd) (n:ZC) (s:Z5) (L:ZH) (ln:LI) (q:Int) (hn:Xr n:=by exact ob) (hnum:s.op=9->0<=s.num/\s.num<n.routines.length:=by exact ob) (hk:XG n.decls L q:=by exact ob) (hlb:L.vars.length<=1000000000:=by exact ob) (hargs:∀a∈s.args,0<=a/\a<L.vars.length) (hinto:0<s.into->s.into<=L.vars.length:=by exact ob) (hal:s.args.length<=1000000000:=by exact ob) (hln:ln.length<=4294967296:=by exact ob) (hq:0<=q/\q<=999999990:=by exact ob):Zo 168 [.p b 0,YB n,X0 s] [.obj b [.h ga,.h gb,.h gc,.h gd,.h ge,.h gf,Z3 ln],rV ga L.vars,rV gb L.own,rV gc L.par,rV gd L.con,rV ge L.fst,rV gf L.tok] (fun r h=>(∃(wa:Hd) (wb:Hd) (wc:Hd) (wd:Hd) (we:Hd) (wf:Hd) (L':ZH),r=.b true/\h=[.obj b [.h wa,.h wb,.h wc,.h wd,.h we,.h wf,Z3 ln],rV wa L'.vars,rV wb L'.own,rV wc L'.par,rV wd L'.con,rV we L'.fst,rV wf L'.tok]/\J3 n ln L s.op s.num s.into s.args=some L')∨(r=.b false/\h=[]/\J3 n ln L s.op s.num s.into s.args=none)):=by
 obtain ⟨e1,e2,e3,e4,e5⟩:=hk.len
 refine ZG 79 Tryz.func168 (ar (iA (X4 n) fun b1=>iA (W8 s) fun b2=>?_))
 refine Z2 (Y0 (ab 0 (Y3 (fun fz gz m F h=>∃(k:Nat) (L2:ZH) (ka:Hd) (kb:Hd) (kc:Hd) (kd:Hd) (ke:Hd) (kf:Hd),(k<=s.args.length)/\(XG n.decls L2 q)/\(L2.vars=L.vars)/\(K4 n s.op s.num (s.args.drop k) k L2=K4 n s.op s.num s.args 0 L)/\F=sF [0,4,5] fz [(7,.i k)]/\h=[Zg gz 0,Zg gz 1,.obj b [.h ka,.h kb,.h kc,.h kd,.h ke,.h kf,Z3 ln],rV ka L2.vars,rV kb L2.own,rV kc L2.par,rV kd L2.con,rV ke L2.fst,rV kf L2.tok]/\m=s.args.length-k) _ _ _ ⟨0,L,ga,gb,gc,gd,ge,gf,ob,hk,ob,ob,rfl,rfl,rfl⟩ (Zw 9 (Yd fl)) ?_)))
 rintro m F h ⟨k,L2,ka,kb,kc,kd,ke,kf,Yk,Zh,Zy,YJ,rfl,rfl,rfl⟩
 refine Yr 3 [0] (iw (Yc s.args) (ZZ ((k:Int)<(s.args.length:Int)) (fun Z9=>?_) (fun Z9=>?_)))
 ·obtain ⟨a1,ha1⟩:=Zv s.args k om
  obtain ⟨e6,e7,e8,e9,e10⟩:=Zh.len
  have hav:=hargs a1 (Y2 ha1)
  have hvl:L2.vars.length=L.vars.length:=by rw [Zy]
  refine ak (aq (ab 1 (aD 18 (ZU 11 18 [0,1,2,3,4,5,6] [1,2,0] (Z8 7 (JG 7 [3] [] [] [rV ka L2.vars] (GG n L2.vars s k a1 (ha:=ha1)) F8 (gS (gL (v:=ka) 0 (gS (gS gN)))) (KD JQ) ?_))))))
  rintro _ _ ⟨rfl,rfl⟩
  refine Zs 9 10 [8] (db (b:=KY n L2.vars s.op s.num a1 k) 24 (fun Zc=>?_) (fun Zc=>?_))
  ·have Y6:KY n L2.vars s.op s.num a1 k=true:=(Iff.rfl).1 Zc
   refine ZU 5 9 [9,10,11,12] [1] (dx 13 (Zj none (k:Int) 1 (Y5 ha1)) (Zs 3 4 [14] (Z8 15 (dc 15 [3,0,2,2,2,2,2] [] [] (FV b ka kb kc kd ke kf L2 ln a1 (hlk:=Zh.len) (hq:=(fun y hy=>⟨Zh.nn y hy,by have:=Zh.bd y hy;omega⟩))) ?_))))
   rintro _ _ (⟨wa1,wb1,wc1,wd1,we1,wf1,L'1,rfl,rfl,Yt⟩|⟨rfl,rfl,YP⟩)
   ·obtain ⟨t1,t2,t3,t4,t5,t6,t7⟩:=Jm Yt
    have hk2:=Zh.take Yt
    exact Zs 0 2 [16,17] (de (Vt (ak (az (Z0 1 (ZE k (Z2 (ZJ ⟨k+1,L'1,wa1,wb1,wc1,wd1,we1,wf1,ob,hk2,(t2.trans Zy),(by rw [Yi ha1,K4,Zk Y6] at YJ;simp only [Yt] at YJ;exact YJ),rfl,rfl,rfl⟩ (wk [7,7,0,0,0,0,0,0,0] (ZO k fl))))))))))
   exact Zs 0 2 [16,17] (de (VD (ar (Zm (r1 [] (.inr ⟨rfl,rfl,(by rw [J3,<-YJ,Yi ha1,K4,Zk Y6,YP])⟩))))))
  have X2:¬(KY n L2.vars s.op s.num a1 k=true):=Y8 Iff.rfl Zc
  exact Zs 0 9 [9,10,11,12,13,14,15,16,17] (de (Vt (ak (az (Z0 1 (ZE k (Z2 (ZJ ⟨k+1,L2,ka,kb,kc,kd,ke,kf,ob,Zh,Zy,(by rw [Yi ha1,K4,Za X2] at YJ;exact YJ),rfl,rfl,rfl⟩ (wk [1,1,1,0,0,0,0,0,0] (ZO k fl))))))))))
 have hT:K4 n s.op s.num s.args 0 L=some L2:=by rw [<-YJ,Xt om];rfl
 obtain ⟨e6,e7,e8,e9,e10⟩:=Zh.len
 have hvl:L2.vars.length=L.vars.length:=by rw [Zy]
 refine ax 0 (Y0 (ab 2 (Y3 (fun fz gz m F h=>∃(j:Nat),(j<=s.args.length)/\(B8 n s.op s.num ln L2 (s.args.drop j) j=B8 n s.op s.num ln L2 s.args 0)/\F=sF [0,4,5] fz [(8,.i j)]/\h=gz/\m=s.args.length-j) _ _ _ ⟨0,ob,ob,rfl,rfl,rfl⟩ (Zw 9 (Yd fl)) ?_)))
 rintro m F h ⟨j,U7,Wb,rfl,rfl,rfl⟩
 refine Yr 3 [0] (iw (Yc s.args) (ZZ ((j:Int)<(s.args.length:Int)) (fun Zi=>?_) (fun Zi=>?_)))
 ·obtain ⟨a2,ha2⟩:=Zv s.args j om
  have hav:=hargs a2 (Y2 ha2)
  refine ak (aq (ab 3 (Zq 3 [1,0] (Zu [] (ED n s j) (Xp [0,4,5,8] [(54,.b (UH n s.op s.num j&&(!UM L2 ln a2)))] (fun gz=>[Zg gz 2,Zg gz 3,Zg gz 4,Zg gz 5,Zg gz 6,Zg gz 7,Zg gz 8,Zg gz 0,Zg gz 1]) ?_ ?_)))))
  ·refine Z0 1 (ib (b:=UH n s.op s.num j) 45 (fun ZF=>?_) (fun ZF=>?_))
   ·exact ZA 4 [0] (Zp (Zj none (j:Int) 1 (Y5 ha2)) (Z0 1 (Zu [2,2,2,2,2,2,2] (FU b ka kb kc kd ke kf L2 ln a2 (hlk:=Zh.len) (hd:=Zh.down)) (Z2 (Zw 9 (Zl (!UM L2 ln a2) ZF fl))))))
   exact Z2 (wk [2,2,2,2,2,2,2,0,0] (Zl false ZF fl))
  refine ac (UH n s.op s.num j&&(!UM L2 ln a2)) (p:=(UH n s.op s.num j=true)/\(¬(UM L2 ln a2=true))) (YI Iff.rfl (Ys Iff.rfl)) (fun ZB=>?_) (fun ZB=>?_)
  ·refine Y7 ?_
   have hA:B8 n s.op s.num ln L2 s.args 0=false:=by rw [<-Wb,Yi ha2,B8,Zk ZB]
   exact ZT (r1 [] (.inr ⟨rfl,rfl,(by rw [J3,hT];simp only [hA];rfl)⟩))
  exact ak (az (Z0 1 (ZE j (Z2 (ZJ ⟨j+1,ob,(by rw [Yi ha2,B8,Za ZB] at Wb;exact Wb),rfl,rfl,rfl⟩ (wk [7,7,0,0,0,0,0,0,0] (ZO j fl)))))))
 have hA:B8 n s.op s.num ln L2 s.args 0=true:=by rw [<-Wb,Xt om];rfl
 refine ax 2 (Xd (WT [0] (VI (s.into>0) (fun Ye=>?_) (fun Ye=>?_))))
 ·obtain ⟨xt,hxt⟩:=Zv L2.tok ((s.into-1).toNat) (by have:=hinto Ye;omega)
  have hgt:=UW hxt
  refine aq (aD 13 (ZU 7 13 [0,1,2,3,4,5] [2,0] (da 6 ((s.into-1)) ((s.into)-(1)) (dx 7 (VV 8 kf L2.tok (s.into-1) ((s.into-1).toNat) (hq:=rfl)) (Un 8 (Q4 8 kf L2.tok ((s.into-1).toNat) xt hxt) (ZU 2 4 [9,10] [0] (dw 11 (Yc s.args) (Zs 0 1 [12] (de (ac (xt != (s.args.length:Int)) Yv (fun YA=>?_) (fun YA=>?_)))))))))))
  ·exact ar (Zm (r1 [] (.inr ⟨rfl,rfl,(by rw [J3,hT];simp only [hA,↓reduceIte];rw [E2,Zk Ye,hgt,Zk YA])⟩)))
  exact ak (aE 9 (ZU 3 9 [0,1,2,3,4,5] [2,0] (da 6 ((s.into-1)) ((s.into)-(1)) (dx 7 (VV 8 kf L2.tok (s.into-1) ((s.into-1).toNat) (hq:=rfl)) (Z8 8 (BP 8 8 [] [] kf L2.tok ((s.into-1).toNat) (-1) (de (ar (Zm (r1 [3,3,3,3,3,3,0] (.inl ⟨ka,kb,kc,kd,ke,kf,(ZH.mk L2.vars L2.own L2.par L2.con L2.fst (L2.tok.set ((s.into-1).toNat) (-1))),rfl,rfl,(by rw [J3,hT];simp only [hA,↓reduceIte];rw [E2,Zk Ye,hgt,Za YA])⟩) (eq:=(rc (rv (xs:=L2.vars) ob (rv (xs:=L2.own) ob (rv (xs:=L2.par) ob (rv (xs:=L2.con) ob (rv (xs:=L2.fst) ob (rv (xs:=(L2.tok.set ((s.into-1).toNat) (-1))) ob rz))))))))))))))))))
 exact ak (ar (Zm (r1 [2,2,2,2,2,2,2] (.inl ⟨ka,kb,kc,kd,ke,kf,L2,rfl,rfl,(by rw [J3,hT];simp only [hA,↓reduceIte];rw [E2,Za Ye])⟩))))
theorem Z4q (b:Z7) (t:Int) (hz:b.sz<=1000000) (ih:∀(b2:Z7) (t:Int),(b2.sz<=1000000)->(b2.sz<b.sz)->Zo 219 [Yh b2,.i t] [] (fun r h=>∃(wr:Bool),r=.b wr/\h=[])):Zo 219 [Yh b,.i t] [] (fun r h=>∃(wr:Bool),r=.b wr/\h=[]):=by
 have ZI:=Uk b
 have hbl:=KN b.steps
 have hbe:=b.sz_eq
 refine ZG 53 Tryz.func219 (ar (iA (XR b) fun b1=>?_))
 refine Z2 (Y0 (ab 0 (Y3 (fun fz gz m F h=>∃(k:Nat),(k<=b.steps.length)/\F=sF [1,2] fz [(5,.i k)]/\h=gz/\m=b.steps.length-k) _ _ _ ⟨0,ob,rfl,rfl,rfl⟩ (wk [0] (Yd fl)) ?_)))
 rintro m F h ⟨k,Yk,rfl,rfl,rfl⟩
 refine Yr 3 [0] (iw (Up b.steps) (ZZ ((k:Int)<(b.steps.length:Int)) (fun Z9=>?_) (fun Z9=>?_)))
 ·refine ak (aq (ab 1 (Yr 3 [0] ?_)))
  obtain ⟨x1,Z4⟩:=Zv b.steps k om
  have hxs:=LA (Y2 Z4)
  have hxe:=(x1).sz_eq
  have hxk:=QC x1
  refine Zp (Zj none (k:Int) 5 (WV Z4)) (Xp [1,2,5] [(30,.b ((x1.op==10)&&(x1.num==t)))] (fun gz=>gz) ?_ ?_)
  ·refine Z0 4 (ib (b:=(x1.op==10)) 21 (fun Zc=>?_) (fun Zc=>?_))
   ·exact ZA 3 [0] (Zp (Zj none (k:Int) 5 (WV Z4)) (Z2 (wk [0] (Zl (x1.num==t) Zc fl))))
   exact Z2 (wk [0] (Zl false Zc fl))
  refine ac ((x1.op==10)&&(x1.num==t)) (p:=(x1.op=10)/\(x1.num=t)) (YI Zf Zf) (fun Zi=>?_) (fun Zi=>?_)
  ·exact ar (Zm (r1 [] ⟨true,rfl,rfl⟩))
  refine ak (Y7 (ab 2 (Y3 (fun fz gz m F h=>∃(j:Nat),(j<=x1.kids.length)/\F=sF [1,2,5] fz [(6,.i j)]/\h=gz/\m=x1.kids.length-j) _ _ _ ⟨0,ob,rfl,rfl,rfl⟩ (wk [0] (Yd fl)) ?_)))
  rintro m F h ⟨j,U7,rfl,rfl,rfl⟩
  refine Yr 4 [0] (Zp (Zj none (k:Int) 5 (WV Z4)) (Z0 2 (iw (QZ x1.kids) (ZZ ((j:Int)<(x1.kids.length:Int)) (fun ZB=>?_) (fun ZB=>?_)))))
  ·refine ak (aq (ab 3 (Zq 3 [0] (Zp (Zj none (k:Int) 5 (WV Z4)) (Z0 3 ?_)))))
   obtain ⟨x2,Zx⟩:=Zv x1.kids j om
   have hkx:=Hn (Y2 Zx)
   refine Zp (Zj none (j:Int) 2 (UE Zx)) (Z0 2 (ic [] (ih x2 t ob ob) ?_))
   rintro _ _ ⟨wr1,rfl,rfl⟩
   refine ie (ac wr1 Iff.rfl (fun Ye=>?_) (fun Ye=>?_))
   ·exact ar (Zm (r1 [] ⟨true,rfl,rfl⟩))
   exact ak (az (Z0 1 (ZE j (Z2 (ZJ ⟨j+1,ob,rfl,rfl,rfl⟩ (wk [0] (ZO j fl)))))))
  exact ax 2 (az (Z0 1 (ZE k (Z2 (ZJ ⟨k+1,ob,rfl,rfl,rfl⟩ (wk [0] (ZO k fl)))))))
 exact ax 0 (ar (Zm (r1 [] ⟨false,rfl,rfl⟩)))
theorem Z4p (b:Z7) (t:Int) (hz:b.sz<=1000000:=by exact ob):Zo 219 [Yh b,.i t] [] (fun r h=>∃(wr:Bool),r=.b wr/\h=[]):=by
 have key:∀k:Nat,∀(b2:Z7) (t:Int),(b2.sz<=1000000)->(b2.sz<k)->Zo 219 [Yh b2,.i t] [] (fun r h=>∃(wr:Bool),r=.b wr/\h=[]):=by
  intro k
  induction k with
  | zero=>intro b2 t h1 h2;omega
  | succ k ih=>intro b2 t h1 h2;exact Z4q b2 t h1 fun b3 t3 q1 q2=>ih b3 t3 q1 om
 exact key (b.sz+1) b t hz om
theorem Z5a (n:ZC) (t:Int) (qz:Nat) (hn:FN n qz:=by exact ob) (hqz:qz<=100000:=by exact ob):Zo 187 [YB n,.i t] [] (fun r h=>∃(wr:Bool),r=.b wr/\h=[]):=by
 have hnl:=hn.len
 refine ZG 21 Tryz.func187 (ar (iA (X4 n) fun b1=>?_))
 refine Z2 (Y0 (ab 0 (Y3 (fun fz gz m F h=>∃(k:Nat),(k<=n.routines.length)/\F=sF [1,2] fz [(5,.i k)]/\h=gz/\m=n.routines.length-k) _ _ _ ⟨0,ob,rfl,rfl,rfl⟩ (wk [0] (Yd fl)) ?_)))
 rintro m F h ⟨k,Yk,rfl,rfl,rfl⟩
 refine Yr 3 [0] (iw (TB n.routines) (ZZ ((k:Int)<(n.routines.length:Int)) (fun Z9=>?_) (fun Z9=>?_)))
 ·refine ak (aq (ab 1 (Zq 3 [0] ?_)))
  obtain ⟨x1,Z4⟩:=Zv n.routines k om
  have hbz:=(hn.body _ (Y2 Z4)).2
  refine Zp (Zj none (k:Int) 5 (Vw Z4)) (Z0 3 (ic [] (Z4p x1.body t) ?_))
  rintro _ _ ⟨wr1,rfl,rfl⟩
  refine ie (ac wr1 Iff.rfl (fun Zi=>?_) (fun Zi=>?_))
  ·exact ar (Zm (r1 [] ⟨true,rfl,rfl⟩))
  exact ak (az (Z0 1 (ZE k (Z2 (ZJ ⟨k+1,ob,rfl,rfl,rfl⟩ (wk [0] (ZO k fl)))))))
 exact ax 0 (ar (Zm (r1 [] ⟨false,rfl,rfl⟩)))
theorem NM (fs:LI) (q:Nat) (hl:fs.length<=1000000:=by exact ob) (hq:q<=1000000:=by exact ob):Zo 108 [Z3 fs,.i q] [] (fun r h=>∃(xs:LI),r=Z3 xs/\h=[]/\xs.length<=fs.length/\∀i∈xs,(q:Int)<=i/\i<(q:Int)+fs.length):=by
 refine ZG 26 Tryz.func108 (Y7 (ar (iL (Z6 []) 0 1 fun v1=>?_)))
 refine Z2 (Y0 (ab 0 (Y3 (fun fz gz m F h=>∃(k:Nat) (ys:LI) (u:Value),(k<=fs.length)/\(ys.length<=k)/\(∀i∈ys,(q:Int)<=i/\i<(q:Int)+fs.length)/\F=sF [0,1] fz [(5,ZV ys u),(6,.i k)]/\h=[.tail u 1]/\m=fs.length-k) _ _ _ ⟨0,[],v1,ob,ob,(fun i hi=>by cases hi),rfl,rfl,rfl⟩ (wk [0] (fr (Yd fl))) ?_)))
 rintro m F h ⟨k,ys,u,Yk,Zh,Zy,rfl,rfl,rfl⟩
 refine YQ 2 (iw (Yc fs) (ZZ ((k:Int)<(fs.length:Int)) (fun Z9=>?_) (fun Z9=>?_)))
 ·refine ak (aq (ab 1 (Yf 2 ?_)))
  obtain ⟨x1,Z4⟩:=Zv fs k om
  refine Zp (Zj none (k:Int) 1 (Y5 Z4)) (YC (x1 != 0) Yv (fun Zi=>?_) (fun Zi=>?_))
  ·exact az (Z0 3 (ia (((q+k:Nat):Int)) (((q:Int))+((k:Int))) (iL (Z6 [((q+k:Nat):Int)]) 1 1 fun v2=>ZM 0 [(23,Z3 [((q+k:Nat):Int)])] (ip 1 (Z6 (ys++[((q+k:Nat):Int)])) (Z6 ys) (Z6 [((q+k:Nat):Int)]) u none 1 (YG _) (YG _) (W4 _) (by simp<;>omega) (by simp [W3,Z6]) fun v3=>Z2 (az (Z0 1 (ZE k (Z2 (ZJ ⟨k+1,(ys++[((q+k:Nat):Int)]),v3,ob,ob,(Xx Zy om),rfl,rfl,rfl⟩ (wk [0] (fr (ZO k fl))))))))))))
  exact ak (az (Z0 1 (ZE k (Z2 (ZJ ⟨k+1,ys,u,ob,ob,ob,rfl,rfl,rfl⟩ (wk [0] (fr (ZO k fl))))))))
 exact ax 0 (ar (Zm (r2 [] [ZV ys u] ⟨ys,rfl,rfl,⟨by omega,Zy⟩⟩ (Zd.forget _ _))))
theorem NF (n:ZC) (qz:Nat) (hn:FN n qz:=by exact ob) (hqz:qz<=100000:=by exact ob):Zo 153 [YB n] [] (fun r h=>∃(xs:List LI),r=Db xs/\h=[]/\LC n n.routines.length xs):=by
 have hnl:=hn.len
 refine ZG 31 Tryz.func153 (ar (iA (X4 n) fun b1=>Z2 (ar (iL (V6 []) 0 1 fun v1=>?_))))
 refine Z2 (Y0 (ab 0 (Y3 (fun fz gz m F h=>∃(k:Nat) (ys:List LI) (u:Value),(k<=n.routines.length)/\(ys.length=k)/\(LC n k ys)/\F=sF [1] fz [(3,IX ys u),(4,.i k)]/\h=[Zg gz 1,.tail u 1]/\m=n.routines.length-k) _ _ _ ⟨0,[],v1,ob,ob,LC.nil,rfl,rfl,rfl⟩ (wk [1,0] (fr (Yd fl))) ?_)))
 rintro m F h ⟨k,ys,u,Yk,Zh,Zy,rfl,rfl,rfl⟩
 refine Yr 3 [0] (iw (TB n.routines) (ZZ ((k:Int)<(n.routines.length:Int)) (fun Z9=>?_) (fun Z9=>?_)))
 ·refine ak (aq (ab 1 (Zq 2 [0] (ic [] (Z5a n (k:Int) qz) ?_))))
  rintro _ _ ⟨wr1,rfl,rfl⟩
  refine ie (ac wr1 Iff.rfl (fun Zi=>?_) (fun Zi=>?_))
  ·exact az (Z0 1 (iL (Z6 []) 0 1 fun v2=>ZM 0 [(17,Z3 [])] (iL (V6 [[]]) 1 1 fun v3=>ZM 0 [(18,Db [[]])] (ip 3 (V6 (ys++[[]])) (V6 ys) (V6 [[]]) u none 1 (CO _) (CO _) (HM _) (by simp<;>omega) (by simp [HL,V6]) fun v4=>Z2 (az (Z0 1 (ZE k (Z2 (ZJ ⟨k+1,(ys++[[]]),v4,ob,ob,(Zy.snoc (by simp) (fun r hr v hv=>by cases hv)),rfl,rfl,rfl⟩ (wk [3,0] (fr (ZO k fl))))))))))))
  refine az (ZA 4 [0] ?_)
  obtain ⟨x1,Z4⟩:=Zv n.routines k om
  have hrp:=(FN.ok hn).params_at Z4
  have hss:=(T9.bd (f:=⟨(x1).params,(x1).result,default⟩) (hn.sigs _ (Y2 Z4))).1
  refine Zp (Zj none (k:Int) 5 (Vw Z4)) (Z0 2 (ic [] (NM x1.params 0) ?_))
  rintro _ _ ⟨xs1,rfl,rfl,Y6⟩
  have hhf:=Y6
  exact iL (V6 [xs1]) 1 1 fun v5=>ZM 0 [(28,Db [xs1])] (ip 2 (V6 (ys++[xs1])) (V6 ys) (V6 [xs1]) u none 1 (CO _) (CO _) (HM _) (by simp<;>omega) (by simp [HL,V6]) fun v6=>Z2 (az (Z0 1 (ZE k (Z2 (ZJ ⟨k+1,(ys++[xs1]),v6,ob,ob,(Zy.snoc om (fun r hr v hv=>by rw [Z4] at hr;cases hr;have:=hhf.2 v hv;omega)),rfl,rfl,rfl⟩ (wk [2,0] (fr (ZO k fl)))))))))
 exact ax 0 (ar (Zm (r2 [] [IX ys u] ⟨ys,rfl,rfl,(by rw [show n.routines.length=k by omega];exact Zy)⟩ (Zd.forget _ _))))
theorem Z4t (n:ZC) (b:Z7) (t:Int) (mq:Nat) (hn:Xr n) (hf:fB n.decls n.routines.length mq b) (hz:b.sz<=1000000) (ih:∀(b2:Z7) (t:Int) (m2:Nat),(fB n.decls n.routines.length m2 b2)->(b2.sz<=1000000)->(b2.sz<b.sz)->Zo 188 [YB n,Yh b2,.i t] [] (fun r h=>∃(wr:Bool),r=.b wr/\h=[])):Zo 188 [YB n,Yh b,.i t] [] (fun r h=>∃(wr:Bool),r=.b wr/\h=[]):=by
 have hbl:=KN b.steps
 have hbe:=b.sz_eq
 refine ZG 68 Tryz.func188 (ar (iA (X4 n) fun b1=>iA (XR b) fun b2=>Z2 (Xd (WT [0] (ac (b.result==t) Zf (fun Z9=>?_) (fun Z9=>?_))))))
 ·exact ar (Zm (r1 [] ⟨true,rfl,rfl⟩))
 refine ak (Y0 (ab 0 (Y3 (fun fz gz m F h=>∃(k:Nat),(k<=b.steps.length)/\F=sF [2,3,4] fz [(7,.i k)]/\h=gz/\m=b.steps.length-k) _ _ _ ⟨0,ob,rfl,rfl,rfl⟩ (wk [0,0] (Yd fl)) ?_)))
 rintro m F h ⟨k,Yk,rfl,rfl,rfl⟩
 refine Yr 3 [0] (iw (Up b.steps) (ZZ ((k:Int)<(b.steps.length:Int)) (fun Zi=>?_) (fun Zi=>?_)))
 ·refine ak (aq (ab 1 (Zq 3 [0] ?_)))
  obtain ⟨x1,Z4⟩:=Zv b.steps k om
  have hfs:=(An x1).1 (CU ((Kt b).1 hf).1 Z4)
  have hxs:=LA (Y2 Z4)
  have hxe:=(x1).sz_eq
  have hxk:=QC x1
  refine Zp (Zj none (k:Int) 5 (WV Z4)) (Z0 1 (iA [.i 0,.i 0,.i 0,nl,nl] fun b3=>?_))
  refine Zz 0 b3 (W8 x1) (ie (Y0 (ab 2 (Y3 (fun fz gz m F h=>∃(j:Nat),(j<=x1.args.length)/\F=sF [2,3,4,7,8] fz [(9,.i j)]/\h=gz/\m=x1.args.length-j) _ _ _ ⟨0,ob,rfl,rfl,rfl⟩ (Zw 3 (Yd fl)) ?_))))
  rintro m F h ⟨j,U7,rfl,rfl,rfl⟩
  refine Yr 3 [0] (iw (Yc x1.args) (ZZ ((j:Int)<(x1.args.length:Int)) (fun ZB=>?_) (fun ZB=>?_)))
  ·refine ak (aq (ab 3 (Zq 3 [0] ?_)))
   obtain ⟨x2,Zx⟩:=Zv x1.args j om
   refine Zp (Zj none (j:Int) 1 (Y5 Zx)) (Xb 12 [2,3,4,7,8,9] [(45,.b ((x2==t)&&JF x1.op))] (fun gz=>gz) ?_ (fun hj1=>?_))
   ·refine Xp [2,3,4,7,8,9] [(52,.b (((x2==t)&&JF x1.op)&&(!UH n x1.op x1.num j)))] (fun gz=>gz) ?_ ?_
    ·refine Z0 1 (ib (b:=((x2==t)&&JF x1.op)) 46 (fun Zc=>?_) (fun Zc=>?_))
     ·exact ZA 3 [2,0] (Zu [] (ED n x1 j (hnum:=hfs.call)) (Z2 (Zw 3 (Zl (!UH n x1.op x1.num j) Zc fl))))
     exact Z2 (Zw 3 (Zl false Zc fl))
    refine ac (((x2==t)&&JF x1.op)&&(!UH n x1.op x1.num j)) (p:=((x2=t)/\(JF x1.op=true))/\(¬(UH n x1.op x1.num j=true))) (YI (YI Zf Iff.rfl) (Ys Iff.rfl)) (fun Ye=>?_) (fun Ye=>?_)
    ·exact ar (Zm (r1 [] ⟨true,rfl,rfl⟩))
    exact ak (az (Z0 1 (ZE j (Z2 (ZJ ⟨j+1,ob,rfl,rfl,rfl⟩ (Zw 3 (ZO j fl)))))))
   refine Z0 4 (ib (b:=(x2==t)) 41 (fun ZF=>?_) (fun ZF=>?_))
   ·exact ZA 2 [0] (Zu [] (RE x1.op) (Z0 1 (Yb (Zw 3 (Zl (JF x1.op) ZF fl)) hj1)))
   exact Z0 4 (Yb (Zw 3 (Zl false ZF fl)) hj1)
  refine ax 2 (Y7 (ab 4 (Y3 (fun fz gz m F h=>∃(j:Nat),(j<=x1.kids.length)/\F=sF [2,3,4,7,8] fz [(10,.i j)]/\h=gz/\m=x1.kids.length-j) _ _ _ ⟨0,ob,rfl,rfl,rfl⟩ (Zw 3 (Yd fl)) ?_)))
  rintro m F h ⟨j,F6,rfl,rfl,rfl⟩
  refine Yr 3 [0] (iw (QZ x1.kids) (ZZ ((j:Int)<(x1.kids.length:Int)) (fun YA=>?_) (fun YA=>?_)))
  ·refine ak (aq (ab 5 (aD 8 (ZU 4 8 [0,1,2,3] [2,0] ?_))))
   obtain ⟨x3,YU⟩:=Zv x1.kids j om
   have hkx:=Hn (Y2 YU)
   have hfk:=B4 hfs.kids YU
   refine dx 4 (Zj none (j:Int) 2 (UE YU)) (Zs 1 3 [5,6] (Z8 7 (dc 7 [] [] [] (ih x3 t (WL n.decls x1.op x1.num (mq+Yn (b.steps.take k)) (0+j)) hfk ob ob) ?_)))
   rintro _ _ ⟨wr1,rfl,rfl⟩
   refine de (ac wr1 Iff.rfl (fun YW=>?_) (fun YW=>?_))
   ·exact ar (Zm (r1 [] ⟨true,rfl,rfl⟩))
   exact ak (az (Z0 1 (ZE j (Z2 (ZJ ⟨j+1,ob,rfl,rfl,rfl⟩ (Zw 3 (ZO j fl)))))))
  exact ax 4 (az (Z0 1 (ZE k (Z2 (ZJ ⟨k+1,ob,rfl,rfl,rfl⟩ (wk [1,1] (ZO k fl)))))))
 exact ax 0 (ar (Zm (r1 [] ⟨false,rfl,rfl⟩)))
theorem Z4s (n:ZC) (b:Z7) (t:Int) (mq:Nat) (hn:Xr n:=by exact ob) (hf:fB n.decls n.routines.length mq b:=by exact ob) (hz:b.sz<=1000000:=by exact ob):Zo 188 [YB n,Yh b,.i t] [] (fun r h=>∃(wr:Bool),r=.b wr/\h=[]):=by
 have key:∀k:Nat,∀(b2:Z7) (t:Int) (m2:Nat),(fB n.decls n.routines.length m2 b2)->(b2.sz<=1000000)->(b2.sz<k)->Zo 188 [YB n,Yh b2,.i t] [] (fun r h=>∃(wr:Bool),r=.b wr/\h=[]):=by
  intro k
  induction k with
  | zero=>intro b2 t m2 h1 h2 h3;omega
  | succ k ih=>intro b2 t m2 h1 h2 h3;exact Z4t n b2 t m2 hn h1 h2 fun b3 t3 m3 q1 q2 q3=>ih b3 t3 m3 q1 q2 om
 exact key (b.sz+1) b t mq hf hz om
theorem Z5b (n:ZC) (rt:Yz) (i:Nat) (qz:Nat) (hn:FN n qz:=by exact ob) (hqz:qz<=100000:=by exact ob) (hr:n.routines[i]? = some rt:=by exact ob):Zo 154 [YB n,.i i] [] (fun r h=>∃(xs:LI),r=Z3 xs/\h=[]/\xs.length<=rt.lent.length/\∀v∈xs,v∈rt.lent):=by
 have hok:=FN.ok hn
 have hrl:=hn.lent rt (Y2 hr)
 have hrb:=hn.body rt (Y2 hr)
 obtain ⟨hil,_⟩:=Xh.1 hr
 have hnl:=hn.len
 refine ZG 50 Tryz.func154 (ar (iA (X4 n) fun b1=>Z2 (ar (iL (Z6 []) 0 1 fun v1=>?_))))
 refine Z2 (Y0 (ab 0 (Y3 (fun fz gz m F h=>∃(k:Nat) (ys:LI) (u:Value),(k<=rt.lent.length)/\(ys.length<=k)/\(∀v∈ys,v∈rt.lent)/\F=sF [1,2] fz [(5,ZV ys u),(6,.i k)]/\h=[Zg gz 1,.tail u 1]/\m=rt.lent.length-k) _ _ _ ⟨0,[],v1,ob,ob,(fun v hv=>by cases hv),rfl,rfl,rfl⟩ (wk [1,0] (fr (Yd fl))) ?_)))
 rintro m F h ⟨k,ys,u,Yk,Zh,Zy,rfl,rfl,rfl⟩
 refine Yr 4 [0] (Zp (Zj none (i:Int) 5 (Vw hr)) (Z0 2 (iw (Yc rt.lent) (ZZ ((k:Int)<(rt.lent.length:Int)) (fun Z9=>?_) (fun Z9=>?_)))))
 ·refine ak (aq (ab 1 (aD 18 (ZU 14 18 [0,1,2,3] [0,0] (dx 4 (Zj none (i:Int) 5 (Vw hr)) (ZU 8 13 [5,6,7,8,9] [0] (dx 10 (Zj none (i:Int) 5 (Vw hr)) (Zs 4 7 [11,12,13] ?_))))))))
  obtain ⟨x1,Z4⟩:=Zv rt.lent k om
  refine dx 14 (Zj none (k:Int) 1 (Y5 Z4)) (Zs 2 3 [15] (Z8 16 (dc 16 [] [] [] (Z4s n rt.body x1 rt.params.length (hn:=hok) (hf:=hrb.1)) ?_)))
  rintro _ _ ⟨wr1,rfl,rfl⟩
  refine Zs 0 1 [17] (de (ac (!wr1) (p:=¬(wr1=true)) (Ys Iff.rfl) (fun Zi=>?_) (fun Zi=>?_)))
  ·exact az (ZA 4 [0] (Zp (Zj none (i:Int) 5 (Vw hr)) (Z0 3 (Zp (Zj none (k:Int) 1 (Y5 Z4)) (Z0 1 (iL (Z6 [x1]) 1 1 fun v2=>ZM 0 [(47,Z3 [x1])] (ip 2 (Z6 (ys++[x1])) (Z6 ys) (Z6 [x1]) u none 1 (YG _) (YG _) (W4 _) (by simp<;>omega) (by simp [W3,Z6]) fun v3=>Z2 (az (Z0 1 (ZE k (Z2 (ZJ ⟨k+1,(ys++[x1]),v3,ob,ob,(Xx Zy (Y2 Z4)),rfl,rfl,rfl⟩ (wk [2,0] (fr (ZO k fl)))))))))))))))
  exact ak (az (Z0 1 (ZE k (Z2 (ZJ ⟨k+1,ys,u,ob,ob,ob,rfl,rfl,rfl⟩ (wk [0,0] (fr (ZO k fl))))))))
 exact ax 0 (ar (Zm (r2 [] [ZV ys u] ⟨ys,rfl,rfl,⟨by omega,Zy⟩⟩ (Zd.forget _ _))))
theorem Zbr (s:Z5) (ih:∀(b2:Z7),(b2.sz<s.sz)->(b2.sz<=1000000000)->Zo 186 [Yh b2] [] (Yy (Yh b2))) (hz:s.sz<=1000000000):Zo 218 [X0 s] [] (Yy (X0 s)):=by
 have hkz:=QC s
 have haz:=KX s
 refine ZG 33 Tryz.func218 (ar (iA (W8 s) fun b1=>iA [.i 0,.i 0,.i 0,nl,nl] fun b2=>ie (ar (iL (XM []) 0 2 fun v1=>?_))))
 refine Z2 (Y0 (ab 0 (Y3 (fun fz gz m F h=>∃(k:Nat) (v:Value),(k<=s.kids.length)/\F=sF [1,2] fz [(3,Q2 (s.kids.take k) v),(4,.i k)]/\h=[Zg gz 1,Zg gz 2,.tail v 2]/\m=s.kids.length-k) _ _ _ ⟨0,v1,ob,rfl,rfl,rfl⟩ (wk [1,1,0] (fc (x:=Q2 [] v1) (Zd.slh _ (Yp XM rfl)) (Yd fl))) ?_)))
 rintro m F h ⟨k,v,Yk,rfl,rfl,rfl⟩
 refine Yr 3 [1] (iw (QZ s.kids) (ZZ ((k:Int)<(s.kids.length:Int)) (fun Z9=>?_) (fun Z9=>?_)))
 ·refine ak (aq (ab 1 (az (ZA 4 [1] ?_))))
  obtain ⟨x1,Z4⟩:=Zv s.kids k om
  have hks:=Q0 Z4
  exact Zp (Zj none (k:Int) 2 (UE Z4)) (Z0 1 (Zu [] (ih x1 ob ob) (iL [Yh x1] 1 2 fun v2=>ZM 0 [(20,.sl [Yh x1] none)] (ip 3 (XM (s.kids.take (k+1))) (XM (s.kids.take k)) [Yh x1] v none 2 (Ks _) (KC rfl) rfl (by simp<;>omega) (by rw [WU Z4];simp [Qv]) fun v3=>Z2 (az (Z0 1 (ZE k (Z2 (ZJ ⟨k+1,v3,ob,rfl,rfl,rfl⟩ (wk [2,2,0] (fr (ZO k fl))))))))))))
 refine ax 0 (aD 12 (ZU 3 12 [0,1,2,3,4,5,6,7,9] [1,1,1,1] (Z8 8 (dc 8 [] [1,1,1] [b1,b1,b1] (WI s.args) ?_))))
 rintro _ _ ⟨v4,rfl,rfl⟩
 exact Zs 1 2 [10] (Z8 11 (YZ 11 1 [] [] b2 [.i s.op,.i s.num,.i s.into,ZV s.args v4,Q2 (s.kids.take k) v] (de (ZT (r3 [] [.agg [.i s.op,.i s.num,.i s.into,ZV s.args v4,Q2 (s.kids.take k) v]] [0] [(b2,b2)] ⟨rfl,rfl⟩ (Zd.agg (.cons (lr _) (.cons (lr _) (.cons (lr _) (.cons (Zd.forget _ _) (.cons (Zd.sl _ (Yp XM (by rw [WJ om]))) .nil)))))))))))
theorem Zbo (b:Z7) (ih:∀(s2:Z5),(s2.sz<b.sz)->(s2.sz<=1000000000)->Zo 218 [X0 s2] [] (Yy (X0 s2))) (hz:b.sz<=1000000000):Zo 186 [Yh b] [] (Yy (Yh b)):=by
 have hbz:=Uk b
 refine ZG 28 Tryz.func186 (ar (iA (XR b) fun b1=>iA [nl,.i 0] fun b2=>ie (ar (iL (ZL []) 0 5 fun v1=>ZA 3 [2] (iA [nl,.i 0] fun b3=>?_)))))
 refine Zz 0 b3 [Xc [] v1,.i b.result] (ie (Y0 (ab 0 (Y3 (fun fz gz m F h=>∃(k:Nat) (v:Value),(k<=b.steps.length)/\F=sF [1,2,3] fz [(4,.i k)]/\h=[.obj b3 [Xc (b.steps.take k) v,.i b.result],Zg gz 2,Zg gz 3,.tail v 5]/\m=b.steps.length-k) _ _ _ ⟨0,v1,ob,rfl,rfl,rfl⟩ (wk [0,1,1,0] (Yd fl)) ?_))))
 rintro m F h ⟨k,v,Yk,rfl,rfl,rfl⟩
 refine Yr 3 [2] (iw (Up b.steps) (ZZ ((k:Int)<(b.steps.length:Int)) (fun Z9=>?_) (fun Z9=>?_)))
 ·refine ak (aq (ab 1 (aE 12 (ZU 7 12 [0,1,2,3,4] [0,2] ?_))))
  obtain ⟨x1,Z4⟩:=Zv b.steps k om
  have hss:=Dw Z4
  exact dx 5 (Zj none (k:Int) 5 (WV Z4)) (Zs 5 6 [6] (Z8 7 (YH 7 [] [0] [b3] (ih x1 ob ob) (Z8 8 (dL 8 [0] [b3] [X0 x1] 1 5 fun v2=>Yq 3 3 [] [(24,.sl [X0 x1] none)] (Z8 9 (dp 9 4 [] [] (ZL (b.steps.take (k+1))) (ZL (b.steps.take k)) [X0 x1] v none 5 (XC _) (KC rfl) rfl (by simp<;>omega) (by rw [WU Z4];simp [VQ]) fun v3=>Zs 1 2 [10] (Z8 11 (YZ 11 2 [] [] b3 [Xc (b.steps.take (k+1)) v3,.i b.result] (de (az (Z0 1 (ZE k (Z2 (ZJ ⟨k+1,v3,ob,rfl,rfl,rfl⟩ (wk [0,2,2,0] (ZO k fl)))))))))))))))))
 exact ax 0 (Zq 1 [0] (Zz 1 b2 [Xc (b.steps.take k) v,.i b.result] (ie (ZT (r3 [] [.agg [Xc (b.steps.take k) v,.i b.result]] [0] [(b2,b2)] ⟨rfl,rfl⟩ (Zd.agg (.cons (Zd.sl _ (Yp ZL (by rw [WJ om]))) (.cons (lr _) .nil))))))))
theorem RG (k:Nat):(∀(s:Z5),(s.sz<=k)->(s.sz<=1000000000)->Zo 218 [X0 s] [] (Yy (X0 s)))/\(∀(b:Z7),(b.sz<=k)->(b.sz<=1000000000)->Zo 186 [Yh b] [] (Yy (Yh b))):=by
 induction k with
 | zero=>exact ⟨fun s h=>by have:=s.sz_pos;omega,fun s h=>by have:=s.sz_pos;omega⟩
 | succ k ih=>exact ⟨fun s h hz=>Zbr s (fun b2 h2 h3=>ih.2 b2 om h3) hz,fun b h hz=>Zbo b (fun s2 h2 h3=>ih.1 s2 om h3) hz⟩
theorem Zbq (s:Z5) (hz:s.sz<=1000000000:=by exact ob):Zo 218 [X0 s] [] (Yy (X0 s)):=(RG s.sz).1 s (X7 _) hz
theorem Zbn (b:Z7) (hz:b.sz<=1000000000:=by exact ob):Zo 186 [Yh b] [] (Yy (Yh b)):=(RG b.sz).2 b (X7 _) hz
theorem Fz (n:ZC) (ls:List LI) (qz:Nat) (hn:FO n qz WD:=by exact ob) (hqz:qz<=100000:=by exact ob) (hls:LC n n.routines.length ls:=by exact ob):Zo 152 [YB n,Db ls] [] (fun r h=>∃(n2:ZC),r=YB n2/\h=[]/\FO n2 qz WD/\n2.routines.length=n.routines.length):=by
 have hnl:=hn.fn.len
 have Xl:=hn.fn.decls.ok
 have hll:=hls.len
 refine ZG 45 Tryz.func152 (ar (iA (X4 n) fun b1=>iA [nl,nl] fun b2=>ie (Zq 2 [1] (Zu [] (AF n.decls) (iL (X6 []) 0 5 fun v1=>Z0 1 (iA [nl,nl] fun b3=>?_))))))
 refine Zz 0 b3 [Ya n.decls,WG [] v1] (ie (Y0 (ab 0 (Y3 (fun fz gz m F h=>∃(k:Nat) (rs:List Yz) (u:Value),(k<=n.routines.length)/\(rs.length=k)/\(∀r∈rs,RF n.decls n.routines.length qz WD r)/\F=sF [1,2,4,5] fz [(6,.i k)]/\h=[.obj b3 [Ya n.decls,WG rs u],Zg gz 2,Zg gz 3,.tail u 5]/\m=n.routines.length-k) _ _ _ ⟨0,[],v1,ob,ob,(fun r hr=>by cases hr),rfl,rfl,rfl⟩ (wk [0,1,1,0] (Yd fl)) ?_))))
 rintro m F h ⟨k,rs,u,Yk,Zh,Zy,rfl,rfl,rfl⟩
 refine Yr 3 [2] (iw (TB n.routines) (ZZ ((k:Int)<(n.routines.length:Int)) (fun Z9=>?_) (fun Z9=>?_)))
 ·refine ak (aq (ab 1 (Zq 3 [2] ?_)))
  obtain ⟨x1,Z4⟩:=Zv n.routines k om
  have hrf:=hn.rf (Y2 Z4)
  have hrp:=hn.fn.ok.params_at Z4
  have hrz:=hrf.body.2
  refine Zp (Zj none (k:Int) 5 (Vw Z4)) (Z0 1 (iA [nl,nl,.i 0,nl,.i 0] fun b4=>Zz 0 b4 (Jd x1) (ie (aE 20 (ZU 14 20 [0,1,2,3,5,6] [1,0] ?_)))))
  obtain ⟨x2,Zx⟩:=Zv ls k om
  have hlc:=hls.at Zx Z4
  refine dx 7 (Zj none (k:Int) 1 (Z2m Zx)) (ZU 8 13 [8,10,11,12,13] [0,0] (Z8 4 (dc 4 [] [0,0,1] [b4,b4,b3] (WI x1.params) ?_)))
  rintro _ _ ⟨v2,rfl,rfl⟩
  refine Z8 9 (dc 9 [] [0,0,1] [b4,b4,b3] (WI x2) ?_)
  rintro _ _ ⟨v3,rfl,rfl⟩
  exact Z8 14 (YH 14 [] [0,1] [b4,b3] (Zbn x1.body) (Yq 4 5 [15] [(40,.agg [Z3 x1.params,Z3 x2,.i x1.result,Vb x1.body.steps,.i x1.body.result])] (Z8 16 (dL 16 [1] [b3] (X6 [Yz.mk x1.params x2 x1.result (Z7.mk x1.body.steps x1.body.result)]) 1 5 fun v4=>Yq 3 3 [] [(41,Ji [Yz.mk x1.params x2 x1.result (Z7.mk x1.body.steps x1.body.result)])] (Z8 17 (dp 17 7 [] [] (X6 (rs++[Yz.mk x1.params x2 x1.result (Z7.mk x1.body.steps x1.body.result)])) (X6 rs) (X6 [Yz.mk x1.params x2 x1.result (Z7.mk x1.body.steps x1.body.result)]) u none 5 (UR _) (UR _) (B1 _) (by simp<;>omega) (by simp [CP,X6]) fun v5=>Zs 1 2 [18] (Z8 19 (YZ 19 5 [] [] b3 [Ya n.decls,WG (rs++[Yz.mk x1.params x2 x1.result (Z7.mk x1.body.steps x1.body.result)]) v5] (de (az (Z0 1 (ZE k (Z2 (ZJ ⟨k+1,(rs++[Yz.mk x1.params x2 x1.result (Z7.mk x1.body.steps x1.body.result)]),v5,ob,ob,(Xx Zy (by rw [Z7.eta];exact hrf.lend hlc.1 hlc.2)),rfl,rfl,rfl⟩ (wk [0,5,5,0] (ZO k fl))))))))))))))))
 exact ax 0 (Zq 1 [0] (Zz 1 b2 [Ya n.decls,WG rs u] (ie (ZT (r3 [] [.agg [Ya n.decls,WG rs u]] [0] [(b2,b2)] ⟨(ZC.mk n.decls rs),rfl,rfl,(FO.fin hn.fn om Zy)⟩ (Zd.agg (.cons (lr _) (.cons (Zd.forget _ _) .nil))))))))
theorem Z5j (n:ZC) (qz:Nat) (hn:FO n qz WD:=by exact ob) (hqz:qz<=100000:=by exact ob):Zo 138 [YB n] [] (fun r h=>∃(n2:ZC),r=YB n2/\h=[]/\FO n2 qz WD):=by
 refine ZG 33 Tryz.func138 (ar (iA (X4 n) fun b1=>iA [nl,nl] fun b2=>?_))
 refine ie (aD 6 (ZU 4 6 [0,1] [1,1] (AY (fun fz gz F h=>∃(n21:ZC) (b3:Nat) (xs1:List LI),(LC n n.routines.length xs1)/\(FO n21 qz WD/\n21.routines.length=n.routines.length)/\F=sF [2] fz [(3,.p b3 0)]/\h=[.obj b3 (X4 n21),Zg gz 0,Zg gz 1]) ?_ ?_)))
 ·refine U9 2 4 ?_ ?_
  ·refine dc 2 [] [1] [b1] (NF n qz (hn:=hn.fn)) ?_
   rintro _ _ ⟨xs1,rfl,rfl,Y6⟩
   refine U9 3 4 ?_ ?_
   ·refine dc 3 [] [] [] (Fz n xs1 qz (hls:=(by first|assumption|(rw [<-hjl];exact Wb)))) ?_
    rintro _ _ ⟨n21,rfl,rfl,Yt⟩
    have hwl:=Yt
    exact Z8 4 (dA 4 [] [] [nl,nl] fun b3=>Z8 5 (YZ 5 0 [] [] b3 (X4 n21) (de (ZD ⟨_,b3,_,(by assumption),(by assumption),rfl,rfl⟩ (Zw 3 fl)))))
   refine dA 4 [1] [b1] [nl,nl] fun b4=>Z8 3 (dc 3 [] [] [] (Fz n xs1 qz (hls:=(by first|assumption|(rw [<-hjl];exact Wb)))) ?_)
   rintro _ _ ⟨n22,rfl,rfl,YP⟩
   have hwl:=YP
   exact Z8 5 (YZ 5 0 [] [] b4 (X4 n22) (de (ZD ⟨_,b4,_,(by assumption),(by assumption),rfl,rfl⟩ (Zw 3 fl))))
  refine dA 4 [1,1] [b1,b1] [nl,nl] fun b5=>Z8 2 (dc 2 [] [2] [b1] (NF n qz (hn:=hn.fn)) ?_)
  rintro _ _ ⟨xs2,rfl,rfl,X2⟩
  refine Z8 3 (dc 3 [] [] [] (Fz n xs2 qz (hls:=(by first|assumption|(rw [<-hjl];exact Wb)))) ?_)
  rintro _ _ ⟨n23,rfl,rfl,Xg⟩
  have hwl:=Xg
  exact Z8 5 (YZ 5 0 [] [] b5 (X4 n23) (de (ZD ⟨_,b5,_,(by assumption),(by assumption),rfl,rfl⟩ (Zw 3 fl))))
 rintro F h ⟨n21,b3,xs1,Y6,Yt,rfl,rfl⟩
 have hwl:=Yt
 refine Y0 (ab 0 (Y3 (fun fz gz m F h=>∃(k:Nat) (nn:ZC),(k<=13)/\(FO nn qz WD)/\F=sF [2,3] fz [(4,.i k)]/\h=[.obj b3 (X4 nn),Zg gz 1]/\m=13-k) _ _ _ ⟨0,n21,ob,hwl.1,rfl,rfl,rfl⟩ (wk [0,0] (Yd fl)) ?_))
 rintro m F h ⟨k,nn,Yk,Zh,rfl,rfl,rfl⟩
 refine Xd (ZZ ((k:Int)<=12) (fun Z9=>?_) (fun Z9=>?_))
 ·refine ak (aq (ab 1 (ar (iL (V6 []) 0 1 fun v1=>?_))))
  refine Z2 (Y0 (ab 2 (Y3 (fun fz gz m F h=>∃(j:Nat) (ls:List LI) (u:Value),(j<=nn.routines.length)/\(LC nn j ls)/\(ls.length=j)/\F=sF [2,3,4] fz [(5,IX ls u),(6,.i j)]/\h=[Zg gz 1,Zg gz 2,.tail u 1]/\m=nn.routines.length-j) _ _ _ ⟨0,[],v1,ob,LC.nil,ob,rfl,rfl,rfl⟩ (wk [1,1,0] (fr (Yd fl))) ?_)))
  rintro m F h ⟨j,ls,u,U7,Wb,XV,rfl,rfl,rfl⟩
  refine Yr 3 [0] (iw (TB nn.routines) (ZZ ((j:Int)<(nn.routines.length:Int)) (fun Zi=>?_) (fun Zi=>?_)))
  ·obtain ⟨rt,hrt⟩:=Zv nn.routines j om
   have hrl:=(Zh.rf (Y2 hrt)).lent
   have hnl4:=Zh.fn.len
   refine ak (aq (ab 3 (az (ZA 3 [0] (ic [] (Z5b nn rt j qz (hn:=Zh.fn) (hr:=hrt)) ?_)))))
   rintro _ _ ⟨xs3,rfl,rfl,XQ⟩
   have hkl:=XQ
   exact iL (V6 [xs3]) 1 1 fun v2=>ZM 0 [(27,Db [xs3])] (ip 3 (V6 (ls++[xs3])) (V6 ls) (V6 [xs3]) u none 1 (CO _) (CO _) (HM _) (by simp<;>omega) (by simp [HL,V6]) fun v3=>Z2 (az (Z0 1 (ZE j (Z2 (ZJ ⟨j+1,(ls++[xs3]),v3,ob,(Wb.snoc om (fun r hr v hv=>by rw [hrt] at hr;cases hr;exact hrl.2 v (hkl.2 v hv))),ob,rfl,rfl,rfl⟩ (wk [2,2,0] (fr (ZO j fl)))))))))
  have hjl:j=nn.routines.length:=by omega
  refine ax 2 (az (QM 2 [(30,Db ls)] [0] (ic [] (Fz nn ls qz (hls:=(by first|assumption|(rw [<-hjl];exact Wb)))) ?_)))
  rintro _ _ ⟨n24,rfl,rfl,Wf⟩
  have hwl:=Wf
  exact Zz 0 b3 (X4 n24) (ie (az (Z0 1 (ZE k (Z2 (ZJ ⟨k+1,n24,ob,hwl.1,rfl,rfl,rfl⟩ (wk [0,0] (ZO k fl))))))))
 exact ax 0 (Zq 1 [0] (Zz 1 b2 (X4 nn) (ie (ZT (r3 [] [YB nn] [0] [(b2,b2)] ⟨nn,rfl,rfl,(by first|exact Zh|exact hwl.1)⟩ (lr _))))))
theorem E0 (xs:LI) (y:Int) (hl:xs.length<=1000000000:=by exact ob):Zo 50 [Z3 xs,.i y] [] (fun r h=>∃(v:Value),r=ZV (VZ xs y) v/\h=[.tail v 1]):=by
 refine ZG 49 Tryz.func50 (Y7 (ar (iL (Z6 []) 0 1 fun v1=>?_)))
 refine Z2 (Y7 (Y0 (ab 0 (Y3 (fun fz gz m F h=>∃(k:Nat) (acc:LI) (d:Bool) (v:Value),(k<=xs.length)/\(acc.length<=k+(if d=true then 1 else 0))/\(acc++TY d (xs.drop k) y=VZ xs y)/\F=sF [0,1] fz [(5,ZV acc v),(6,.b d),(7,.i k)]/\h=[.tail v 1]/\m=xs.length-k) _ _ _ ⟨0,[],false,v1,ob,(by simp),rfl,rfl,rfl,rfl⟩ (wk [0] (fw (Yd fl))) ?_))))
 rintro m F h ⟨k,acc,d,v,Yk,Zh,Zy,rfl,rfl,rfl⟩
 refine YQ 2 (iw (Yc xs) (ZZ ((k:Int)<(xs.length:Int)) (fun Z9=>?_) (fun Z9=>?_)))
 ·obtain ⟨x1,Z4⟩:=Zv xs k om
  have hil:acc.length<=k+1:=V3 Zh (by split<;>omega)
  refine ak (aq (ab 1 (Xd (Xp [0,1,5,6,7] [(24,.b ((!d)&&(decide (x1>=y))))] (fun gz=>gz) ?_ ?_))))
  ·refine Z0 3 (ib (b:=(!d)) 17 (fun Zc=>?_) (fun Zc=>?_))
   ·exact Z0 2 (Zp (Zj none (k:Int) 1 (Y5 Z4)) (Z2 (wk [0] (Zl (decide (x1>=y)) Zc fl))))
   exact Z2 (wk [0] (Zl false Zc fl))
  refine Xs (fun fz gz F h=>∃(acc2:LI) (d2:Bool) (w:Value),((acc2=acc/\d2=d/\(d=true∨¬x1>=y))∨(acc2=acc++[y]/\d2=true/\¬d=true/\x1>y)∨(acc2=acc/\d2=true/\¬d=true/\x1=y))/\(acc2.length<=k+(if d2=true then 1 else 0))/\(acc2.length<=k+1)/\F=sF [0,1,7] fz [(5,ZV acc2 w),(6,.b d2)]/\h=[.tail w 1]) ?_ ?_
  ·refine ac ((!d)&&(decide (x1>=y))) (p:=(¬(d=true))/\(x1>=y)) (YI (Ys Iff.rfl) dq) (fun Zi=>?_) (fun Zi=>?_)
   ·refine YQ 2 (Zp (Zj none (k:Int) 1 (Y5 Z4)) (Z2 (Xs (fun fz gz F h=>∃(w3:Value),F=sF [0,1,7] fz [(5,ZV (if x1>y then (acc++[y]) else acc) w3)]/\h=[.tail w3 1]) ?_ ?_)))
    ·refine VI (x1>y) (fun ZB=>?_) (fun ZB=>?_)
     ·exact az (Z0 2 (iL (Z6 [y]) 1 1 fun v2=>ZM 0 [(33,Z3 [y])] (ip 1 (Z6 (acc++[y])) (Z6 acc) (Z6 [y]) v none 1 (YG _) (YG _) (W4 _) (by simp<;>omega) (by simp [W3,Z6]) fun v3=>Z2 (ZD ⟨v3,rfl,rfl⟩ (wk [0] (fc (x:=ZV (acc++[y]) v3) (Zd.slh _ (Yp Z6 (by first|rfl|(rw [Zk ZB])|(rw [Za ZB])|(simp [ZB];done)|(rw [Y9];simp [ZB];done)|omega))) fl))))))
     exact ak (ZD ⟨v,rfl,rfl⟩ (wk [0] (fc (x:=ZV acc v) (Zd.slh _ (Yp Z6 (by first|rfl|(rw [Zk ZB])|(rw [Za ZB])|(simp [ZB];done)|(rw [Y9];simp [ZB];done)|omega))) fl)))
    rintro F h ⟨w3,rfl,rfl⟩
    exact Vi (ZD ⟨(if x1>y then (acc++[y]) else acc),true,w3,(if h:x1>y then (by rw [Zk h];exact .inr (.inl ⟨rfl,rfl,Zi.1,h⟩)) else (by rw [Za h];exact .inr (.inr ⟨rfl,rfl,Zi.1,by have:=Zi.2;omega⟩))),(by have h1:=Zh;rw [Za Zi.1] at h1;split<;>(simp<;>omega)),(by have h1:=Zh;rw [Za Zi.1] at h1;split<;>(simp<;>omega)),rfl,rfl⟩ (wk [0] fl))
   exact ak (ZD ⟨acc,d,v,(.inl ⟨rfl,rfl,by by_cases q:d=true;exact .inl q;exact .inr (fun z=>Zi ⟨q,z⟩)⟩),Zh,hil,rfl,rfl⟩ (wk [0] fl))
  rintro F h ⟨acc2,d2,w,Vr,Aw,Ix,rfl,rfl⟩
  exact az (Z0 3 (Zp (Zj none (k:Int) 1 (Y5 Z4)) (Z0 1 (iL (Z6 [x1]) 1 1 fun v4=>ZM 0 [(40,Z3 [x1])] (ip 1 (Z6 (acc2++[x1])) (Z6 acc2) (Z6 [x1]) w none 1 (YG _) (YG _) (W4 _) (by simp<;>omega) (by simp [W3,Z6]) fun v5=>Z2 (az (Z0 1 (ZE k (Z2 (ZJ ⟨k+1,(acc2++[x1]),d2,v5,ob,(by simp only [Yl,Yw,X5];omega),(Z79 Z4 Zy Vr),rfl,rfl,rfl⟩ (wk [0] (fw (ZO k fl)))))))))))))
 have hil:acc.length<=k+1:=V3 Zh (by split<;>omega)
 refine ax 0 (Y0 (Xs (fun fz gz F h=>∃(w4:Value),F=sF [] fz [(5,ZV (if d=true then acc else (acc++[y])) w4)]/\h=[.tail w4 1]) ?_ ?_))
 ·refine ac (!d) (p:=¬(d=true)) (Ys Iff.rfl) (fun Ye=>?_) (fun Ye=>?_)
  ·exact az (Z0 2 (iL (Z6 [y]) 1 1 fun v6=>ZM 0 [(46,Z3 [y])] (ip 1 (Z6 (acc++[y])) (Z6 acc) (Z6 [y]) v none 1 (YG _) (YG _) (W4 _) (by simp<;>omega) (by simp [W3,Z6]) fun v7=>Z2 (ZD ⟨v7,rfl,rfl⟩ (wk [0] (fc (x:=ZV (acc++[y]) v7) (Zd.slh _ (Yp Z6 (by first|rfl|(rw [Zk Ye])|(rw [Za Ye])|(simp [Ye];done)|(rw [Y9];simp [Ye];done)|omega))) fl))))))
  exact ak (ZD ⟨v,rfl,rfl⟩ (wk [0] (fc (x:=ZV acc v) (Zd.slh _ (Yp Z6 (by first|rfl|(rw [Zk Ye])|(rw [Za Ye])|(simp [Ye];done)|(rw [Y9];simp [Ye];done)|omega))) fl)))
 rintro F h ⟨w4,rfl,rfl⟩
 exact ar (Zm (r2 [0] [ZV (if d=true then acc else (acc++[y])) w4] ⟨w4,rfl,rfl⟩ (Zd.slh _ (Yp Z6 (Z78 om Zy)))))
theorem NU (xs:LI) (y:Int) (hl:xs.length<=1000000000:=by exact ob):Zo 195 [Z3 xs,.i y] [] (fun r h=>∃(v:Value),r=ZV (TF xs y) v/\h=[.tail v 1]):=by
 refine ZG 28 Tryz.func195 (Y7 (ar (iL (Z6 []) 0 1 fun v1=>?_)))
 refine Z2 (Y0 (ab 0 (Y3 (fun fz gz m F h=>∃(k:Nat) (acc:LI) (v:Value),(k<=xs.length)/\(acc.length<=k)/\(acc++TF (xs.drop k) y=TF xs y)/\F=sF [0,1] fz [(5,ZV acc v),(6,.i k)]/\h=[.tail v 1]/\m=xs.length-k) _ _ _ ⟨0,[],v1,ob,ob,rfl,rfl,rfl,rfl⟩ (wk [0] (fr (Yd fl))) ?_)))
 rintro m F h ⟨k,acc,v,Yk,Zh,Zy,rfl,rfl,rfl⟩
 refine YQ 2 (iw (Yc xs) (ZZ ((k:Int)<(xs.length:Int)) (fun Z9=>?_) (fun Z9=>?_)))
 ·refine ak (aq (ab 1 (Yf 2 ?_)))
  obtain ⟨x1,Z4⟩:=Zv xs k om
  refine Zp (Zj none (k:Int) 1 (Y5 Z4)) (Z2 (Ae (fun fz gz F h=>∃(w:Value),F=sF [0,1,6] fz [(5,ZV (if x1≠y then (acc++[x1]) else acc) w)]/\h=[.tail w 1]) (fun _ _=>rfl) ?_ ?_))
  ·refine ac (x1 != y) Yv (fun Zi=>?_) (fun Zi=>?_)
   ·exact az (Z0 3 (Zp (Zj none (k:Int) 1 (Y5 Z4)) (Z0 1 (iL (Z6 [x1]) 1 1 fun v2=>ZM 0 [(25,Z3 [x1])] (ip 1 (Z6 (acc++[x1])) (Z6 acc) (Z6 [x1]) v none 1 (YG _) (YG _) (W4 _) (by simp<;>omega) (by simp [W3,Z6]) fun v3=>Z2 (ZD ⟨v3,rfl,rfl⟩ (wk [0] (fc (x:=ZV (acc++[x1]) v3) (Zd.slh _ (Yp Z6 (by first|rfl|(rw [Zk Zi])|(rw [Za Zi])|(simp [Zi];done)|(rw [Y9];simp [Zi];done)|omega))) fl))))))))
   exact ak (ZD ⟨v,rfl,rfl⟩ (wk [0] (fc (x:=ZV acc v) (Zd.slh _ (Yp Z6 (by first|rfl|(rw [Zk Zi])|(rw [Za Zi])|(simp [Zi];done)|(rw [Y9];simp [Zi];done)|omega))) fl)))
  rintro F h ⟨w,rfl,rfl⟩
  exact az (Z0 1 (ZE k (Z2 (ZJ ⟨k+1,(if x1≠y then (acc++[x1]) else acc),w,ob,(by split<;>(try simp)<;>omega),(Z9i Z4 Zy),rfl,rfl,rfl⟩ (wk [0] (fr (ZO k fl)))))))
 exact ax 0 (ar (Zm (r2 [0] [ZV acc v] ⟨v,rfl,rfl⟩ (Zd.slh _ (Yp Z6 (Z9h om Zy))))))
theorem Zbh (s:Z5) (q:Int) (xs:LI) (ih:∀(b2:Z7) (q:Int) (k2:Nat) (xs2:LI),(b2.sz<s.sz)->(k2<=b2.steps.length)->(xs2.length+b2.sz<=1000000000)->Zo 189 [Yh b2,.i q,.i k2,Z3 xs2] [] (Yy (Z3 (UA q (UK q (b2.steps.drop k2) xs2) b2.result)))) (hz:xs.length+s.sz<=1000000000):Zo 221 [X0 s,.i q,Z3 xs] [] (Yy (Z3 (Jn q s xs))):=by
 have hkz:=QC s
 have haz:=KX s
 have hse:=s.sz_eq
 refine ZG 58 Tryz.func221 (ar (iA (W8 s) fun b1=>Z2 (Yr 2 [0] (Zu [] (RH s.op) (ie (ac (YK s.op) Iff.rfl (fun Z9=>?_) (fun Z9=>?_)))))))
 ·exact ar (Zm (ZW (Z3 xs) (Zd.sl _ (Yp Z6 (by rw [Sm,Zk (by assumption)])))))
 refine ak (Y0 (ab 0 (Y3 (fun fz gz m F h=>∃(j:Nat) (ys:LI),(j<=s.args.length)/\(ys.length<=xs.length+j)/\(Qk q (s.args.drop j) ys=Qk q s.args xs)/\F=sF [1,3] fz [(2,Z3 ys),(7,.i j)]/\h=gz/\m=s.args.length-j) _ _ _ ⟨0,xs,ob,ob,rfl,rfl,rfl,rfl⟩ (wk [0] (fr (Yd fl))) ?_)))
 rintro m F h ⟨j,ys,Yk,Zh,Zy,rfl,rfl,rfl⟩
 refine Yr 3 [0] (iw (Yc s.args) (ZZ ((j:Int)<(s.args.length:Int)) (fun Zi=>?_) (fun Zi=>?_)))
 ·refine ak (aq (ab 1 (Zq 3 [0] ?_)))
  obtain ⟨x1,Z4⟩:=Zv s.args j om
  refine Zp (Zj none (j:Int) 1 (Y5 Z4)) (Xp [1,2,3,7] [(34,.b ((decide (x1>=0))&&(decide (x1<q))))] (fun gz=>gz) ?_ ?_)
  ·refine Z0 3 (ib (b:=(decide (x1>=0))) 26 (fun Zc=>?_) (fun Zc=>?_))
   ·exact ZA 3 [0] (Zp (Zj none (j:Int) 1 (Y5 Z4)) (Z2 (wk [0] (Zl (decide (x1<q)) Zc fl))))
   exact Z2 (wk [0] (Zl false Zc fl))
  refine Ae (fun fz gz F h=>F=sF [1,3,7] fz [(2,Z3 (UA q ys x1))]/\h=gz) (fun _ _=>rfl) ?_ ?_
  ·refine ac ((decide (x1>=0))&&(decide (x1<q))) (p:=(x1>=0)/\(x1<q)) (YI dq dq) (fun ZB=>?_) (fun ZB=>?_)
   ·refine az (ZA 4 [0] (Zp (Zj none (j:Int) 1 (Y5 Z4)) (Z0 1 (ic [] (E0 ys x1) ?_))))
    rintro _ _ ⟨v1,rfl,rfl⟩
    exact Z2 (ZD ⟨rfl,rfl⟩ (wk [1] (fc (x:=ZV (VZ ys x1) v1) (Zd.sl _ (Yp Z6 (by rw [UA,Zk (by assumption)]))) fl)))
   exact ak (ZD ⟨rfl,rfl⟩ (wk [0] (fc (x:=Z3 ys) (Zd.sl _ (Yp Z6 (by rw [UA,Za (by assumption)]))) fl)))
  rintro F h ⟨rfl,rfl⟩
  exact az (Z0 1 (ZE j (Z2 (ZJ ⟨j+1,(UA q ys x1),ob,(by have:=GQ (n:=q) ys x1;omega),(Zdq Z4 Zy),rfl,rfl,rfl⟩ (wk [0] (fr (ZO j fl)))))))
 have hA:Qk q s.args xs=ys:=(Zdp om Zy).symm
 refine ax 0 (Y0 (ab 2 (Y3 (fun fz gz m F h=>∃(j:Nat) (zs:LI),(j<=s.kids.length)/\(zs.length<=xs.length+s.args.length+YS (s.kids.take j))/\(KP q (s.kids.drop j) zs=KP q s.kids (Qk q s.args xs))/\F=sF [1,3] fz [(2,Z3 zs),(8,.i j)]/\h=gz/\m=s.kids.length-j) _ _ _ ⟨0,ys,ob,(by rw [List.take_zero,YS];omega),(by rw [hA];rfl),rfl,rfl,rfl⟩ (wk [0] (fr (Yd fl))) ?_)))
 rintro m F h ⟨j,zs,U7,Wb,XV,rfl,rfl,rfl⟩
 refine Yr 3 [0] (iw (QZ s.kids) (ZZ ((j:Int)<(s.kids.length:Int)) (fun Ye=>?_) (fun Ye=>?_)))
 ·refine ak (aq (ab 3 (az (ZA 3 [0] ?_))))
  obtain ⟨x2,Zx⟩:=Zv s.kids j om
  have hks:=Q0 Zx
  have hbt:=F5 Zx
  have hbx:=F4 Zx
  have hul:=GO (n:=q) x2 zs
  exact Zp (Zj none (j:Int) 2 (UE Zx)) (Z0 3 (Zu [] (ih x2 q 0 zs ob ob ob) (Z2 (az (Z0 1 (ZE j (Z2 (ZJ ⟨j+1,(UJ q x2 zs),ob,om,(Zds Zx XV),rfl,rfl,rfl⟩ (wk [0] (fc (x:=Z3 (UA q (UK q (x2.steps.drop 0) zs) x2.result)) (Zd.sl _ (Yp Z6 (by rw [Sk];rfl))) (ZO j fl)))))))))))
 exact ax 2 (ar (Zm (ZW (Z3 zs) (Zd.sl _ (Yp Z6 (by rw [Sm,Za (by assumption)];exact (Zdr om XV)))))))
theorem Zbi (b:Z7) (q:Int) (k0:Nat) (xs:LI) (ih:∀(s2:Z5) (q:Int) (xs2:LI),(s2.sz<b.sz)->(xs2.length+s2.sz<=1000000000)->Zo 221 [X0 s2,.i q,Z3 xs2] [] (Yy (Z3 (Jn q s2 xs2)))) (hk:k0<=b.steps.length) (hz:xs.length+b.sz<=1000000000):Zo 189 [Yh b,.i q,.i k0,Z3 xs] [] (Yy (Z3 (UA q (UK q (b.steps.drop k0) xs) b.result))):=by
 have hbz:=Uk b
 have hbe:=b.sz_eq
 have hsd:=RY b.steps k0
 refine ZG 40 Tryz.func189 (ar (iA (XR b) fun b1=>?_))
 refine Z2 (Y0 (ab 0 (Y3 (fun fz gz m F h=>∃(k:Nat) (ys:LI),(k<=b.steps.length)/\(ys.length+Yo (b.steps.drop k)<=xs.length+Yo (b.steps.drop k0))/\(UK q (b.steps.drop k) ys=UK q (b.steps.drop k0) xs)/\F=sF [1,4] fz [(3,Z3 ys),(9,.i k)]/\h=gz/\m=b.steps.length-k) _ _ _ ⟨k0,xs,ob,(X7 _),rfl,rfl,rfl,rfl⟩ (wk [0] fl) ?_)))
 rintro m F h ⟨k,ys,Yk,Zh,Zy,rfl,rfl,rfl⟩
 refine Yr 3 [0] (iw (Up b.steps) (ZZ ((k:Int)<(b.steps.length:Int)) (fun Z9=>?_) (fun Z9=>?_)))
 ·refine ak (aq (ab 1 (az (ZA 3 [0] ?_))))
  obtain ⟨x1,Z4⟩:=Zv b.steps k om
  have hss:=Dw Z4
  have hsd1:=RX Z4
  have hul:=Sn (n:=q) x1 ys
  exact Zp (Zj none (k:Int) 5 (WV Z4)) (Z0 3 (Zu [] (ih x1 q ys ob ob) (Z2 (az (Z0 1 (ZE k (Z2 (ZJ ⟨k+1,(Jn q x1 ys),ob,ob,(Zdu Z4 Zy),rfl,rfl,rfl⟩ (wk [0] (fr (ZO k fl)))))))))))
 refine ax 0 (Xd (Xp [3,4] [(34,.b ((decide (b.result>=0))&&(decide (b.result<q))))] (fun gz=>gz) ?_ ?_))
 ·refine ZA 4 [0] (ib (b:=(decide (b.result>=0))) 29 (fun Zc=>?_) (fun Zc=>?_))
  ·exact WT [0] (wk [0] (Zl (decide (b.result<q)) Zc fl))
  exact Z2 (wk [0] (Zl false Zc fl))
 refine Xs (fun fz gz F h=>F=sF [] fz [(3,Z3 (UA q ys b.result))]/\h=[]) ?_ ?_
 ·refine ac ((decide (b.result>=0))&&(decide (b.result<q))) (p:=(b.result>=0)/\(b.result<q)) (YI dq dq) (fun Zi=>?_) (fun Zi=>?_)
  ·refine az (ZA 3 [0] (ic [] (E0 ys b.result) ?_))
   rintro _ _ ⟨v1,rfl,rfl⟩
   exact Z2 (ZD ⟨rfl,rfl⟩ (wk [] (fc (x:=ZV (VZ ys b.result) v1) (Zd.sl _ (Yp Z6 (by rw [UA,Zk (by assumption)]))) fl)))
  exact ak (ZD ⟨rfl,rfl⟩ (wk [] (fc (x:=Z3 ys) (Zd.sl _ (Yp Z6 (by rw [UA,Za (by assumption)]))) fl)))
 rintro F h ⟨rfl,rfl⟩
 exact ar (Zm (ZW (Z3 (UA q ys b.result)) (Zd.sl _ (Yp Z6 (by rw [Zdt om Zy])))))
theorem Zck (k:Nat):(∀(s:Z5) (q:Int) (xs:LI),(s.sz<=k)->(xs.length+s.sz<=1000000000)->Zo 221 [X0 s,.i q,Z3 xs] [] (Yy (Z3 (Jn q s xs))))/\(∀(b:Z7) (q:Int) (k0:Nat) (xs:LI),(b.sz<=k)->(k0<=b.steps.length)->(xs.length+b.sz<=1000000000)->Zo 189 [Yh b,.i q,.i k0,Z3 xs] [] (Yy (Z3 (UA q (UK q (b.steps.drop k0) xs) b.result)))):=by
 induction k with
 | zero=>exact ⟨fun s q xs h=>by have:=s.sz_pos;omega,fun b q k0 xs h=>by have:=b.sz_pos;omega⟩
 | succ k ih=>exact ⟨fun s q xs h hz=>Zbh s q xs (fun b2 q k2 xs2 h2 hk h3=>ih.2 b2 q k2 xs2 om hk h3) hz,fun b q k0 xs h hk hz=>Zbi b q k0 xs (fun s2 q xs2 h2 h3=>ih.1 s2 q xs2 om h3) hk hz⟩
theorem Rz (b:Z7) (q:Int) (k0:Nat) (xs:LI) (hk:k0<=b.steps.length:=by exact ob) (hz:xs.length+b.sz<=1000000000:=by exact ob):Zo 189 [Yh b,.i q,.i k0,Z3 xs] [] (Yy (Z3 (UA q (UK q (b.steps.drop k0) xs) b.result))):=(Zck b.sz).2 b q k0 xs (X7 _) hk hz
theorem RR (b:Z7) (q:Int) (hz:b.sz<=100000000:=by exact ob):Zo 155 [Yh b,.i q] [] (Yy (Z3 (UJ q b []))):=by
 exact ZG 9 Tryz.func155 (ar (iA (XR b) fun b1=>Z2 (Zq 2 [0] (iL (Z6 []) 0 1 fun v1=>ZM 0 [(7,Z3 [])] (Zu [] (Rz b q 0 [] (hk:=(QS _))) (Zm (ZW (Z3 (UA q (UK q (b.steps.drop 0) []) b.result)) (Zd.sl _ (Yp Z6 (by rw [Sk];rfl))))))))))
theorem Z65 (xs:LI) (ys:LI) (hz:xs.length+ys.length<=100000000:=by exact ob):Zo 190 [Z3 xs,Z3 ys] [] (fun r h=>∃(zs:LI),r=Z3 zs/\h=[]/\zs.length<=xs.length+ys.length):=by
 refine ZG 22 Tryz.func190 (Y7 (Yf 1 (ic [] (WI xs) ?_)))
 rintro _ _ ⟨v1,rfl,rfl⟩
 refine Z2 (Y0 (ab 0 (Y3 (fun fz gz m F h=>∃(k:Nat) (zs:LI),(k<=ys.length)/\(zs.length<=xs.length+k)/\F=sF [1] fz [(5,Z3 zs),(6,.i k)]/\h=[]/\m=ys.length-k) _ _ _ ⟨0,xs,ob,ob,rfl,rfl,rfl⟩ (wk [] (fc (x:=ZV xs v1) (Zd.forget _ _) (Yd fl))) ?_)))
 rintro m F h ⟨k,zs,Yk,Zh,rfl,rfl,rfl⟩
 refine YQ 2 (iw (Yc ys) (ZZ ((k:Int)<(ys.length:Int)) (fun Z9=>?_) (fun Z9=>?_)))
 ·refine ak (aq (ab 1 (az (Z0 3 ?_))))
  obtain ⟨x1,Z4⟩:=Zv ys k om
  refine Zp (Zj none (k:Int) 1 (Y5 Z4)) (Z0 1 (ic [] (E0 zs x1) ?_))
  rintro _ _ ⟨v2,rfl,rfl⟩
  exact Z2 (az (Z0 1 (ZE k (Z2 (ZJ ⟨k+1,(VZ zs x1),ob,(by have:=D5 zs x1;omega),rfl,rfl,rfl⟩ (wk [] (fc (x:=ZV (VZ zs x1) v2) (Zd.forget _ _) (ZO k fl))))))))
 exact ax 0 (ar (Zm (r1 [] ⟨zs,rfl,rfl,ob⟩)))
theorem NH (xs:LI) (ys:LI) (hz:xs.length<=100000000:=by exact ob) (hy:ys.length<=100000000:=by exact ob):Zo 224 [Z3 xs,Z3 ys] [] (fun r h=>∃(zs:LI) (v:Value),r=ZV zs v/\h=[.tail v 1]/\zs.length<=xs.length/\∀z∈zs,z∈xs):=by
 refine ZG 28 Tryz.func224 (Y7 (ar (iL (Z6 []) 0 1 fun v1=>?_)))
 refine Z2 (Y0 (ab 0 (Y3 (fun fz gz m F h=>∃(k:Nat) (zs:LI) (u:Value),(k<=xs.length)/\(zs.length<=k)/\(∀z∈zs,z∈xs)/\F=sF [0,1] fz [(5,ZV zs u),(6,.i k)]/\h=[.tail u 1]/\m=xs.length-k) _ _ _ ⟨0,[],v1,ob,ob,(fun z hz=>by cases hz),rfl,rfl,rfl⟩ (wk [0] (fr (Yd fl))) ?_)))
 rintro m F h ⟨k,zs,u,Yk,Zh,Zy,rfl,rfl,rfl⟩
 refine YQ 2 (iw (Yc xs) (ZZ ((k:Int)<(xs.length:Int)) (fun Z9=>?_) (fun Z9=>?_)))
 ·refine ak (aq (ab 1 (Yf 3 ?_)))
  obtain ⟨x1,Z4⟩:=Zv xs k om
  refine Zp (Zj none (k:Int) 1 (Y5 Z4)) (Z0 1 (Zu [] (Uz ys x1) (ie (VI (x1∈ys) (fun Zi=>?_) (fun Zi=>?_)))))
  ·exact az (Z0 3 (Zp (Zj none (k:Int) 1 (Y5 Z4)) (Z0 1 (iL (Z6 [x1]) 1 1 fun v2=>ZM 0 [(25,Z3 [x1])] (ip 1 (Z6 (zs++[x1])) (Z6 zs) (Z6 [x1]) u none 1 (YG _) (YG _) (W4 _) (by simp<;>omega) (by simp [W3,Z6]) fun v3=>Z2 (az (Z0 1 (ZE k (Z2 (ZJ ⟨k+1,(zs++[x1]),v3,ob,ob,(by first|exact Zy|exact Xx Zy (Y2 Z4)),rfl,rfl,rfl⟩ (wk [0] (fr (ZO k fl)))))))))))))
  exact ak (az (Z0 1 (ZE k (Z2 (ZJ ⟨k+1,zs,u,ob,ob,(by first|exact Zy|exact Xx Zy (Y2 Z4)),rfl,rfl,rfl⟩ (wk [0] (fr (ZO k fl))))))))
 exact ax 0 (ar (Zm (r1 [0] ⟨zs,u,rfl,rfl,⟨by omega,Zy⟩⟩)))
theorem Ia (xs:LI) (q:Int) (hz:xs.length<=100000000:=by exact ob):Zo 238 [Z3 xs,.i q] [] (fun r h=>∃(zs:LI) (v:Value),r=ZV zs v/\h=[.tail v 1]/\zs.length<=xs.length/\∀z∈zs,z∈xs):=by
 refine ZG 28 Tryz.func238 (Y7 (ar (iL (Z6 []) 0 1 fun v1=>?_)))
 refine Z2 (Y0 (ab 0 (Y3 (fun fz gz m F h=>∃(k:Nat) (zs:LI) (u:Value),(k<=xs.length)/\(zs.length<=k)/\(∀z∈zs,z∈xs)/\F=sF [0,1] fz [(5,ZV zs u),(6,.i k)]/\h=[.tail u 1]/\m=xs.length-k) _ _ _ ⟨0,[],v1,ob,ob,(fun z hz=>by cases hz),rfl,rfl,rfl⟩ (wk [0] (fr (Yd fl))) ?_)))
 rintro m F h ⟨k,zs,u,Yk,Zh,Zy,rfl,rfl,rfl⟩
 refine YQ 2 (iw (Yc xs) (ZZ ((k:Int)<(xs.length:Int)) (fun Z9=>?_) (fun Z9=>?_)))
 ·refine ak (aq (ab 1 (Yf 2 ?_)))
  obtain ⟨x1,Z4⟩:=Zv xs k om
  refine Zp (Zj none (k:Int) 1 (Y5 Z4)) (ZZ (x1<q) (fun Zi=>?_) (fun Zi=>?_))
  ·exact az (Z0 3 (Zp (Zj none (k:Int) 1 (Y5 Z4)) (Z0 1 (iL (Z6 [x1]) 1 1 fun v2=>ZM 0 [(25,Z3 [x1])] (ip 1 (Z6 (zs++[x1])) (Z6 zs) (Z6 [x1]) u none 1 (YG _) (YG _) (W4 _) (by simp<;>omega) (by simp [W3,Z6]) fun v3=>Z2 (az (Z0 1 (ZE k (Z2 (ZJ ⟨k+1,(zs++[x1]),v3,ob,ob,(by first|exact Zy|exact Xx Zy (Y2 Z4)),rfl,rfl,rfl⟩ (wk [0] (fr (ZO k fl)))))))))))))
  exact ak (az (Z0 1 (ZE k (Z2 (ZJ ⟨k+1,zs,u,ob,ob,(by first|exact Zy|exact Xx Zy (Y2 Z4)),rfl,rfl,rfl⟩ (wk [0] (fr (ZO k fl))))))))
 exact ax 0 (ar (Zm (r1 [0] ⟨zs,u,rfl,rfl,⟨by omega,Zy⟩⟩)))
theorem Br (op:Int) (v:Int) :Zo 117 [.i op,.i v] [] (Yy (X0 (Zt op v))):=by
 exact ZG 10 Tryz.func117 (ar (iA [.i 0,.i 0,.i 0,nl,nl] fun b1=>ie (Yf 2 (iL (Z6 [v]) 1 1 fun v1=>iL (XM []) 0 2 fun v2=>Z0 1 (Zz 2 b1 [.i op,.i 0,.i 0,ZV [v] v1,Q2 [] v2] (ie (ZT (r3 [] [.agg [.i op,.i 0,.i 0,ZV [v] v1,Q2 [] v2]] [0] [(b1,b1)] ⟨rfl,rfl⟩ (Zd.agg (.cons li (.cons li (.cons li (.cons (Zd.sl _ (Yp Z6 rfl)) (.cons (Zd.sl _ (Yp XM rfl)) .nil))))))))))))))
theorem Kf (op:Int) (xs:LI) (hl:xs.length<=1000000000:=by exact ob):Zo 157 [.i op,Z3 xs] [] (fun r h=>∃(v:Value),r=Xc (xs.map (Zt op)) v/\h=[.tail v 5]):=by
 refine ZG 24 Tryz.func157 (Y7 (ar (iL (ZL []) 0 5 fun v1=>?_)))
 refine Z2 (Y0 (ab 0 (Y3 (fun fz gz m F h=>∃(k:Nat) (v:Value),(k<=xs.length)/\F=sF [0,1] fz [(5,Xc ((xs.take k).map (Zt op)) v),(6,.i k)]/\h=[.tail v 5]/\m=xs.length-k) _ _ _ ⟨0,v1,ob,rfl,rfl,rfl⟩ (wk [0] (fc (x:=Xc [] v1) (Zd.slh _ (Yp ZL rfl)) (Yd fl))) ?_)))
 rintro m F h ⟨k,v,Yk,rfl,rfl,rfl⟩
 refine YQ 2 (iw (Yc xs) (ZZ ((k:Int)<(xs.length:Int)) (fun Z9=>?_) (fun Z9=>?_)))
 ·refine ak (aq (ab 1 (az (Z0 4 ?_))))
  obtain ⟨x1,Z4⟩:=Zv xs k om
  exact Zp (Zj none (k:Int) 1 (Y5 Z4)) (Z0 1 (Zu [] (Br op x1) (iL [X0 (Zt op x1)] 1 5 fun v2=>ZM 0 [(21,.sl [X0 (Zt op x1)] none)] (ip 1 (ZL ((xs.take (k+1)).map (Zt op))) (ZL ((xs.take k).map (Zt op))) [X0 (Zt op x1)] v none 5 (XC _) (KC rfl) rfl (by simp<;>omega) (by rw [WU Z4];simp [VQ]) fun v3=>Z2 (az (Z0 1 (ZE k (Z2 (ZJ ⟨k+1,v3,ob,rfl,rfl,rfl⟩ (wk [0] (fr (ZO k fl))))))))))))
 exact ax 0 (ar (Zm (r2 [0] [Xc ((xs.take k).map (Zt op)) v] ⟨v,rfl,rfl⟩ (Zd.slh _ (Yp ZL (by rw [WJ om]))))))
theorem Z5o (n:ZC) (s:Z5) (i:Nat) (mm:Nat) (hn:Xr n:=by exact ob) (hf:FS n.decls n.routines.length mm s:=by exact ob) (hi:i<s.args.length:=by exact ob):Zo 237 [YB n,X0 s,.i i] [] (fun r h=>∃(wr:Bool),r=.b wr/\h=[]):=by
 have hal:=hf.alen
 refine ZG 42 Tryz.func237 (ar (iA (X4 n) fun b1=>iA (W8 s) fun b2=>?_))
 refine Z2 (Y0 (ab 0 (Y3 (fun fz gz m F h=>∃(k:Nat),(k<=s.args.length)/\F=sF [2,3,4] fz [(7,.i k)]/\h=gz/\m=s.args.length-k) _ _ _ ⟨0,ob,rfl,rfl,rfl⟩ (wk [0,0] (Yd fl)) ?_)))
 rintro m F h ⟨k,Yk,rfl,rfl,rfl⟩
 refine Yr 3 [0] (iw (Yc s.args) (ZZ ((k:Int)<(s.args.length:Int)) (fun Z9=>?_) (fun Z9=>?_)))
 ·refine ak (aq (ab 1 (aD 27 (Zs 23 27 [0,1,2,3] (db (b:=((k:Int) != (i:Int))) 18 (fun Zc=>?_) (fun Zc=>?_))))))
  ·refine ZU 20 23 [4,5,6] [0] ?_
   obtain ⟨x1,Z4⟩:=Zv s.args k om
   refine dx 7 (Zj none (k:Int) 1 (Y5 Z4)) (ZU 15 19 [8,9,10,11] [0] ?_)
   obtain ⟨x2,Zx⟩:=Zv s.args i om
   refine dx 12 (Zj none (i:Int) 1 (Y5 Zx)) (Zs 10 14 [13,14,15,16] (db (b:=(x1==x2)) 31 (fun ZF=>?_) (fun ZF=>?_)))
   ·refine Zs 6 10 [17,18,19,20] (db (b:=(decide ((k:Int)>(i:Int)))) 35 (fun Ym=>?_) (fun Ym=>?_))
    ·exact Zs 0 6 [21,22,23,24,25,26] (de (VD (ar (Zm (r1 [] ⟨true,rfl,rfl⟩)))))
    refine ZU 3 6 [21,22,23] [1,0] (Z8 24 (YH 24 [] [] [] (ED n s k (hnum:=hf.call)) (Zs 0 2 [25,26] (de (ac (UH n s.op s.num k) Iff.rfl (fun Zi=>?_) (fun Zi=>?_))))))
    ·exact ar (Zm (r1 [] ⟨true,rfl,rfl⟩))
    exact ak (az (Z0 1 (ZE k (Z2 (ZJ ⟨k+1,ob,rfl,rfl,rfl⟩ (wk [0,0] (ZO k fl)))))))
   exact Zs 0 10 [17,18,19,20,21,22,23,24,25,26] (de (Vt (ak (az (Z0 1 (ZE k (Z2 (ZJ ⟨k+1,ob,rfl,rfl,rfl⟩ (wk [0,0] (ZO k fl))))))))))
  exact Zs 0 23 [4,5,6,7,8,9,10,11,12,13,14,15,16,17,18,19,20,21,22,23,24,25,26] (de (Vt (ak (az (Z0 1 (ZE k (Z2 (ZJ ⟨k+1,ob,rfl,rfl,rfl⟩ (wk [0,0] (ZO k fl))))))))))
 exact ax 0 (ar (Zm (r1 [] ⟨false,rfl,rfl⟩)))
theorem NO (n:ZC) (s:Z5) (i:Nat) (mm:Nat) (os:LI) (ls:LI) (hn:Xr n:=by exact ob) (hf:FS n.decls n.routines.length mm s:=by exact ob) (hi:i<s.args.length:=by exact ob) (ho:os.length<=100000000:=by exact ob) (hl:ls.length<=100000000:=by exact ob):Zo 222 [YB n,X0 s,.i i,Z3 os,Z3 ls] [] (fun r h=>∃(wr:Bool),r=.b wr/\h=[]):=by
 refine ZG 34 Tryz.func222 (ar (iA (X4 n) fun b1=>iA (W8 s) fun b2=>Z2 (Zq 4 [0] ?_)))
 obtain ⟨x1,Z4⟩:=Zv s.args i om
 refine Zp (Zj none (i:Int) 1 (Y5 Z4)) (Z0 1 (Zu [] (Uz ls x1) (Z0 1 (ib (b:=(decide (x1∈ls))) 18 (fun Zc=>?_) (fun Zc=>?_)))))
 ·exact Zm (r1 [] ⟨true,rfl,rfl⟩)
 refine ZA 4 [0] (Zp (Zj none (i:Int) 1 (Y5 Z4)) (Z0 1 (Zu [] (Uz os x1) (Z0 3 (ib (b:=(!(decide (x1∈os)))) 28 (fun ZF=>?_) (fun ZF=>?_))))))
 ·exact Zm (r1 [] ⟨true,rfl,rfl⟩)
 refine ZA 3 [1,0] (ic [] (Z5o n s i mm) ?_)
 rintro _ _ ⟨wr1,rfl,rfl⟩
 exact Zm (r1 [] ⟨wr1,rfl,rfl⟩)
theorem Z52 (n:ZC) (us:LI) (s:Z5) (os:LI) (ls:LI) (mm:Nat) (hn:Xr n:=by exact ob) (hf:FS n.decls n.routines.length mm s:=by exact ob) (hvl:us.length=mm:=by exact ob) (hm:mm<=100000000:=by exact ob) (ho:os.length<=100000000:=by exact ob) (hl:ls.length<=100000000:=by exact ob):Zo 191 [YB n,Z3 us,X0 s,Z3 os,Z3 ls] [] (fun r h=>∃(zs:LI),r=Z3 zs/\h=[]/\zs.length<=s.args.length/\∀z∈zs,z∈s.args):=by
 have hal:=hf.alen
 refine ZG 43 Tryz.func191 (ar (iA (X4 n) fun b1=>iA (W8 s) fun b2=>Z2 (ar (iL (Z6 []) 0 1 fun v1=>?_))))
 refine Z2 (Y0 (ab 0 (Y3 (fun fz gz m F h=>∃(k:Nat) (zs:LI) (u:Value),(k<=s.args.length)/\(zs.length<=k)/\(∀z∈zs,z∈s.args)/\F=sF [1,3,4,5,7] fz [(11,ZV zs u),(12,.i k)]/\h=[Zg gz 1,Zg gz 2,.tail u 1]/\m=s.args.length-k) _ _ _ ⟨0,[],v1,ob,ob,(fun z hz=>by cases hz),rfl,rfl,rfl⟩ (wk [1,1,0] (fr (Yd fl))) ?_)))
 rintro m F h ⟨k,zs,u,Yk,Zh,Zy,rfl,rfl,rfl⟩
 refine Yr 3 [0] (iw (Yc s.args) (ZZ ((k:Int)<(s.args.length:Int)) (fun Z9=>?_) (fun Z9=>?_)))
 ·obtain ⟨a1,ha1⟩:=Zv s.args k om
  have har:=hf.args a1 (Y2 ha1)
  refine ak (aq (ab 1 (Zq 4 [1,0] (Zu [] (GG n us s k a1 (hnum:=hf.call) (ha:=ha1)) (Z0 1 (ib (b:=KY n us s.op s.num a1 k) 26 (fun Zc=>?_) (fun Zc=>?_)))))))
  ·refine ZA 5 [1,0] (ic [] (NO n s k mm os ls) ?_)
   rintro _ _ ⟨wr1,rfl,rfl⟩
   refine YC wr1 Iff.rfl (fun Zi=>?_) (fun Zi=>?_)
   ·exact az (ZA 4 [0] (Zp (Zj none (k:Int) 1 (Y5 ha1)) (Z0 1 (iL (Z6 [a1]) 1 1 fun v2=>ZM 0 [(40,Z3 [a1])] (ip 3 (Z6 (zs++[a1])) (Z6 zs) (Z6 [a1]) u none 1 (YG _) (YG _) (W4 _) (by simp<;>omega) (by simp [W3,Z6]) fun v3=>Z2 (az (Z0 1 (ZE k (Z2 (ZJ ⟨k+1,(zs++[a1]),v3,ob,ob,(by first|exact Zy|exact Xx Zy (Y2 ha1)),rfl,rfl,rfl⟩ (wk [2,2,0] (fr (ZO k fl)))))))))))))
   exact ak (az (Z0 1 (ZE k (Z2 (ZJ ⟨k+1,zs,u,ob,ob,(by first|exact Zy|exact Xx Zy (Y2 ha1)),rfl,rfl,rfl⟩ (Zw 3 (fr (ZO k fl))))))))
  exact Z2 (Vt (ak (az (Z0 1 (ZE k (Z2 (ZJ ⟨k+1,zs,u,ob,ob,(by first|exact Zy|exact Xx Zy (Y2 ha1)),rfl,rfl,rfl⟩ (Zw 3 (fr (ZO k fl))))))))))
 exact ax 0 (ar (Zm (r2 [] [ZV zs u] ⟨zs,rfl,rfl,⟨by omega,Zy⟩⟩ (Zd.forget _ _))))
theorem Z5h (n:ZC) (us:LI) (s:Z5) (os:LI) (ls:LI) (mm:Nat) (hn:Xr n:=by exact ob) (hf:FS n.decls n.routines.length mm s:=by exact ob) (hvl:us.length=mm:=by exact ob) (hm:mm<=100000000:=by exact ob) (ho:os.length<=100000000:=by exact ob) (hl:ls.length<=100000000:=by exact ob):Zo 193 [YB n,Z3 us,X0 s,Z3 os,Z3 ls] [] (fun r h=>∃(zs:LI) (v:Value),r=ZV zs v/\h=[.tail v 1]/\zs.length<=os.length/\∀z∈zs,z∈os):=by
 have hal:=hf.alen
 refine ZG 55 Tryz.func193 (ar (iA (X4 n) fun b1=>iA (W8 s) fun b2=>Z2 (Yr 4 [0] (ib (b:=(s.op==7)) 16 (fun Zc=>?_) (fun Zc=>?_)))))
 ·refine Z2 (VD (Yf 2 (ic [] (NH os ls) ?_)))
  rintro _ _ ⟨zs1,v1,rfl,rfl,Yt⟩
  have hco:=Yt
  exact Zm (r1 [0] ⟨zs1,v1,rfl,rfl,(by first|exact hco|exact ⟨by omega,Zy⟩)⟩)
 refine WT [0] (ac (s.op==8) Zf (fun Z9=>?_) (fun Z9=>?_))
 ·refine Yf 2 (ic [] (NH os ls) ?_)
  rintro _ _ ⟨zs2,v2,rfl,rfl,X2⟩
  have hco:=X2
  exact Zm (r1 [0] ⟨zs2,v2,rfl,rfl,(by first|exact hco|exact ⟨by omega,Zy⟩)⟩)
 refine ak (Yf 1 (ic [] (WI os) ?_))
 rintro _ _ ⟨v3,rfl,rfl⟩
 refine Z2 (Y0 (ab 0 (Y3 (fun fz gz m F h=>∃(k:Nat) (zs:LI) (u:Value),(k<=s.args.length)/\(zs.length<=os.length)/\(∀z∈zs,z∈os)/\F=sF [1,3,4,5,7] fz [(11,ZV zs u),(12,.i k)]/\h=[Zg gz 1,Zg gz 2,.tail u 1]/\m=s.args.length-k) _ _ _ ⟨0,os,v3,ob,ob,(fun z hz=>hz),rfl,rfl,rfl⟩ (wk [1,1,0] (fr (Yd fl))) ?_)))
 rintro m F h ⟨k,zs,u,Yk,Zh,Zy,rfl,rfl,rfl⟩
 refine Yr 3 [0] (iw (Yc s.args) (ZZ ((k:Int)<(s.args.length:Int)) (fun Zi=>?_) (fun Zi=>?_)))
 ·obtain ⟨a1,ha1⟩:=Zv s.args k om
  have har:=hf.args a1 (Y2 ha1)
  refine ak (aq (ab 1 (Zq 4 [1,0] (Zu [] (GG n us s k a1 (hnum:=hf.call) (ha:=ha1)) (Z0 1 (ib (b:=KY n us s.op s.num a1 k) 38 (fun ZF=>?_) (fun ZF=>?_)))))))
  ·refine ZA 5 [1,0] (ic [] (NO n s k mm os ls) ?_)
   rintro _ _ ⟨wr1,rfl,rfl⟩
   refine YC (!wr1) (p:=¬(wr1=true)) (Ys Iff.rfl) (fun ZB=>?_) (fun ZB=>?_)
   ·refine az (ZA 4 [0] (Zp (Zj none (k:Int) 1 (Y5 ha1)) (ZM 1 [(47,Z3 zs)] (ic [] (NU zs a1) ?_))))
    rintro _ _ ⟨v4,rfl,rfl⟩
    exact Z2 (az (Z0 1 (ZE k (Z2 (ZJ ⟨k+1,(TF zs a1),v4,ob,(by first|exact Zh|exact V3 (Em _ _) Zh),(by first|exact Zy|exact (fun z hz=>Zy z (Di hz))),rfl,rfl,rfl⟩ (wk [1,1,0] (fr (ZO k fl))))))))
   exact ak (az (Z0 1 (ZE k (Z2 (ZJ ⟨k+1,zs,u,ob,(by first|exact Zh|exact V3 (Em _ _) Zh),(by first|exact Zy|exact (fun z hz=>Zy z (Di hz))),rfl,rfl,rfl⟩ (Zw 3 (fr (ZO k fl))))))))
  exact Z2 (Vt (ak (az (Z0 1 (ZE k (Z2 (ZJ ⟨k+1,zs,u,ob,(by first|exact Zh|exact V3 (Em _ _) Zh),(by first|exact Zy|exact (fun z hz=>Zy z (Di hz))),rfl,rfl,rfl⟩ (Zw 3 (fr (ZO k fl))))))))))
 exact ax 0 (ar (Zm (r1 [2] ⟨zs,u,rfl,rfl,(by first|exact hco|exact ⟨by omega,Zy⟩)⟩)))
theorem Z5i (n:ZC) (s:Z5) (os:LI) (ls:LI) (mm:Nat) (hn:Xr n:=by exact ob) (hf:FS n.decls n.routines.length mm s:=by exact ob) (ho:os.length<=100000000:=by exact ob) (hl:ls.length<=100000000:=by exact ob):Zo 194 [YB n,X0 s,Z3 os,Z3 ls] [] (fun r h=>∃(zs:LI),r=Z3 zs/\h=[]/\zs.length<=s.args.length/\∀z∈zs,z∈s.args):=by
 have hal:=hf.alen
 refine ZG 50 Tryz.func194 (ar (iA (X4 n) fun b1=>iA (W8 s) fun b2=>Z2 (ar (iL (Z6 []) 0 1 fun v1=>?_))))
 refine Z2 (Y0 (ab 0 (Y3 (fun fz gz m F h=>∃(k:Nat) (zs:LI) (u:Value),(k<=s.args.length)/\(zs.length<=k)/\(∀z∈zs,z∈s.args)/\F=sF [2,3,4,5] fz [(9,ZV zs u),(10,.i k)]/\h=[Zg gz 1,Zg gz 2,.tail u 1]/\m=s.args.length-k) _ _ _ ⟨0,[],v1,ob,ob,(fun z hz=>by cases hz),rfl,rfl,rfl⟩ (wk [1,1,0] (fr (Yd fl))) ?_)))
 rintro m F h ⟨k,zs,u,Yk,Zh,Zy,rfl,rfl,rfl⟩
 refine Yr 3 [0] (iw (Yc s.args) (ZZ ((k:Int)<(s.args.length:Int)) (fun Z9=>?_) (fun Z9=>?_)))
 ·obtain ⟨a1,ha1⟩:=Zv s.args k om
  have har:=hf.args a1 (Y2 ha1)
  refine ak (aq (ab 1 (Zq 3 [1,0] (Zu [] (ED n s k (hnum:=hf.call)) (Xb 13 [2,3,4,5,9,10] [(31,.b (UH n s.op s.num k&&(decide (a1∈os))))] (fun gz=>gz) ?_ (fun hj1=>?_))))))
  ·refine Xp [2,3,4,5,9,10] [(41,.b ((UH n s.op s.num k&&(decide (a1∈os)))&&(!(decide (a1∈ls)))))] (fun gz=>gz) ?_ ?_
   ·refine Z0 1 (ib (b:=(UH n s.op s.num k&&(decide (a1∈os)))) 32 (fun Zc=>?_) (fun Zc=>?_))
    ·exact ZA 4 [0] (Zp (Zj none (k:Int) 1 (Y5 ha1)) (Z0 1 (Zu [] (Uz ls a1) (Z2 (Zw 3 (Zl (!(decide (a1∈ls))) Zc fl))))))
    exact Z2 (Zw 3 (Zl false Zc fl))
   refine ac ((UH n s.op s.num k&&(decide (a1∈os)))&&(!(decide (a1∈ls)))) (p:=((UH n s.op s.num k=true)/\(a1∈os))/\(¬(a1∈ls))) (YI (YI Iff.rfl dq) (Ys dq)) (fun Zi=>?_) (fun Zi=>?_)
   ·refine az (ZA 4 [0] (Zp (Zj none (k:Int) 1 (Y5 ha1)) (ZM 1 [(42,Z3 zs)] (ic [] (E0 zs a1) ?_))))
    rintro _ _ ⟨v2,rfl,rfl⟩
    exact Z2 (az (Z0 1 (ZE k (Z2 (ZJ ⟨k+1,(VZ zs a1),v2,ob,(by first|omega|(have:=D5 zs a1;omega)),(by first|exact Zy|exact (fun z hz=>(E9.1 hz).elim (Zy z) (fun e=>e▸Y2 ha1))),rfl,rfl,rfl⟩ (wk [1,1,0] (fr (ZO k fl))))))))
   exact ak (az (Z0 1 (ZE k (Z2 (ZJ ⟨k+1,zs,u,ob,(by first|omega|(have:=D5 zs a1;omega)),(by first|exact Zy|exact (fun z hz=>(E9.1 hz).elim (Zy z) (fun e=>e▸Y2 ha1))),rfl,rfl,rfl⟩ (Zw 3 (fr (ZO k fl))))))))
  refine Z0 1 (ib (b:=UH n s.op s.num k) 23 (fun ZF=>?_) (fun ZF=>?_))
  ·exact ZA 4 [0] (Zp (Zj none (k:Int) 1 (Y5 ha1)) (Z0 1 (Zu [] (Uz os a1) (Z0 1 (Yb (Zw 3 (Zl (decide (a1∈os)) ZF fl)) hj1)))))
  exact Z0 8 (Yb (Zw 3 (Zl false ZF fl)) hj1)
 exact ax 0 (ar (Zm (r2 [] [ZV zs u] ⟨zs,rfl,rfl,⟨by omega,Zy⟩⟩ (Zd.forget _ _))))
theorem Ds (rt:Yz) (b:Z7) (hp:rt.params.length<=4294967296:=by exact ob) (hl:rt.lent.length<=4294967296:=by exact ob):Zo 119 [Ju rt,Yh b] [] (Yy (Ju (Yz.mk rt.params rt.lent rt.result b))):=by
 refine ZG 15 Tryz.func119 (ar (iA (Jd rt) fun b1=>iA (XR b) fun b2=>iA [nl,nl,.i 0,nl,.i 0] fun b3=>ie (aD 11 (ZU 4 11 [0,1,3,4,6,7,8] [2,2,2,1] (Z8 2 (dc 2 [] [1,2,2] [b2,b1,b1] (WI rt.params) ?_))))))
 rintro _ _ ⟨v1,rfl,rfl⟩
 refine Z8 5 (dc 5 [] [1,2] [b2,b1] (WI rt.lent) ?_)
 rintro _ _ ⟨v2,rfl,rfl⟩
 exact Zs 1 2 [9] (Z8 10 (YZ 10 2 [] [] b3 [ZV rt.params v1,ZV rt.lent v2,.i rt.result,Vb b.steps,.i b.result] (de (ZT (r3 [] [.agg [ZV rt.params v1,ZV rt.lent v2,.i rt.result,Vb b.steps,.i b.result]] [0] [(b3,b3)] ⟨rfl,rfl⟩ (Zd.agg (.cons (Zd.sl _ (Yp Z6 ob)) (.cons (Zd.sl _ (Yp Z6 ob)) (.cons li (.cons (Zd.sl _ (Yp ZL ob)) (.cons li .nil)))))))))))
theorem Z4x (n:ZC) (us:LI) (fds:LI) (kd:Z7) (os:LI) (ls:LI) (mm:Nat) (bb:Nat) (hn:Xr n:=by exact ob) (hf:fB n.decls n.routines.length (mm+fds.length) kd:=by exact ob) (hop:Vc WD kd:=by exact ob) (hul:us.length=mm:=by exact ob) (hfl:fds.length<=3:=by exact ob) (hm:mm+3+4*kd.sz<=100000:=by exact ob) (hor:∀v∈os,0<=v/\v<(mm:Int)) (hol:os.length+3+4*kd.sz<=730:=by exact ob) (hal:ls.length+2000*kd.sz<=1000000:=by exact ob) (hbz:kd.sz<=500:=by exact ob) (hb:kd.sz<bb:=by exact ob) (ih:∀(us2:LI) (b2:Z7) (os2:LI) (as2:LI) (m2:Nat),(fB n.decls n.routines.length m2 b2)->(Vc WD b2)->(us2.length=m2)->(m2+4*b2.sz<=100000)->(∀v∈os2,0<=v/\v<(m2:Int))->(os2.length+4*b2.sz<=730)->(as2.length+2000*b2.sz<=1000000)->(b2.sz<=500)->(b2.sz<bb)->Zo 156 [YB n,Z3 us2,Yh b2,Z3 os2,Z3 as2] [] (fun r h=>∃(y:Z7),r=Yh y/\h=[]/\KB n.decls n.routines.length m2 y (4500*b2.sz))):Zo 223 [YB n,Z3 us,Z3 fds,Yh kd,Z3 os,Z3 ls] [] (fun r h=>∃(y:Z7),r=Yh y/\h=[]/\KB n.decls n.routines.length (mm+fds.length) y (4500*kd.sz+1470)):=by
 refine ZG 115 Tryz.func223 (ar (iA (X4 n) fun b1=>iA (XR kd) fun b2=>iA [nl,.i 0] fun b3=>ie (Yf 1 (iw (Yc us) (Z2 (Yf 2 (ic [] (Th us fds) ?_)))))))
 rintro _ _ ⟨v1,rfl,rfl⟩
 refine Z2 (Zq 2 [2] (io (.i (((us++fds).length:Nat):Int)) (.i (((Z6 (us++fds)).length:Nat):Int)) (li (by rw [Yc])) (Zu [] (RR kd (((us++fds).length:Nat):Int)) ?_)))
 have hub:=GO (n:=(((us++fds).length:Nat):Int)) kd []
 simp only [X5,Wh] at hub
 refine Z2 (ar (iL (Z6 []) 0 1 fun v2=>Z2 (ar (iL (Z6 []) 0 1 fun v3=>?_))))
 refine Z2 (Y0 (ab 0 (Y3 (fun fz gz m F h=>∃(k:Nat) (ms:LI) (u:Value) (dr:LI) (w:Value),(k<=os.length)/\(ms.length<=k)/\(dr.length<=k)/\(∀v∈ms,0<=v/\v<(mm:Int))/\(∀v∈dr,0<=v/\v<(mm:Int))/\F=sF [2,4,5,6,9,12,13,15] fz [(14,Z3 (us++fds)),(16,ZV ms u),(17,ZV dr w),(18,.i k)]/\h=[Zg gz 3,Zg gz 4,Zg gz 5,.tail u 1,.tail w 1]/\m=os.length-k) _ _ _ ⟨0,[],v2,[],v3,ob,ob,ob,(fun v hv=>by cases hv),(fun v hv=>by cases hv),rfl,rfl,rfl⟩ (wk [3,3,3,1,0] (fc (x:=ZV (us++fds) v1) (Zd.forget _ _) (fw (Yd fl)))) ?_)))
 rintro m F h ⟨k,ms,u,dr,w,Yk,Zh,Zy,YJ,Wc,rfl,rfl,rfl⟩
 refine YQ 2 (iw (Yc os) (ZZ ((k:Int)<(os.length:Int)) (fun Z9=>?_) (fun Z9=>?_)))
 ·obtain ⟨o1,ho1⟩:=Zv os k om
  have hor1:=hor o1 (Y2 ho1)
  refine ak (aq (ab 1 (Yf 3 (Zp (Zj none (k:Int) 1 (Y5 ho1)) (Z0 1 (Zu [] (Uz (UJ (((us++fds).length:Nat):Int) kd []) o1) (Xp [2,4,5,6,9,12,13,14,15,16,17,18] [(53,.b ((decide (o1∈(UJ (((us++fds).length:Nat):Int) kd [])))||(decide (o1∈ls))))] (fun gz=>gz) ?_ ?_)))))))
  ·refine Z0 1 (ib (b:=(decide (o1∈(UJ (((us++fds).length:Nat):Int) kd [])))) 46 (fun Zc=>?_) (fun Zc=>?_))
   ·exact Z2 (Zw 5 (Zl true Zc fl))
   exact Z0 3 (Zp (Zj none (k:Int) 1 (Y5 ho1)) (Z0 1 (Zu [] (Uz ls o1) (Z2 (Zw 5 (Zl (decide (o1∈ls)) Zc fl))))))
  refine ac ((decide (o1∈(UJ (((us++fds).length:Nat):Int) kd [])))||(decide (o1∈ls))) (p:=(o1∈(UJ (((us++fds).length:Nat):Int) kd []))∨(o1∈ls)) (ZY dq dq) (fun Zi=>?_) (fun Zi=>?_)
  ·exact az (Z0 3 (Zp (Zj none (k:Int) 1 (Y5 ho1)) (Z0 1 (iL (Z6 [o1]) 1 1 fun v4=>ZM 0 [(59,Z3 [o1])] (ip 4 (Z6 (ms++[o1])) (Z6 ms) (Z6 [o1]) u none 1 (YG _) (YG _) (W4 _) (by simp<;>omega) (by simp [W3,Z6]) fun v5=>Z2 (az (Z0 1 (ZE k (Z2 (ZJ ⟨k+1,(ms++[o1]),v5,dr,w,ob,ob,ob,(by first|exact YJ|exact Xx YJ hor1),(by first|exact Wc|exact Xx Wc hor1),rfl,rfl,rfl⟩ (wk [2,2,2,0,1] (fw (fr (ZO k fl))))))))))))))
  exact az (Z0 3 (Zp (Zj none (k:Int) 1 (Y5 ho1)) (Z0 1 (iL (Z6 [o1]) 1 1 fun v6=>ZM 0 [(66,Z3 [o1])] (ip 5 (Z6 (dr++[o1])) (Z6 dr) (Z6 [o1]) w none 1 (YG _) (YG _) (W4 _) (by simp<;>omega) (by simp [W3,Z6]) fun v7=>Z2 (az (Z0 1 (ZE k (Z2 (ZJ ⟨k+1,ms,u,(dr++[o1]),v7,ob,ob,ob,(by first|exact YJ|exact Xx YJ hor1),(by first|exact Wc|exact Xx Wc hor1),rfl,rfl,rfl⟩ (wk [2,2,2,2,0] (fw (fr (ZO k fl))))))))))))))
 refine ax 0 (ar (iL (Z6 []) 0 1 fun v8=>?_))
 refine Z2 (Y0 (ab 2 (Y3 (fun fz gz m F h=>∃(k:Nat) (ps:LI) (w2:Value),(k<=fds.length)/\(ps.length<=k)/\(∀v∈ps,(mm:Int)<=v/\v<((mm+fds.length:Nat):Int))/\F=sF [2,5,6,9,12,13,14,15,16,17] fz [(19,ZV ps w2),(20,.i k)]/\h=[Zg gz 1,Zg gz 2,Zg gz 3,Zg gz 4,Zg gz 5,.tail w2 1]/\m=fds.length-k) _ _ _ ⟨0,[],v8,ob,ob,(fun v hv=>by cases hv),rfl,rfl,rfl⟩ (wk [1,1,1,1,1,0] (fr (Yd fl))) ?_)))
 rintro m F h ⟨k,ps,w2,U7,Wb,XV,rfl,rfl,rfl⟩
 refine YQ 2 (iw (Yc fds) (ZZ ((k:Int)<(fds.length:Int)) (fun ZB=>?_) (fun ZB=>?_)))
 ·refine ak (aq (ab 3 (Yf 2 ?_)))
  obtain ⟨x1,Z4⟩:=Zv fds k om
  refine Zp (Zj none (k:Int) 1 (Y5 Z4)) (Xp [2,5,6,9,12,13,14,15,16,17,19,20] [(86,.b ((x1 != 0)&&(decide (((us.length+k:Nat):Int)∈(UJ (((us++fds).length:Nat):Int) kd [])))))] (fun gz=>gz) ?_ ?_)
  ·refine Z0 3 (ib (b:=(x1 != 0)) 80 (fun ZF=>?_) (fun ZF=>?_))
   ·exact Z0 3 (ia (((us.length+k:Nat):Int)) (((us.length:Int))+((k:Int))) (Zu [] (Uz (UJ (((us++fds).length:Nat):Int) kd []) ((us.length+k:Nat):Int)) (Z2 (Zw 6 (Zl (decide (((us.length+k:Nat):Int)∈(UJ (((us++fds).length:Nat):Int) kd []))) ZF fl)))))
   exact Z2 (Zw 6 (Zl false ZF fl))
  refine ac ((x1 != 0)&&(decide (((us.length+k:Nat):Int)∈(UJ (((us++fds).length:Nat):Int) kd [])))) (p:=(x1≠0)/\(((us.length+k:Nat):Int)∈(UJ (((us++fds).length:Nat):Int) kd []))) (YI Yv dq) (fun Ye=>?_) (fun Ye=>?_)
  ·exact az (Z0 3 (ia (((us.length+k:Nat):Int)) (((us.length:Int))+((k:Int))) (iL (Z6 [((us.length+k:Nat):Int)]) 1 1 fun v9=>ZM 0 [(91,Z3 [((us.length+k:Nat):Int)])] (ip 6 (Z6 (ps++[((us.length+k:Nat):Int)])) (Z6 ps) (Z6 [((us.length+k:Nat):Int)]) w2 none 1 (YG _) (YG _) (W4 _) (by simp<;>omega) (by simp [W3,Z6]) fun v10=>Z2 (az (Z0 1 (ZE k (Z2 (ZJ ⟨k+1,(ps++[((us.length+k:Nat):Int)]),v10,ob,ob,(by first|exact XV|exact Xx XV om),rfl,rfl,rfl⟩ (wk [2,2,2,2,2,0] (fr (ZO k fl))))))))))))
  exact ak (az (Z0 1 (ZE k (Z2 (ZJ ⟨k+1,ps,w2,ob,ob,(by first|exact XV|exact Xx XV om),rfl,rfl,rfl⟩ (Zw 6 (fr (ZO k fl))))))))
 refine ax 2 (ar (ZM 1 [(93,Z3 ps)] (ic [] (Kf 14 ps) ?_)))
 rintro _ _ ⟨v11,rfl,rfl⟩
 refine ZM 1 [(95,Z3 dr)] (ic [] (Kf 15 dr) ?_)
 rintro _ _ ⟨v12,rfl,rfl⟩
 refine ZM 0 [(96,Vb (dr.map (Zt 15)))] (ip 1 (ZL ((ps.map (Zt 14))++(dr.map (Zt 15)))) (ZL (ps.map (Zt 14))) (ZL (dr.map (Zt 15))) v11 none 5 (XC _) (XC _) (Ua _) (by simp<;>omega) (by simp [Vg,ZL]) fun v13=>?_)
 refine Z2 (aD 12 (ZU 5 12 [0,1,2,3,4,6,7] [4,3] (AY (fun fz gz F h=>∃(y1:Z7) (b4:Nat) (zs1:LI),(zs1.length<=ls.length/\∀z∈zs1,z∈ls)/\(KB n.decls n.routines.length (mm+fds.length) y1 (4500*kd.sz))/\F=sF [12,21] fz [(22,.p b4 0)]/\h=[.obj b4 (XR y1),Zg gz 0,Zg gz 1,Zg gz 2,Zg gz 3,Zg gz 4,Zg gz 6,Zg gz 7]) ?_ ?_)))
 ·refine U9 5 10 ?_ ?_
  ·refine dp 5 5 [1,2] [b2,b1] (Z6 (ms++ps)) (Z6 ms) (Z6 ps) u (some w2) 1 (YG _) (YG _) (W4 _) (by simp<;>omega) (by simp [W3,Z6]) fun v14=>U9 8 10 ?_ ?_
   ·refine dc 8 [] [1,2] [b2,b1] (Ia ls (us.length:Int)) ?_
    rintro _ _ ⟨zs1,v15,rfl,rfl,Xg⟩
    have hbl:=Xg
    refine Yq 3 3 [] [(103,Z3 (ms++ps)),(106,Z3 zs1)] (U9 9 10 ?_ ?_)
    ·refine dc 9 [] [] [] (ih (us++fds) kd (ms++ps) zs1 (mm+fds.length) hf hop (by rw [Yl,hul]) ob (fun v hv=>by rcases Xj.1 hv with h|h;exact (by have:=YJ v h;omega);exact (by have:=XV v h;omega)) (by rw [Yl];omega) ob ob ob) ?_
     rintro _ _ ⟨y1,rfl,rfl,XQ⟩
     have hkb:=XQ
     have hkl:=hkb.len
     exact Z8 10 (dA 10 [] [] [nl,.i 0] fun b4=>Z8 11 (YZ 11 0 [] [] b4 (XR y1) (de (ZD ⟨_,b4,_,(by assumption),(by assumption),rfl,rfl⟩ (wk [0,2,2,2,2,2,2,2] fl)))))
    refine dA 10 [1,2] [b2,b1] [nl,.i 0] fun b5=>Z8 9 (dc 9 [] [] [] (ih (us++fds) kd (ms++ps) zs1 (mm+fds.length) hf hop (by rw [Yl,hul]) ob (fun v hv=>by rcases Xj.1 hv with h|h;exact (by have:=YJ v h;omega);exact (by have:=XV v h;omega)) (by rw [Yl];omega) ob ob ob) ?_)
    rintro _ _ ⟨y2,rfl,rfl,Wf⟩
    have hkb:=Wf
    have hkl:=hkb.len
    exact Z8 11 (YZ 11 0 [] [] b5 (XR y2) (de (ZD ⟨_,b5,_,(by assumption),(by assumption),rfl,rfl⟩ (wk [0,2,2,2,2,2,2,2] fl))))
   refine dA 10 [1,2] [b2,b1] [nl,.i 0] fun b6=>Z8 8 (dc 8 [] [2,3] [b2,b1] (Ia ls (us.length:Int)) ?_)
   rintro _ _ ⟨zs2,v16,rfl,rfl,WY⟩
   have hbl:=WY
   refine Yq 2 2 [] [(103,Z3 (ms++ps)),(106,Z3 zs2)] (Z8 9 (dc 9 [] [] [] (ih (us++fds) kd (ms++ps) zs2 (mm+fds.length) hf hop (by rw [Yl,hul]) ob (fun v hv=>by rcases Xj.1 hv with h|h;exact (by have:=YJ v h;omega);exact (by have:=XV v h;omega)) (by rw [Yl];omega) ob ob ob) ?_))
   rintro _ _ ⟨y3,rfl,rfl,Vp⟩
   have hkb:=Vp
   have hkl:=hkb.len
   exact Z8 11 (YZ 11 1 [] [] b6 (XR y3) (de (ZD ⟨_,b6,_,(by assumption),(by assumption),rfl,rfl⟩ (wk [0,2,2,2,2,2,2,2] fl))))
  refine dA 10 [1,2] [b2,b1] [nl,.i 0] fun b7=>Yq 4 4 [] [(102,Z3 ps)] (Z8 5 (dp 5 6 [2,3] [b2,b1] (Z6 (ms++ps)) (Z6 ms) (Z6 ps) u none 1 (YG _) (YG _) (W4 _) (by simp<;>omega) (by simp [W3,Z6]) fun v17=>Z8 8 (dc 8 [] [2,3] [b2,b1] (Ia ls (us.length:Int)) ?_)))
  rintro _ _ ⟨zs3,v18,rfl,rfl,UY⟩
  have hbl:=UY
  refine Yq 2 2 [] [(103,Z3 (ms++ps)),(106,Z3 zs3)] (Z8 9 (dc 9 [] [] [] (ih (us++fds) kd (ms++ps) zs3 (mm+fds.length) hf hop (by rw [Yl,hul]) ob (fun v hv=>by rcases Xj.1 hv with h|h;exact (by have:=YJ v h;omega);exact (by have:=XV v h;omega)) (by rw [Yl];omega) ob ob ob) ?_))
  rintro _ _ ⟨y4,rfl,rfl,Tp⟩
  have hkb:=Tp
  have hkl:=hkb.len
  exact Z8 11 (YZ 11 2 [] [] b7 (XR y4) (de (ZD ⟨_,b7,_,(by assumption),(by assumption),rfl,rfl⟩ (wk [0,2,2,2,2,2,2,2] fl))))
 rintro F h ⟨y1,b4,zs1,Xg,XQ,rfl,rfl⟩
 have hbl:=Xg
 have hkb:=XQ
 have hkl:=hkb.len
 exact aD 8 (ZU 3 8 [0,1,2,4,5] [0,0] (Z8 3 (dp 3 1 [0] [b4] (ZL (((ps.map (Zt 14))++(dr.map (Zt 15)))++y1.steps)) (ZL ((ps.map (Zt 14))++(dr.map (Zt 15)))) (ZL y1.steps) v13 none 5 (XC _) (XC _) (Ua _) (by simp<;>omega) (by simp [Vg,ZL]) fun v19=>Zs 1 2 [6] (Z8 7 (YZ 7 3 [] [] b3 [Xc (((ps.map (Zt 14))++(dr.map (Zt 15)))++y1.steps) v19,.i y1.result] (de (ZT (r3 [] [.agg [Xc (((ps.map (Zt 14))++(dr.map (Zt 15)))++y1.steps) v19,.i y1.result]] [0] [(b3,b3)] ⟨(Z7.mk (((ps.map (Zt 14))++(dr.map (Zt 15)))++y1.steps) y1.result),rfl,rfl,((hkb.put (fun v hv=>by have:=XV v hv;omega) (fun v hv=>by have:=Wc v hv;omega)).le om)⟩ (Zd.agg (.cons (Zd.forget _ _) (.cons (lr _) .nil)))))))))))
theorem Z4y (n:ZC) (us:LI) (s:Z5) (os:LI) (ls:LI) (mm:Nat) (bb:Nat) (hn:Xr n:=by exact ob) (hf:FS n.decls n.routines.length mm s:=by exact ob) (h11:s.op<=11:=by exact ob) (hop:QG WD s.kids:=by exact ob) (hul:us.length=mm:=by exact ob) (hm:mm+4*s.sz<=100000:=by exact ob) (hor:∀v∈os,0<=v/\v<(mm:Int)) (hol:os.length+4*s.sz<=730:=by exact ob) (hal:ls.length+2000*s.sz<=1000000:=by exact ob) (hbz:s.sz<=500:=by exact ob) (hb:s.sz<=bb:=by exact ob) (ih:∀(us2:LI) (b2:Z7) (os2:LI) (as2:LI) (m2:Nat),(fB n.decls n.routines.length m2 b2)->(Vc WD b2)->(us2.length=m2)->(m2+4*b2.sz<=100000)->(∀v∈os2,0<=v/\v<(m2:Int))->(os2.length+4*b2.sz<=730)->(as2.length+2000*b2.sz<=1000000)->(b2.sz<=500)->(b2.sz<bb)->Zo 156 [YB n,Z3 us2,Yh b2,Z3 os2,Z3 as2] [] (fun r h=>∃(y:Z7),r=Yh y/\h=[]/\KB n.decls n.routines.length m2 y (4500*b2.sz))):Zo 192 [YB n,Z3 us,X0 s,Z3 os,Z3 ls] [] (fun r h=>∃(y:Z5),r=X0 y/\h=[]/\KT n.decls n.routines.length mm y (4500*YS s.kids+4420)):=by
 have Xl:=hn.decls
 have hkf:=hf.few Xl
 have hsa:=hf.alen
 refine ZG 62 Tryz.func192 (ar (iA (X4 n) fun b1=>iA (W8 s) fun b2=>iA [.i 0,.i 0,.i 0,nl,nl] fun b3=>ie (ar (iL (XM []) 0 2 fun v1=>Z2 (Zq 4 [3,2] (ic [] (KL n.decls s.num) ?_))))))
 rintro _ _ ⟨v2,rfl,rfl⟩
 refine Z2 (Y0 (ab 0 (Y3 (fun fz gz m F h=>∃(k:Nat) (ks:List Z7) (u:Value),(k<=s.kids.length)/\(ks.length=k)/\(KK n.decls n.routines.length (WL n.decls s.op s.num mm) ks (4500*YS (s.kids.take k)+1470*k))/\F=sF [1,3,4,5,7,10] fz [(11,Q2 ks u),(12,Z3 (ZQ n.decls s.num)),(13,.i k)]/\h=[Zg gz 2,Zg gz 3,Zg gz 4,.tail u 2]/\m=s.kids.length-k) _ _ _ ⟨0,[],v1,ob,ob,(KK.nil.le (QS _)),rfl,rfl,rfl⟩ (wk [2,2,2,1] (fr (fc (x:=ZV (ZQ n.decls s.num) v2) (Zd.forget _ _) (Yd fl)))) ?_)))
 rintro m F h ⟨k,ks,u,Yk,Zh,Zy,rfl,rfl,rfl⟩
 refine Yr 3 [1] (iw (QZ s.kids) (ZZ ((k:Int)<(s.kids.length:Int)) (fun Z9=>?_) (fun Z9=>?_)))
 ·refine ak (aq (ab 1 (ar (iL (Z6 []) 0 1 fun v3=>?_))))
  refine Z2 (Xd (WT [2] (Xs (fun fz gz F h=>∃(fds:LI),(WL n.decls s.op s.num mm k=mm+fds.length)/\(fds.length<=3)/\F=sF [1,3,4,5,7,10,11,12,13] fz [(14,Z3 fds)]/\h=[Zg gz 1,Zg gz 2,Zg gz 3,Zg gz 4]) ?_ ?_)))
  ·refine ac (s.op==8) Zf (fun Zi=>?_) (fun Zi=>?_)
   ·refine aE 8 (ZU 4 8 [0,1,2,3] [3] ?_)
    obtain ⟨x1,Z4⟩:=Zv (ZQ n.decls s.num) k (by have:=hf.k8 (by assumption);omega)
    have hcf:=V5 Xl x1
    exact dx 4 (Zj none (k:Int) 1 (Y5 Z4)) (Zs 2 3 [5] (Z8 6 (YH 6 [] [] [] (Q3 n.decls x1) (Zs 0 1 [7] (de (ZD ⟨ZK n.decls x1,(Ln (by assumption) Z4),ob,rfl,rfl⟩ (wk [1,1,1,1] fl)))))))
   exact ak (ZD ⟨[],(by rw [Lo (by assumption)];rfl),ob,rfl,rfl⟩ (wk [1,1,1,1] fl))
  rintro F h ⟨fds,Vr,Aw,rfl,rfl⟩
  refine aE 15 (ZU 8 15 [0,1,2,3,4,5,6] [2,1] ?_)
  obtain ⟨x2,Zx⟩:=Zv s.kids k om
  have hkz:=Q0 Zx
  have hfk:=B4 hf.kids Zx
  rw [Wh,Vr] at hfk
  have hok:=Dg.1 hop x2 (Y2 Zx)
  have hbt:=F4 Zx
  have hba:=F5 Zx
  refine dx 7 (Zj none (k:Int) 2 (UE Zx)) (Zs 4 7 [8,9,10] (Z8 11 (dc 11 [] [] [] (Z4x n us fds x2 os ls mm bb (hf:=hfk) (hop:=hok) (hor:=hor) (ih:=ih)) ?_)))
  rintro _ _ ⟨y1,rfl,rfl,Y6⟩
  have hkb:=Y6
  exact Z8 12 (Wx 12 [] [] [Yh y1] (XM [y1]) (Qv [y1]).symm 1 2 fun v4=>Yq 2 2 [] [(51,Jh [y1])] (Z8 13 (dp 13 4 [] [] (XM (ks++[y1])) (XM ks) (XM [y1]) u none 2 (Ks _) (Ks _) (Fe _) (by simp<;>omega) (by simp [BT,XM]) fun v5=>Zs 0 1 [14] (de (az (Z0 1 (ZE k (Z2 (ZJ ⟨k+1,(ks++[y1]),v5,ob,ob,((Zy.snoc Zh (by rw [Vr];exact hkb)).le om),rfl,rfl,rfl⟩ (wk [2,2,2,0] (fw (ZO k fl))))))))))))
 refine ax 0 (aD 10 (ZU 3 10 [0,1,2,3,4,5,7] [1,1,1] (Z8 6 (dc 6 [] [1,1] [b2,b2] (WI s.args) ?_))))
 rintro _ _ ⟨v6,rfl,rfl⟩
 exact Zs 1 2 [8] (Z8 9 (YZ 9 1 [] [] b3 [.i s.op,.i s.num,.i 0,ZV s.args v6,Q2 ks u] (de (ZT (r3 [] [.agg [.i s.op,.i s.num,.i 0,ZV s.args v6,Q2 ks u]] [0] [(b3,b3)] ⟨(Z5.mk s.op s.num 0 s.args ks),rfl,rfl,((KT.of (into:=0) hf h11 om om Zy).le (by have:=Ho (xs:=s.kids) (k:=k) om;omega))⟩ (Zd.agg (.cons (lr _) (.cons (lr _) (.cons (lr _) (.cons (Zd.forget _ _) (.cons (Zd.forget _ _) .nil)))))))))))
theorem Z4v (n:ZC) (us:LI) (b:Z7) (os:LI) (ls:LI) (mm:Nat) (hn:Xr n) (hf:fB n.decls n.routines.length mm b) (hop:Vc WD b) (hul:us.length=mm) (hm:mm+4*b.sz<=100000) (hor:∀v∈os,0<=v/\v<(mm:Int)) (hol:os.length+4*b.sz<=730) (hal:ls.length+2000*b.sz<=1000000) (hbz:b.sz<=500) (ih:∀(us2:LI) (b2:Z7) (os2:LI) (as2:LI) (m2:Nat),(fB n.decls n.routines.length m2 b2)->(Vc WD b2)->(us2.length=m2)->(m2+4*b2.sz<=100000)->(∀v∈os2,0<=v/\v<(m2:Int))->(os2.length+4*b2.sz<=730)->(as2.length+2000*b2.sz<=1000000)->(b2.sz<=500)->(b2.sz<b.sz)->Zo 156 [YB n,Z3 us2,Yh b2,Z3 os2,Z3 as2] [] (fun r h=>∃(y:Z7),r=Yh y/\h=[]/\KB n.decls n.routines.length m2 y (4500*b2.sz))):Zo 156 [YB n,Z3 us,Yh b,Z3 os,Z3 ls] [] (fun r h=>∃(y:Z7),r=Yh y/\h=[]/\KB n.decls n.routines.length mm y (4500*b.sz)):=by
 have Xl:=hn.decls
 have hbe:=b.sz_eq
 have ZI:=Uk b
 obtain ⟨hfs,hr1,hr2⟩:=(Kt b).1 hf
 have hos:=Ch.1 ((G7 b).1 hop)
 have hdn:=HB hos
 have hdl:=hdn b.steps.length (X7 _)
 rw [Uf] at hdl
 refine ZG 149 Tryz.func156 (ar (iA (X4 n) fun b1=>iA (XR b) fun b2=>iA [nl,.i 0] fun b3=>ie (ar (iL (ZL []) 0 5 fun v1=>Z2 (Yf 1 (ic [] (WI us) ?_))))))
 rintro _ _ ⟨v2,rfl,rfl⟩
 refine Z2 (Yf 1 (ic [] (WI os) ?_))
 rintro _ _ ⟨v3,rfl,rfl⟩
 refine Z2 (Y0 (ab 0 (Y3 (fun fz gz m F h=>∃(k:Nat) (vs:LI) (w:Value) (ms:LI) (u:Value) (xs:List Z5) (v:Value),(k<=b.steps.length)/\(vs.length=mm+k)/\(CL n.decls n.routines.length mm xs k (4500*Yo (b.steps.take k)))/\(ms.length<=os.length+k)/\(∀v∈ms,0<=v/\v<((mm+k:Nat):Int))/\F=sF [4,5,7,10] fz [(11,Xc xs v),(12,ZV vs w),(13,ZV ms u),(14,.i k)]/\h=[Zg gz 3,Zg gz 4,Zg gz 5,.tail u 1,.tail v 5,.tail w 1]/\m=b.steps.length-k) _ _ _ ⟨0,us,v2,os,v3,[],v1,ob,ob,CL.nil,ob,hor,rfl,rfl,rfl⟩ (wk [3,3,3,0,1,0] (fw (fr (Yd fl)))) ?_)))
 rintro m F h ⟨k,vs,w,ms,u,xs,v,Yk,Zh,Zy,YJ,Wc,rfl,rfl,rfl⟩
 refine Yr 3 [1] (iw (Up b.steps) (ZZ ((k:Int)<(b.steps.length:Int)) (fun Z9=>?_) (fun Z9=>?_)))
 ·refine ak (aq (ab 1 (Zq 3 [1] ?_)))
  obtain ⟨x1,Z4⟩:=Zv b.steps k om
  have XL:=Cm Z4
  have hfS:=(An x1).1 (CU hfs Z4)
  rw [hdn k om] at hfS
  have hoS:=(El x1).1 (hos x1 (Y2 Z4))
  have htk:=GH Z4
  have hse:=(x1).sz_eq
  have hal4:=hfS.alen
  have hxl:=Zy.len
  have htl:=Kh b.steps (k+1)
  have hsd:=RY b.steps (k+1)
  have hul2:=LP (n:=((vs.length+1:Nat):Int)) (b.steps.drop (k+1)) []
  have hul3:=GQ (n:=((vs.length+1:Nat):Int)) (UK ((vs.length+1:Nat):Int) (b.steps.drop (k+1)) []) b.result
  simp only [X5,Wh] at hul2
  refine Zp (Zj none (k:Int) 5 (WV Z4)) (Z0 1 (iA [.i 0,.i 0,.i 0,nl,nl] fun b4=>Zz 0 b4 (W8 x1) (ie (Yf 1 (iw (Yc vs) (Z2 (ar (QM 3 [(41,Z3 vs)] [3,0] (Zu [] (Ly n vs x1 ob ob) (Z2 (Zq 2 [2] (ia (((vs.length+1:Nat):Int)) (((vs.length:Int))+(1)) (Z0 1 (ZE k (iL (Z6 []) 0 1 fun v4=>ZM 0 [(49,Z3 [])] (Zu [] (Rz b ((vs.length+1:Nat):Int) (k+1) [] (hk:=om) (hz:=(by simp only [X5];omega))) (Z0 1 (ic [] (Z65 (UA ((vs.length+1:Nat):Int) (UK ((vs.length+1:Nat):Int) (b.steps.drop (k+1)) []) b.result) ls) ?_))))))))))))))))))
  rintro _ _ ⟨zs1,rfl,rfl,Y6⟩
  have hun:=Y6
  refine Z2 (ar (QM 6 [(55,Z3 vs),(57,Z3 ms)] [4,1] (ic [] (Z52 n vs x1 ms zs1 (mm+k) (hf:=hfS)) ?_)))
  rintro _ _ ⟨zs2,rfl,rfl,Yt⟩
  have hdu:=Yt
  have hq1:=Zy.cnts (op:=14) (.inl rfl) (vs:=zs2) (fun v hv=>hfS.args v (hdu.2 v hv))
  have hl1:=hq1.len
  refine ic [] (Kf 14 zs2) ?_
  rintro _ _ ⟨v5,rfl,rfl⟩
  refine ZM 0 [(60,Vb (zs2.map (Zt 14)))] (ip 7 (ZL (xs++(zs2.map (Zt 14)))) (ZL xs) (ZL (zs2.map (Zt 14))) v none 5 (XC _) (XC _) (Ua _) (by simp<;>omega) (by simp [Vg,ZL]) fun v6=>Z2 (ar (QM 6 [(64,Z3 vs),(66,Z3 ms)] [6,3] (ic [] (Z4y n vs x1 ms zs1 (mm+k) b.sz (hf:=hfS) (h11:=hoS.1) (hop:=hoS.2) (hor:=Wc) (ih:=ih)) ?_))))
  rintro _ _ ⟨y1,rfl,rfl,YP⟩
  have hkt:=YP
  have hq2:=hq1.kt hkt
  have hl2:=hq2.len
  refine Uv [X0 y1] (ZL [y1]) (VQ [y1]).symm 1 5 fun v7=>ZM 0 [(69,Vb [y1])] (ip 1 (ZL ((xs++(zs2.map (Zt 14)))++[y1])) (ZL (xs++(zs2.map (Zt 14)))) (ZL [y1]) v6 none 5 (XC _) (XC _) (Ua _) (by simp<;>omega) (by simp [Vg,ZL]) fun v8=>Z2 (ar (QM 5 [(72,Z3 vs),(74,Z3 ms)] [7,4] (ic [] (Z5h n vs x1 ms zs1 (mm+k) (hf:=hfS)) ?_))))
  rintro _ _ ⟨zs3,v9,rfl,rfl,X2⟩
  have hla:=X2
  refine Z2 (ar (QM 4 [(79,Z3 zs3)] [8,5] (ic [] (Z5i n x1 zs3 zs1 (mm+k) (hf:=hfS)) ?_)))
  rintro _ _ ⟨zs4,rfl,rfl,Xg⟩
  have hld:=Xg
  have hq3:=hq2.cnts (op:=15) (.inr rfl) (vs:=zs4) (fun v hv=>by have:=hfS.args v (hld.2 v hv);omega)
  have hl3:=hq3.len
  refine Z2 (Yf 2 (ic [] (Kf 15 zs4) ?_))
  rintro _ _ ⟨v10,rfl,rfl⟩
  refine ZM 0 [(84,Vb (zs4.map (Zt 15)))] (ip 2 (ZL (((xs++(zs2.map (Zt 14)))++[y1])++(zs4.map (Zt 15)))) (ZL ((xs++(zs2.map (Zt 14)))++[y1])) (ZL (zs4.map (Zt 15))) v8 none 5 (XC _) (XC _) (Ua _) (by simp<;>omega) (by simp [Vg,ZL]) fun v11=>?_)
  refine Z2 (Y0 (ab 2 (Y3 (fun fz gz m F h=>∃(j:Nat) (m3:LI) (u3:Value) (v3:Value) (w3:Value),(j<=zs4.length)/\(m3.length<=os.length+k)/\(∀v∈m3,0<=v/\v<((mm+k:Nat):Int))/\F=sF [4,5,7,10,14,16,17,18,19] fz [(11,Xc (((xs++(zs2.map (Zt 14)))++[y1])++(zs4.map (Zt 15))) v3),(12,ZV vs w3),(13,ZV m3 u3),(20,.i j)]/\h=[Zg gz 7,Zg gz 8,Zg gz 9,.tail u3 1,.tail v3 5,.tail w3 1]/\m=zs4.length-j) _ _ _ ⟨0,zs3,v9,v11,w,ob,ob,(fun v hv=>Wc v (hla.2 v hv)),rfl,rfl,rfl⟩ (wk [7,7,7,2,0,6] (fw (fr (Yd fl)))) ?_)))
  rintro m F h ⟨j,m3,u3,v3,w3,U7,Wb,XV,rfl,rfl,rfl⟩
  refine YQ 2 (iw (Yc zs4) (ZZ ((j:Int)<(zs4.length:Int)) (fun Zi=>?_) (fun Zi=>?_)))
  ·refine ak (aq (ab 3 (az (Z0 3 ?_))))
   obtain ⟨x2,Zx⟩:=Zv zs4 j om
   refine Zp (Zj none (j:Int) 1 (Y5 Zx)) (ZM 1 [(92,Z3 m3)] (ic [] (NU m3 x2) ?_))
   rintro _ _ ⟨v12,rfl,rfl⟩
   exact Z2 (az (Z0 1 (ZE j (Z2 (ZJ ⟨j+1,(TF m3 x2),v12,v3,w3,ob,(V3 (Em _ _) Wb),(fun v hv=>XV v (Di hv)),rfl,rfl,rfl⟩ (wk [1,1,1,0,1,1] (fw (fr (ZO j fl)))))))))
  refine ax 2 (Yf 2 (iL (Z6 [YY n vs x1]) 1 1 fun v13=>ZM 0 [(100,Z3 [YY n vs x1])] (ip 6 (Z6 (vs++[YY n vs x1])) (Z6 vs) (Z6 [YY n vs x1]) w3 none 1 (YG _) (YG _) (W4 _) (by simp<;>omega) (by simp [W3,Z6]) fun v14=>Z2 (ar (Xp [4,5,7,10,11,12,13,14,16,17] [(108,.b (((YY n vs x1) != 0)&&(decide ((vs.length:Int)∈zs1))))] (fun gz=>gz) ?_ ?_)))))
  ·refine Z0 3 (ib (b:=((YY n vs x1) != 0)) 104 (fun Zc=>?_) (fun Zc=>?_))
   ·exact Z0 2 (Zu [] (Uz zs1 (vs.length:Int)) (Z2 (Zw 7 (Zl (decide ((vs.length:Int)∈zs1)) Zc fl))))
   exact Z2 (Zw 7 (Zl false Zc fl))
  refine ac (((YY n vs x1) != 0)&&(decide ((vs.length:Int)∈zs1))) (p:=((YY n vs x1)≠0)/\((vs.length:Int)∈zs1)) (YI Yv dq) (fun ZB=>?_) (fun ZB=>?_)
  ·exact az (Z0 2 (iL (Z6 [(vs.length:Int)]) 1 1 fun v15=>ZM 0 [(111,Z3 [(vs.length:Int)])] (ip 6 (Z6 (m3++[(vs.length:Int)])) (Z6 m3) (Z6 [(vs.length:Int)]) u3 none 1 (YG _) (YG _) (W4 _) (by simp<;>omega) (by simp [W3,Z6]) fun v16=>Z2 (az (Z0 1 (ZE k (Z2 (ZJ ⟨k+1,(vs++[YY n vs x1]),v14,(m3++[(vs.length:Int)]),v16,(((xs++(zs2.map (Zt 14)))++[y1])++(zs4.map (Zt 15))),v3,ob,ob,(by first|exact hq3.le om|exact (hq3.cnt (op:=15) (.inr rfl) om).le om),ob,(by first|exact Xx (fun v hv=>by have:=XV v hv;omega) om|exact (fun v hv=>by have:=XV v hv;omega)),rfl,rfl,rfl⟩ (wk [4,4,4,0,3,1] (fw (fr (ZO k fl))))))))))))
  refine ar (YC ((YY n vs x1) != 0) Yv (fun Ye=>?_) (fun Ye=>?_))
  ·exact az (Z0 2 (Zu [] (Br 15 (vs.length:Int)) (Uv [X0 (Zt 15 (vs.length:Int))] (ZL [(Zt 15 (vs.length:Int))]) (VQ [(Zt 15 (vs.length:Int))]).symm 1 5 fun v17=>ZM 0 [(118,Vb [(Zt 15 (vs.length:Int))])] (ip 7 (ZL ((((xs++(zs2.map (Zt 14)))++[y1])++(zs4.map (Zt 15)))++[(Zt 15 (vs.length:Int))])) (ZL (((xs++(zs2.map (Zt 14)))++[y1])++(zs4.map (Zt 15)))) (ZL [(Zt 15 (vs.length:Int))]) v3 none 5 (XC _) (XC _) (Ua _) (by simp<;>omega) (by simp [Vg,ZL]) fun v18=>Z2 (az (Z0 1 (ZE k (Z2 (ZJ ⟨k+1,(vs++[YY n vs x1]),v14,m3,u3,((((xs++(zs2.map (Zt 14)))++[y1])++(zs4.map (Zt 15)))++[(Zt 15 (vs.length:Int))]),v18,ob,ob,(by first|exact hq3.le om|exact (hq3.cnt (op:=15) (.inr rfl) om).le om),ob,(by first|exact Xx (fun v hv=>by have:=XV v hv;omega) om|exact (fun v hv=>by have:=XV v hv;omega)),rfl,rfl,rfl⟩ (wk [4,4,4,4,0,1] (fw (fr (ZO k fl)))))))))))))
  exact ak (az (Z0 1 (ZE k (Z2 (ZJ ⟨k+1,(vs++[YY n vs x1]),v14,m3,u3,(((xs++(zs2.map (Zt 14)))++[y1])++(zs4.map (Zt 15))),v3,ob,ob,(by first|exact hq3.le om|exact (hq3.cnt (op:=15) (.inr rfl) om).le om),ob,(by first|exact Xx (fun v hv=>by have:=XV v hv;omega) om|exact (fun v hv=>by have:=XV v hv;omega)),rfl,rfl,rfl⟩ (wk [2,2,2,2,2,0] (fw (fr (ZO k fl)))))))))
 have hxl:=Zy.len
 have htl:=Kh b.steps k
 refine ax 0 (Yr 3 [1] ?_)
 obtain ⟨x3,YU⟩:=Zv vs b.result.toNat om
 refine Zp (Zj (some w) b.result 1 (Y5 YU)) (Xp [7,10,11] [(138,.b ((x3 != 0)&&((decide (b.result∈ls))||(!(decide (b.result∈ms))))))] (fun gz=>gz) ?_ ?_)
 ·refine Z0 3 (ib (b:=(x3 != 0)) 126 (fun ZF=>?_) (fun ZF=>?_))
  ·refine ZA 3 [1] (Zu [] (Uz ls b.result) (Z0 1 (ib (b:=(decide (b.result∈ls))) 131 (fun Ym=>?_) (fun Ym=>?_))))
   ·exact Z2 (Zw 6 (Zl true (And.intro ZF Ym) fl))
   exact QM 3 [(132,Z3 ms)] [1] (Zu [] (Uz ms b.result) (Z2 (Zw 6 (Zl (!(decide (b.result∈ms))) (And.intro ZF Ym) fl))))
  exact Z2 (Zw 6 (Zl false ZF fl))
 refine ac ((x3 != 0)&&((decide (b.result∈ls))||(!(decide (b.result∈ms))))) (p:=(x3≠0)/\((b.result∈ls)∨(¬(b.result∈ms)))) (YI Yv (ZY dq (Ys dq))) (fun YA=>?_) (fun YA=>?_)
 ·exact az (ZA 3 [1] (Zu [] (Br 14 b.result) (Uv [X0 (Zt 14 b.result)] (ZL [Zt 14 b.result]) (VQ [Zt 14 b.result]).symm 1 5 fun v19=>ZM 0 [(143,Vb [Zt 14 b.result])] (ip 5 (ZL (xs++[Zt 14 b.result])) (ZL xs) (ZL [Zt 14 b.result]) v none 5 (XC _) (XC _) (Ua _) (by simp<;>omega) (by simp [Vg,ZL]) fun v20=>Z2 (Zq 4 [3] (Zz 2 b3 [Xc (xs++[Zt 14 b.result]) v20,.i b.result] (ie (ZT (r3 [] [.agg [Xc (xs++[Zt 14 b.result]) v20,.i b.result]] [0] [(b3,b3)] ⟨(Z7.mk (xs++[Zt 14 b.result]) b.result),rfl,rfl,(((Zy.cnt (op:=14) (.inl rfl) om).block om).le (by have:=Kh b.steps k;omega))⟩ (Zd.agg (.cons (Zd.forget _ _) (.cons (lr _) .nil))))))))))))
 exact ak (Zq 4 [1] (Zz 0 b3 [Xc xs v,.i b.result] (ie (ZT (r3 [] [.agg [Xc xs v,.i b.result]] [0] [(b3,b3)] ⟨(Z7.mk xs b.result),rfl,rfl,((Zy.block om).le (by have:=Kh b.steps k;omega))⟩ (Zd.agg (.cons (Zd.forget _ _) (.cons (lr _) .nil))))))))
theorem Z4u (n:ZC) (us:LI) (b:Z7) (os:LI) (ls:LI) (mm:Nat) (hn:Xr n:=by exact ob) (hf:fB n.decls n.routines.length mm b:=by exact ob) (hop:Vc WD b:=by exact ob) (hul:us.length=mm:=by exact ob) (hm:mm+4*b.sz<=100000:=by exact ob) (hor:∀v∈os,0<=v/\v<(mm:Int)) (hol:os.length+4*b.sz<=730:=by exact ob) (hal:ls.length+2000*b.sz<=1000000:=by exact ob) (hbz:b.sz<=500:=by exact ob):Zo 156 [YB n,Z3 us,Yh b,Z3 os,Z3 ls] [] (fun r h=>∃(y:Z7),r=Yh y/\h=[]/\KB n.decls n.routines.length mm y (4500*b.sz)):=by
 have key:∀k:Nat,∀(us2:LI) (b2:Z7) (os2:LI) (as2:LI) (m2:Nat),(fB n.decls n.routines.length m2 b2)->(Vc WD b2)->(us2.length=m2)->(m2+4*b2.sz<=100000)->(∀v∈os2,0<=v/\v<(m2:Int))->(os2.length+4*b2.sz<=730)->(as2.length+2000*b2.sz<=1000000)->(b2.sz<=500)->(b2.sz<k)->Zo 156 [YB n,Z3 us2,Yh b2,Z3 os2,Z3 as2] [] (fun r h=>∃(y:Z7),r=Yh y/\h=[]/\KB n.decls n.routines.length m2 y (4500*b2.sz)):=by
  intro k
  induction k with
  | zero=>intro us2 b2 os2 as2 m2 h1 h2 h3 h4 h5 h6 h7 h8 h9;omega
  | succ k ih=>intro us2 b2 os2 as2 m2 h1 h2 h3 h4 h5 h6 h7 h8 h9;exact Z4v n us2 b2 os2 as2 m2 hn h1 h2 h3 h4 h5 h6 h7 h8 fun us3 b3 os3 as3 m3 q1 q2 q3 q4 q5 q6 q7 q8 q9=>ih us3 b3 os3 as3 m3 q1 q2 q3 q4 q5 q6 q7 q8 om
 exact key (b.sz+1) us b os ls mm hf hop hul hm hor hol hal hbz om
theorem Z4w (n:ZC) (rt:Yz) (qz:Nat) (hn:Xr n:=by exact ob) (hr:RF n.decls n.routines.length qz WD rt:=by exact ob) (hqz:qz<=181:=by exact ob):Zo 139 [YB n,Ju rt] [] (fun r h=>∃(y:Z7),r=Yh y/\h=[]/\KB n.decls n.routines.length rt.params.length y (4500*qz+10)):=by
 have hrp:rt.params.length<=3:=(T9.bd (f:=⟨rt.params,rt.result,default⟩) hr.sig).1
 have hrl:=hr.lent.1
 have hrz:=hr.body.2
 refine ZG 65 Tryz.func139 (ar (iA (X4 n) fun b1=>iA (Jd rt) fun b2=>iA [nl,.i 0] fun b3=>ie (Zq 4 [1,1] (iw (Yc rt.params) (Zu [] (RR rt.body (rt.params.length:Int)) ?_)))))
 have hub:=GO (n:=(rt.params.length:Int)) rt.body []
 simp only [X5,Wh] at hub
 refine Z2 (ar (iL (Z6 []) 0 1 fun v1=>Z2 (ar (iL (Z6 []) 0 1 fun v2=>?_))))
 refine Z2 (Y0 (ab 0 (Y3 (fun fz gz m F h=>∃(k:Nat) (os:LI) (u:Value) (dr:LI) (w:Value),(k<=rt.params.length)/\(os.length<=k)/\(dr.length<=k)/\(∀v∈os,0<=v/\v<(rt.params.length:Int))/\(∀v∈dr,0<=v/\v<(rt.params.length:Int))/\F=sF [2,3,4,5] fz [(6,ZV os u),(7,ZV dr w),(8,.i k)]/\h=[Zg gz 2,Zg gz 3,Zg gz 4,.tail u 1,.tail w 1]/\m=rt.params.length-k) _ _ _ ⟨0,[],v1,[],v2,ob,ob,ob,(fun v hv=>by cases hv),(fun v hv=>by cases hv),rfl,rfl,rfl⟩ (wk [2,2,2,1,0] (fw (Yd fl))) ?_)))
 rintro m F h ⟨k,os,u,dr,w,Yk,Zh,Zy,YJ,Wc,rfl,rfl,rfl⟩
 refine Yr 3 [1] (iw (Yc rt.params) (ZZ ((k:Int)<(rt.params.length:Int)) (fun Z9=>?_) (fun Z9=>?_)))
 ·refine ak (aq (ab 1 (Zq 3 [1] ?_)))
  obtain ⟨x1,Z4⟩:=Zv rt.params k om
  refine Zp (Zj none (k:Int) 1 (Y5 Z4)) (Xp [2,3,4,5,6,7,8] [(37,.b ((x1 != 0)&&(!(decide ((k:Int)∈rt.lent)))))] (fun gz=>gz) ?_ ?_)
  ·refine Z0 3 (ib (b:=(x1 != 0)) 31 (fun Zc=>?_) (fun Zc=>?_))
   ·exact ZA 3 [1] (Zu [] (Uz rt.lent (k:Int)) (Z2 (Zw 5 (Zl (!(decide ((k:Int)∈rt.lent))) Zc fl))))
   exact Z2 (Zw 5 (Zl false Zc fl))
  refine ac ((x1 != 0)&&(!(decide ((k:Int)∈rt.lent)))) (p:=(x1≠0)/\(¬((k:Int)∈rt.lent))) (YI Yv (Ys dq)) (fun Zi=>?_) (fun Zi=>?_)
  ·refine Yf 2 (Zu [] (Uz (UJ (rt.params.length:Int) rt.body []) (k:Int)) (ie (VI ((k:Int)∈(UJ (rt.params.length:Int) rt.body [])) (fun ZB=>?_) (fun ZB=>?_))))
   ·exact az (Z0 2 (iL (Z6 [(k:Int)]) 1 1 fun v3=>ZM 0 [(43,Z3 [(k:Int)])] (ip 4 (Z6 (os++[(k:Int)])) (Z6 os) (Z6 [(k:Int)]) u none 1 (YG _) (YG _) (W4 _) (by simp<;>omega) (by simp [W3,Z6]) fun v4=>Z2 (az (Z0 1 (ZE k (Z2 (ZJ ⟨k+1,(os++[(k:Int)]),v4,dr,w,ob,ob,ob,(by first|exact YJ|exact Xx YJ om),(by first|exact Wc|exact Xx Wc om),rfl,rfl,rfl⟩ (wk [2,2,2,0,1] (fw (ZO k fl)))))))))))
   exact az (Z0 2 (iL (Z6 [(k:Int)]) 1 1 fun v5=>ZM 0 [(47,Z3 [(k:Int)])] (ip 5 (Z6 (dr++[(k:Int)])) (Z6 dr) (Z6 [(k:Int)]) w none 1 (YG _) (YG _) (W4 _) (by simp<;>omega) (by simp [W3,Z6]) fun v6=>Z2 (az (Z0 1 (ZE k (Z2 (ZJ ⟨k+1,os,u,(dr++[(k:Int)]),v6,ob,ob,ob,(by first|exact YJ|exact Xx YJ om),(by first|exact Wc|exact Xx Wc om),rfl,rfl,rfl⟩ (wk [2,2,2,2,0] (fw (ZO k fl)))))))))))
  exact ak (az (Z0 1 (ZE k (Z2 (ZJ ⟨k+1,os,u,dr,w,ob,ob,ob,(by first|exact YJ|exact Xx YJ om),(by first|exact Wc|exact Xx Wc om),rfl,rfl,rfl⟩ (Zw 5 (fw (ZO k fl))))))))
 refine ax 0 (Zq 6 [2,1,1] (iL (Z6 []) 0 1 fun v7=>ZM 0 [(54,Z3 os),(55,Z3 [])] (ic [] (Z4u n rt.params rt.body os [] rt.params.length (hf:=hr.body.1) (hop:=hr.op) (hor:=YJ) (hal:=(by simp only [X5];omega))) ?_)))
 rintro _ _ ⟨y1,rfl,rfl,YP⟩
 have hkb:=YP
 have hkl:=hkb.len
 refine iA [nl,.i 0] fun b4=>Zz 0 b4 (XR y1) (ie (aD 9 (CH 4 9 [0,2,3,5,6] [(57,Z3 dr)] [0,0] (Z8 1 (dc 1 [] [0,0] [b4,b4] (Kf 15 dr) ?_)))))
 rintro _ _ ⟨v8,rfl,rfl⟩
 exact Z8 4 (dp 4 0 [0] [b4] (ZL ((dr.map (Zt 15))++y1.steps)) (ZL (dr.map (Zt 15))) (ZL y1.steps) v8 none 5 (XC _) (XC _) (Ua _) (by simp<;>omega) (by simp [Vg,ZL]) fun v9=>Zs 1 2 [7] (Z8 8 (YZ 8 3 [] [] b3 [Xc ((dr.map (Zt 15))++y1.steps) v9,.i y1.result] (de (ZT (r3 [] [.agg [Xc ((dr.map (Zt 15))++y1.steps) v9,.i y1.result]] [0] [(b3,b3)] ⟨(Z7.mk ((dr.map (Zt 15))++y1.steps) y1.result),rfl,rfl,((hkb.put1 (op:=15) (.inr rfl) Wc).le om)⟩ (Zd.agg (.cons (Zd.forget _ _) (.cons (lr _) .nil)))))))))
theorem Z4z (n:ZC) (qz:Nat) (hn:FO n qz WD:=by exact ob) (hqz:qz<=181:=by exact ob):Zo 112 [YB n] [] (fun r h=>∃(n2:ZC),r=YB n2/\h=[]/\FO n2 (4500*qz+10) Vl):=by
 have hnl:=hn.fn.len
 have Xl:=hn.fn.decls.ok
 have hok:=hn.fn.ok
 refine ZG 36 Tryz.func112 (ar (iA (X4 n) fun b1=>iA [nl,nl] fun b2=>ie (Zq 2 [1] (Zu [] (AF n.decls) (iL (X6 []) 0 5 fun v1=>Z0 1 (iA [nl,nl] fun b3=>?_))))))
 refine Zz 0 b3 [Ya n.decls,WG [] v1] (ie (Y0 (ab 0 (Y3 (fun fz gz m F h=>∃(k:Nat) (rs:List Yz) (u:Value),(k<=n.routines.length)/\(rs.length=k)/\(∀r∈rs,RF n.decls n.routines.length (4500*qz+10) Vl r)/\F=sF [1,2,3] fz [(4,.i k)]/\h=[.obj b3 [Ya n.decls,WG rs u],Zg gz 2,Zg gz 3,.tail u 5]/\m=n.routines.length-k) _ _ _ ⟨0,[],v1,ob,ob,(fun r hr=>by cases hr),rfl,rfl,rfl⟩ (wk [0,1,1,0] (Yd fl)) ?_))))
 rintro m F h ⟨k,rs,u,Yk,Zh,Zy,rfl,rfl,rfl⟩
 refine Yr 3 [2] (iw (TB n.routines) (ZZ ((k:Int)<(n.routines.length:Int)) (fun Z9=>?_) (fun Z9=>?_)))
 ·refine ak (aq (ab 1 (aE 19 (ZU 14 19 [0,1,2,3,4] [0,2] ?_))))
  obtain ⟨x1,Z4⟩:=Zv n.routines k om
  have hrf:=hn.rf (Y2 Z4)
  have hrp:(x1).params.length<=3:=(T9.bd (f:=⟨(x1).params,(x1).result,default⟩) hrf.sig).1
  have hrl:=hrf.lent.1
  have hrz:=hrf.body.2
  refine dx 5 (Zj none (k:Int) 5 (Vw Z4)) (ZU 8 13 [6,7,8,9,10] [2,2] (dx 11 (Zj none (k:Int) 5 (Vw Z4)) (Zs 6 7 [12] (Z8 13 (dc 13 [] [2,0] [b1,b3] (Z4w n x1 qz (hr:=hrf)) ?_)))))
  rintro _ _ ⟨y1,rfl,rfl,Y6⟩
  have hkb:=Y6
  exact Z8 14 (YH 14 [] [0] [b3] (Ds x1 y1 (hp:=om) (hl:=om)) (Z8 15 (dL 15 [0] [b3] (X6 [Yz.mk x1.params x1.lent x1.result y1]) 1 5 fun v2=>Yq 3 3 [] [(32,Ji [Yz.mk x1.params x1.lent x1.result y1])] (Z8 16 (dp 16 4 [] [] (X6 (rs++[Yz.mk x1.params x1.lent x1.result y1])) (X6 rs) (X6 [Yz.mk x1.params x1.lent x1.result y1]) u none 5 (UR _) (UR _) (B1 _) (by simp<;>omega) (by simp [CP,X6]) fun v3=>Zs 1 2 [17] (Z8 18 (YZ 18 2 [] [] b3 [Ya n.decls,WG (rs++[Yz.mk x1.params x1.lent x1.result y1]) v3] (de (az (Z0 1 (ZE k (Z2 (ZJ ⟨k+1,(rs++[Yz.mk x1.params x1.lent x1.result y1]),v3,ob,ob,(Xx Zy (by first|exact hrf.with hkb.fb hkb.sz hkb.op|(rw [Z7.eta];exact hrf.with hkb.fb hkb.sz hkb.op))),rfl,rfl,rfl⟩ (wk [0,2,2,0] (ZO k fl)))))))))))))))
 exact ax 0 (Zq 1 [0] (Zz 1 b2 [Ya n.decls,WG rs u] (ie (ZT (r3 [] [.agg [Ya n.decls,WG rs u]] [0] [(b2,b2)] ⟨(ZC.mk n.decls rs),rfl,rfl,(FO.fin hn.fn om Zy).1⟩ (Zd.agg (.cons (lr _) (.cons (Zd.forget _ _) .nil))))))))
theorem Z4r (n:ZC) (us:LI) (s:Z5) (mm:Nat) (hn:Xr n:=by exact ob) (hf:FS n.decls n.routines.length mm s:=by exact ob) (hvl:us.length=mm:=by exact ob) (hm:mm<=100000000:=by exact ob):Zo 159 [YB n,Z3 us,X0 s] [] (fun r h=>∃(zs:LI),r=Z3 zs/\h=[]/\zs.length<=s.args.length/\∀z∈zs,z∈s.args):=by
 have hal:=hf.alen
 refine ZG 31 Tryz.func159 (ar (iA (X4 n) fun b1=>iA (W8 s) fun b2=>Z2 (ar (iL (Z6 []) 0 1 fun v1=>?_))))
 refine Z2 (Y0 (ab 0 (Y3 (fun fz gz m F h=>∃(k:Nat) (zs:LI) (u:Value),(k<=s.args.length)/\(zs.length<=k)/\(∀z∈zs,z∈s.args)/\F=sF [1,3,5] fz [(7,ZV zs u),(8,.i k)]/\h=[Zg gz 1,Zg gz 2,.tail u 1]/\m=s.args.length-k) _ _ _ ⟨0,[],v1,ob,ob,(fun z hz=>by cases hz),rfl,rfl,rfl⟩ (wk [1,1,0] (fr (Yd fl))) ?_)))
 rintro m F h ⟨k,zs,u,Yk,Zh,Zy,rfl,rfl,rfl⟩
 refine Yr 3 [0] (iw (Yc s.args) (ZZ ((k:Int)<(s.args.length:Int)) (fun Z9=>?_) (fun Z9=>?_)))
 ·obtain ⟨a1,ha1⟩:=Zv s.args k om
  have har:=hf.args a1 (Y2 ha1)
  refine ak (aq (ab 1 (Zq 4 [1,0] (Zu [] (GG n us s k a1 (hnum:=hf.call) (ha:=ha1)) (ie (ac (KY n us s.op s.num a1 k) Iff.rfl (fun Zi=>?_) (fun Zi=>?_)))))))
  ·exact az (ZA 4 [0] (Zp (Zj none (k:Int) 1 (Y5 ha1)) (Z0 1 (iL (Z6 [a1]) 1 1 fun v2=>ZM 0 [(28,Z3 [a1])] (ip 3 (Z6 (zs++[a1])) (Z6 zs) (Z6 [a1]) u none 1 (YG _) (YG _) (W4 _) (by simp<;>omega) (by simp [W3,Z6]) fun v3=>Z2 (az (Z0 1 (ZE k (Z2 (ZJ ⟨k+1,(zs++[a1]),v3,ob,ob,(by first|exact Zy|exact Xx Zy (Y2 ha1)),rfl,rfl,rfl⟩ (wk [2,2,0] (fr (ZO k fl)))))))))))))
  exact ak (az (Z0 1 (ZE k (Z2 (ZJ ⟨k+1,zs,u,ob,ob,(by first|exact Zy|exact Xx Zy (Y2 ha1)),rfl,rfl,rfl⟩ (Zw 3 (fr (ZO k fl))))))))
 exact ax 0 (ar (Zm (r2 [] [ZV zs u] ⟨zs,rfl,rfl,⟨by omega,Zy⟩⟩ (Zd.forget _ _))))
theorem Z5f (n:ZC) (us:LI) (s:Z5) (mm:Nat) (bb:Nat) (hn:Xr n:=by exact ob) (hf:FS n.decls n.routines.length mm s:=by exact ob) (h11:s.op<=11:=by exact ob) (hop:QG WD s.kids:=by exact ob) (hul:us.length=mm:=by exact ob) (hm:mm+4*s.sz<=100000:=by exact ob) (hbz:s.sz<=500:=by exact ob) (hb:s.sz<=bb:=by exact ob) (ih:∀(us2:LI) (b2:Z7) (mi2:LI) (m2:Nat),(fB n.decls n.routines.length m2 b2)->(Vc WD b2)->(us2.length=m2)->(m2+4*b2.sz<=100000)->(∀v∈mi2,0<=v/\v<(m2:Int))->(mi2.length<=3)->(b2.sz<=500)->(b2.sz<bb)->Zo 140 [YB n,Z3 us2,Yh b2,Z3 mi2] [] (fun r h=>∃(y:Z7),r=Yh y/\h=[]/\KB n.decls n.routines.length m2 y (60*b2.sz))):Zo 160 [YB n,Z3 us,X0 s] [] (fun r h=>∃(y:Z5),r=X0 y/\h=[]/\KT n.decls n.routines.length mm y (60*YS s.kids+23)):=by
 have Xl:=hn.decls
 have hkf:=hf.few Xl
 have hsa:=hf.alen
 refine ZG 72 Tryz.func160 (ar (iA (X4 n) fun b1=>iA (W8 s) fun b2=>iA [.i 0,.i 0,.i 0,nl,nl] fun b3=>ie (ar (iL (XM []) 0 2 fun v1=>Z2 (Zq 4 [3,2] (ic [] (KL n.decls s.num) ?_))))))
 rintro _ _ ⟨v2,rfl,rfl⟩
 refine Z2 (Y0 (ab 0 (Y3 (fun fz gz m F h=>∃(k:Nat) (ks:List Z7) (u:Value),(k<=s.kids.length)/\(ks.length=k)/\(KK n.decls n.routines.length (WL n.decls s.op s.num mm) ks (60*YS (s.kids.take k)+6*k))/\F=sF [1,3,5,6] fz [(7,Q2 ks u),(8,Z3 (ZQ n.decls s.num)),(9,.i k)]/\h=[Zg gz 2,Zg gz 3,Zg gz 4,.tail u 2]/\m=s.kids.length-k) _ _ _ ⟨0,[],v1,ob,ob,(KK.nil.le (QS _)),rfl,rfl,rfl⟩ (wk [2,2,2,1] (fr (fc (x:=ZV (ZQ n.decls s.num) v2) (Zd.forget _ _) (Yd fl)))) ?_)))
 rintro m F h ⟨k,ks,u,Yk,Zh,Zy,rfl,rfl,rfl⟩
 refine Yr 3 [1] (iw (QZ s.kids) (ZZ ((k:Int)<(s.kids.length:Int)) (fun Z9=>?_) (fun Z9=>?_)))
 ·refine ak (aq (ab 1 (ar (iL (Z6 []) 0 1 fun v3=>?_))))
  refine Z2 (Xd (WT [2] (Xs (fun fz gz F h=>∃(fds:LI),(WL n.decls s.op s.num mm k=mm+fds.length)/\(fds.length<=3)/\F=sF [1,3,5,6,7,8,9] fz [(10,Z3 fds)]/\h=[Zg gz 1,Zg gz 2,Zg gz 3,Zg gz 4]) ?_ ?_)))
  ·refine ac (s.op==8) Zf (fun Zi=>?_) (fun Zi=>?_)
   ·refine aE 8 (ZU 4 8 [0,1,2,3] [3] ?_)
    obtain ⟨x1,Z4⟩:=Zv (ZQ n.decls s.num) k (by have:=hf.k8 (by assumption);omega)
    have hcf:=V5 Xl x1
    exact dx 4 (Zj none (k:Int) 1 (Y5 Z4)) (Zs 2 3 [5] (Z8 6 (YH 6 [] [] [] (Q3 n.decls x1) (Zs 0 1 [7] (de (ZD ⟨ZK n.decls x1,(Ln (by assumption) Z4),ob,rfl,rfl⟩ (wk [1,1,1,1] fl)))))))
   exact ak (ZD ⟨[],(by rw [Lo (by assumption)];rfl),ob,rfl,rfl⟩ (wk [1,1,1,1] fl))
  rintro F h ⟨fds,Vr,Aw,rfl,rfl⟩
  refine Yf 2 (iw (Yc us) (ic [] (NM fds us.length) ?_))
  rintro _ _ ⟨xs1,rfl,rfl,Y6⟩
  have hhf:=Y6
  refine Z2 (aD 13 (ZU 7 13 [0,1,2,4,5,6] [2,1] ?_))
  obtain ⟨x2,Zx⟩:=Zv s.kids k om
  have hkz:=Q0 Zx
  have hfk:=B4 hf.kids Zx
  rw [Wh,Vr] at hfk
  have hok:=Dg.1 hop x2 (Y2 Zx)
  have hbt:=F4 Zx
  have hba:=F5 Zx
  refine dx 7 (Zj none (k:Int) 2 (UE Zx)) (Zs 4 6 [8,9] (AY (fun fz gz F h=>∃(y1:Z7) (b4:Nat),(KB n.decls n.routines.length (mm+fds.length) y1 (60*x2.sz))/\F=sF [1,3,5,6,7,8,9,11] fz [(12,.p b4 0)]/\h=[.obj b4 (XR y1),Zg gz 0,Zg gz 1,Zg gz 2,Zg gz 3]) ?_ ?_))
  ·refine U9 3 11 ?_ ?_
   ·refine dc 3 [] [1,2] [b2,b1] (Th us fds) ?_
    rintro _ _ ⟨v4,rfl,rfl⟩
    refine Yq 3 3 [] [(44,Z3 (us++fds))] (U9 10 11 ?_ ?_)
    ·refine dc 10 [] [] [] (ih (us++fds) x2 xs1 (mm+fds.length) hfk hok (by rw [Yl,hul]) ob (fun v hv=>by have:=hhf.2 v hv;omega) ob ob ob) ?_
     rintro _ _ ⟨y1,rfl,rfl,Yt⟩
     have hkb:=Yt
     have hkl:=hkb.len
     exact Z8 11 (dA 11 [] [] [nl,.i 0] fun b4=>Z8 12 (YZ 12 0 [] [] b4 (XR y1) (de (ZD ⟨_,b4,(by assumption),rfl,rfl⟩ (wk [0,1,1,1,1] fl)))))
    refine dA 11 [1,2] [b2,b1] [nl,.i 0] fun b5=>Z8 10 (dc 10 [] [] [] (ih (us++fds) x2 xs1 (mm+fds.length) hfk hok (by rw [Yl,hul]) ob (fun v hv=>by have:=hhf.2 v hv;omega) ob ob ob) ?_)
    rintro _ _ ⟨y2,rfl,rfl,YP⟩
    have hkb:=YP
    have hkl:=hkb.len
    exact Z8 12 (YZ 12 0 [] [] b5 (XR y2) (de (ZD ⟨_,b5,(by assumption),rfl,rfl⟩ (wk [0,1,1,1,1] fl))))
   refine dA 11 [1,2] [b2,b1] [nl,.i 0] fun b6=>Z8 3 (dc 3 [] [2,3] [b2,b1] (Th us fds) ?_)
   rintro _ _ ⟨v5,rfl,rfl⟩
   refine Yq 2 2 [] [(44,Z3 (us++fds))] (Z8 10 (dc 10 [] [] [] (ih (us++fds) x2 xs1 (mm+fds.length) hfk hok (by rw [Yl,hul]) ob (fun v hv=>by have:=hhf.2 v hv;omega) ob ob ob) ?_))
   rintro _ _ ⟨y3,rfl,rfl,X2⟩
   have hkb:=X2
   have hkl:=hkb.len
   exact Z8 12 (YZ 12 1 [] [] b6 (XR y3) (de (ZD ⟨_,b6,(by assumption),rfl,rfl⟩ (wk [0,1,1,1,1] fl))))
  rintro F h ⟨y1,b4,Yt,rfl,rfl⟩
  have hkb:=Yt
  have hkl:=hkb.len
  refine aE 12 (ZU 6 12 [0,1,3,4,6,7] [0,0] (Z8 2 (dc 2 [] [0,0] [b4,b4] (Kf 14 xs1) ?_)))
  rintro _ _ ⟨v6,rfl,rfl⟩
  exact Z8 5 (dp 5 0 [0] [b4] (ZL ((xs1.map (Zt 14))++y1.steps)) (ZL (xs1.map (Zt 14))) (ZL y1.steps) v6 none 5 (XC _) (XC _) (Ua _) (by simp<;>omega) (by simp [Vg,ZL]) fun v7=>Yq 3 4 [8] [(60,.agg [Vb ((xs1.map (Zt 14))++y1.steps),.i y1.result])] (Z8 9 (Wx 9 [] [] [Yh (Z7.mk ((xs1.map (Zt 14))++y1.steps) y1.result)] (XM [Z7.mk ((xs1.map (Zt 14))++y1.steps) y1.result]) (Qv [Z7.mk ((xs1.map (Zt 14))++y1.steps) y1.result]).symm 1 2 fun v8=>Yq 2 2 [] [(61,Jh [Z7.mk ((xs1.map (Zt 14))++y1.steps) y1.result])] (Z8 10 (dp 10 6 [] [] (XM (ks++[Z7.mk ((xs1.map (Zt 14))++y1.steps) y1.result])) (XM ks) (XM [Z7.mk ((xs1.map (Zt 14))++y1.steps) y1.result]) u none 2 (Ks _) (Ks _) (Fe _) (by simp<;>omega) (by simp [BT,XM]) fun v9=>Zs 0 1 [11] (de (az (Z0 1 (ZE k (Z2 (ZJ ⟨k+1,(ks++[Z7.mk ((xs1.map (Zt 14))++y1.steps) y1.result]),v9,ob,ob,((Zy.snoc Zh (by rw [Vr];exact hkb.put1 (op:=14) (.inl rfl) (fun v hv=>by have:=hhf.2 v hv;omega))).le om),rfl,rfl,rfl⟩ (wk [4,4,4,0] (fw (ZO k fl))))))))))))))
 refine ax 0 (aD 10 (ZU 3 10 [0,1,2,3,4,5,7] [1,1,1] (Z8 6 (dc 6 [] [1,1] [b2,b2] (WI s.args) ?_))))
 rintro _ _ ⟨v10,rfl,rfl⟩
 exact Zs 1 2 [8] (Z8 9 (YZ 9 1 [] [] b3 [.i s.op,.i s.num,.i 0,ZV s.args v10,Q2 ks u] (de (ZT (r3 [] [.agg [.i s.op,.i s.num,.i 0,ZV s.args v10,Q2 ks u]] [0] [(b3,b3)] ⟨(Z5.mk s.op s.num 0 s.args ks),rfl,rfl,((KT.of (into:=0) hf h11 om om Zy).le (by have:=Ho (xs:=s.kids) (k:=k) om;omega))⟩ (Zd.agg (.cons (lr _) (.cons (lr _) (.cons (lr _) (.cons (Zd.forget _ _) (.cons (Zd.forget _ _) .nil)))))))))))
theorem Z5e (n:ZC) (us:LI) (b:Z7) (mi:LI) (mm:Nat) (hn:Xr n) (hf:fB n.decls n.routines.length mm b) (hop:Vc WD b) (hul:us.length=mm) (hm:mm+4*b.sz<=100000) (hmr:∀v∈mi,0<=v/\v<(mm:Int)) (hml:mi.length<=3) (hbz:b.sz<=500) (ih:∀(us2:LI) (b2:Z7) (mi2:LI) (m2:Nat),(fB n.decls n.routines.length m2 b2)->(Vc WD b2)->(us2.length=m2)->(m2+4*b2.sz<=100000)->(∀v∈mi2,0<=v/\v<(m2:Int))->(mi2.length<=3)->(b2.sz<=500)->(b2.sz<b.sz)->Zo 140 [YB n,Z3 us2,Yh b2,Z3 mi2] [] (fun r h=>∃(y:Z7),r=Yh y/\h=[]/\KB n.decls n.routines.length m2 y (60*b2.sz))):Zo 140 [YB n,Z3 us,Yh b,Z3 mi] [] (fun r h=>∃(y:Z7),r=Yh y/\h=[]/\KB n.decls n.routines.length mm y (60*b.sz)):=by
 have Xl:=hn.decls
 have hbe:=b.sz_eq
 have ZI:=Uk b
 obtain ⟨hfs,hr1,hr2⟩:=(Kt b).1 hf
 have hos:=Ch.1 ((G7 b).1 hop)
 have hdn:=HB hos
 have hdl:=hdn b.steps.length (X7 _)
 rw [Uf] at hdl
 refine ZG 80 Tryz.func140 (ar (iA (X4 n) fun b1=>iA (XR b) fun b2=>iA [nl,.i 0] fun b3=>ie (ar (iL (ZL []) 0 5 fun v1=>Z2 (Yf 1 (ic [] (WI us) ?_))))))
 rintro _ _ ⟨v2,rfl,rfl⟩
 refine Z2 (Yf 1 (ic [] (WI mi) ?_))
 rintro _ _ ⟨v3,rfl,rfl⟩
 refine Z2 (Y0 (ab 0 (Y3 (fun fz gz m F h=>∃(k:Nat) (vs:LI) (w:Value) (ow:LI) (u:Value) (xs:List Z5) (v:Value) (z0:Nat),(k<=b.steps.length)/\(vs.length=mm+k)/\(CL n.decls n.routines.length mm xs k z0)/\(z0+2*ow.length<=60*Yo (b.steps.take k)+2*mi.length)/\(∀v∈ow,0<=v/\v<((mm+k:Nat):Int))/\F=sF [4,6,8] fz [(9,Xc xs v),(10,ZV vs w),(11,ZV ow u),(12,.i k)]/\h=[Zg gz 3,Zg gz 4,Zg gz 5,.tail u 1,.tail v 5,.tail w 1]/\m=b.steps.length-k) _ _ _ ⟨0,us,v2,mi,v3,[],v1,0,ob,ob,CL.nil,(by simp),hmr,rfl,rfl,rfl⟩ (wk [3,3,3,0,1,0] (fw (fr (Yd fl)))) ?_)))
 rintro m F h ⟨k,vs,w,ow,u,xs,v,z0,Yk,Zh,Zy,YJ,Wc,rfl,rfl,rfl⟩
 refine Yr 3 [1] (iw (Up b.steps) (ZZ ((k:Int)<(b.steps.length:Int)) (fun Z9=>?_) (fun Z9=>?_)))
 ·refine ak (aq (ab 1 (Zq 3 [1] ?_)))
  obtain ⟨x1,Z4⟩:=Zv b.steps k om
  have XL:=Cm Z4
  have hfS:=(An x1).1 (CU hfs Z4)
  rw [hdn k om] at hfS
  have hoS:=(El x1).1 (hos x1 (Y2 Z4))
  have htk:=GH Z4
  have hse:=(x1).sz_eq
  have hal4:=hfS.alen
  have hxl:=Zy.len
  have htl:=Kh b.steps (k+1)
  refine Zp (Zj none (k:Int) 5 (WV Z4)) (Z0 1 (iA [.i 0,.i 0,.i 0,nl,nl] fun b4=>Zz 0 b4 (W8 x1) (ie (ar (QM 3 [(33,Z3 vs)] [3,0] (Zu [] (Ly n vs x1 ob ob) (Z2 (ar (QM 4 [(38,Z3 vs)] [3,0] (ic [] (Z4r n vs x1 (mm+k) (hf:=hfS)) ?_))))))))))
  rintro _ _ ⟨zs1,rfl,rfl,Y6⟩
  have hdu:=Y6
  have hq1:=Zy.cnts (op:=14) (.inl rfl) (vs:=zs1) (fun v hv=>hfS.args v (hdu.2 v hv))
  have hl1:=hq1.len
  refine ic [] (Kf 14 zs1) ?_
  rintro _ _ ⟨v4,rfl,rfl⟩
  refine ZM 0 [(41,Vb (zs1.map (Zt 14)))] (ip 6 (ZL (xs++(zs1.map (Zt 14)))) (ZL xs) (ZL (zs1.map (Zt 14))) v none 5 (XC _) (XC _) (Ua _) (by simp<;>omega) (by simp [Vg,ZL]) fun v5=>Z2 (ar (QM 4 [(45,Z3 vs)] [5,2] (ic [] (Z5f n vs x1 (mm+k) b.sz (hf:=hfS) (h11:=hoS.1) (hop:=hoS.2) (ih:=ih)) ?_))))
  rintro _ _ ⟨y1,rfl,rfl,Yt⟩
  have hkt:=Yt
  have hq2:=hq1.kt hkt
  have hl2:=hq2.len
  refine Uv [X0 y1] (ZL [y1]) (VQ [y1]).symm 1 5 fun v6=>ZM 0 [(48,Vb [y1])] (ip 1 (ZL ((xs++(zs1.map (Zt 14)))++[y1])) (ZL (xs++(zs1.map (Zt 14)))) (ZL [y1]) v5 none 5 (XC _) (XC _) (Ua _) (by simp<;>omega) (by simp [Vg,ZL]) fun v7=>Z2 (Xd (YC ((YY n vs x1) != 0) Yv (fun Zi=>?_) (fun Zi=>?_))))
  ·exact az (Z0 2 (iw (Yc vs) (iL (Z6 [(vs.length:Int)]) 1 1 fun v8=>ZM 0 [(55,Z3 [(vs.length:Int)])] (ip 8 (Z6 (ow++[(vs.length:Int)])) (Z6 ow) (Z6 [(vs.length:Int)]) u none 1 (YG _) (YG _) (W4 _) (by simp<;>omega) (by simp [W3,Z6]) fun v9=>Z2 (az (Z0 2 (iL (Z6 [YY n vs x1]) 1 1 fun v10=>ZM 0 [(59,Z3 [YY n vs x1])] (ip 10 (Z6 (vs++[YY n vs x1])) (Z6 vs) (Z6 [YY n vs x1]) w none 1 (YG _) (YG _) (W4 _) (by simp<;>omega) (by simp [W3,Z6]) fun v11=>Z2 (az (Z0 1 (ZE k (Z2 (ZJ ⟨k+1,(vs++[YY n vs x1]),v11,(ow++[(vs.length:Int)]),v9,((xs++(zs1.map (Zt 14)))++[y1]),v7,_,ob,ob,hq2,(by (try simp only [Yl,Yw,X5]);omega),(by first|exact Xx (fun v hv=>by have:=Wc v hv;omega) om|exact (fun v hv=>by have:=Wc v hv;omega)),rfl,rfl,rfl⟩ (wk [8,8,8,2,3,0] (fw (fr (ZO k fl)))))))))))))))))
  exact ak (az (Z0 2 (iL (Z6 [YY n vs x1]) 1 1 fun v12=>ZM 0 [(59,Z3 [YY n vs x1])] (ip 9 (Z6 (vs++[YY n vs x1])) (Z6 vs) (Z6 [YY n vs x1]) w none 1 (YG _) (YG _) (W4 _) (by simp<;>omega) (by simp [W3,Z6]) fun v13=>Z2 (az (Z0 1 (ZE k (Z2 (ZJ ⟨k+1,(vs++[YY n vs x1]),v13,ow,u,((xs++(zs1.map (Zt 14)))++[y1]),v7,_,ob,ob,hq2,(by (try simp only [Yl,Yw,X5]);omega),(by first|exact Xx (fun v hv=>by have:=Wc v hv;omega) om|exact (fun v hv=>by have:=Wc v hv;omega)),rfl,rfl,rfl⟩ (wk [6,6,6,6,2,0] (fw (fr (ZO k fl)))))))))))))
 have hxl:=Zy.len
 have htl:=Kh b.steps k
 refine ax 0 (Yr 3 [1] ?_)
 obtain ⟨x2,Zx⟩:=Zv vs b.result.toNat om
 refine Zp (Zj (some w) b.result 1 (Y5 Zx)) (YC (x2 != 0) Yv (fun ZB=>?_) (fun ZB=>?_))
 ·refine az (ZA 3 [1] (Zu [] (Br 14 b.result) (Uv [X0 (Zt 14 b.result)] (ZL [Zt 14 b.result]) (VQ [Zt 14 b.result]).symm 1 5 fun v14=>ZM 0 [(71,Vb [Zt 14 b.result])] (ip 5 (ZL (xs++[Zt 14 b.result])) (ZL xs) (ZL [Zt 14 b.result]) v none 5 (XC _) (XC _) (Ua _) (by simp<;>omega) (by simp [Vg,ZL]) fun v15=>Z2 (aD 8 (CH 4 8 [0,1,4,5] [(74,Z3 ow)] [3] (Z8 2 (dc 2 [] [1] [b2] (Kf 15 ow) ?_))))))))
  rintro _ _ ⟨v16,rfl,rfl⟩
  exact Yq 3 3 [] [(75,Vb (ow.map (Zt 15)))] (Z8 3 (dp 3 1 [1] [b2] (ZL ((xs++[Zt 14 b.result])++(ow.map (Zt 15)))) (ZL (xs++[Zt 14 b.result])) (ZL (ow.map (Zt 15))) v15 none 5 (XC _) (XC _) (Ua _) (by simp<;>omega) (by simp [Vg,ZL]) fun v17=>Zs 1 2 [6] (Z8 7 (YZ 7 3 [] [] b3 [Xc ((xs++[Zt 14 b.result])++(ow.map (Zt 15))) v17,.i b.result] (de (ZT (r3 [] [.agg [Xc ((xs++[Zt 14 b.result])++(ow.map (Zt 15))) v17,.i b.result]] [0] [(b3,b3)] ⟨(Z7.mk ((xs++[Zt 14 b.result])++(ow.map (Zt 15))) b.result),rfl,rfl,((((Zy.cnt (op:=14) (.inl rfl) om).cnts (op:=15) (.inr rfl) (fun v hv=>by have:=Wc v hv;omega)).block om).le (by have:=Kh b.steps k;omega))⟩ (Zd.agg (.cons (Zd.forget _ _) (.cons (lr _) .nil))))))))))
 refine ak (aD 8 (CH 4 8 [0,1,4,5] [(74,Z3 ow)] [1] (Z8 2 (dc 2 [] [1] [b2] (Kf 15 ow) ?_))))
 rintro _ _ ⟨v18,rfl,rfl⟩
 exact Yq 3 3 [] [(75,Vb (ow.map (Zt 15)))] (Z8 3 (dp 3 5 [1] [b2] (ZL (xs++(ow.map (Zt 15)))) (ZL xs) (ZL (ow.map (Zt 15))) v none 5 (XC _) (XC _) (Ua _) (by simp<;>omega) (by simp [Vg,ZL]) fun v19=>Zs 1 2 [6] (Z8 7 (YZ 7 2 [] [] b3 [Xc (xs++(ow.map (Zt 15))) v19,.i b.result] (de (ZT (r3 [] [.agg [Xc (xs++(ow.map (Zt 15))) v19,.i b.result]] [0] [(b3,b3)] ⟨(Z7.mk (xs++(ow.map (Zt 15))) b.result),rfl,rfl,(((Zy.cnts (op:=15) (.inr rfl) (fun v hv=>by have:=Wc v hv;omega)).block om).le (by have:=Kh b.steps k;omega))⟩ (Zd.agg (.cons (Zd.forget _ _) (.cons (lr _) .nil))))))))))
theorem Z5d (n:ZC) (us:LI) (b:Z7) (mi:LI) (mm:Nat) (hn:Xr n:=by exact ob) (hf:fB n.decls n.routines.length mm b:=by exact ob) (hop:Vc WD b:=by exact ob) (hul:us.length=mm:=by exact ob) (hm:mm+4*b.sz<=100000:=by exact ob) (hmr:∀v∈mi,0<=v/\v<(mm:Int)) (hml:mi.length<=3:=by exact ob) (hbz:b.sz<=500:=by exact ob):Zo 140 [YB n,Z3 us,Yh b,Z3 mi] [] (fun r h=>∃(y:Z7),r=Yh y/\h=[]/\KB n.decls n.routines.length mm y (60*b.sz)):=by
 have key:∀k:Nat,∀(us2:LI) (b2:Z7) (mi2:LI) (m2:Nat),(fB n.decls n.routines.length m2 b2)->(Vc WD b2)->(us2.length=m2)->(m2+4*b2.sz<=100000)->(∀v∈mi2,0<=v/\v<(m2:Int))->(mi2.length<=3)->(b2.sz<=500)->(b2.sz<k)->Zo 140 [YB n,Z3 us2,Yh b2,Z3 mi2] [] (fun r h=>∃(y:Z7),r=Yh y/\h=[]/\KB n.decls n.routines.length m2 y (60*b2.sz)):=by
  intro k
  induction k with
  | zero=>intro us2 b2 mi2 m2 h1 h2 h3 h4 h5 h6 h7 h9;omega
  | succ k ih=>intro us2 b2 mi2 m2 h1 h2 h3 h4 h5 h6 h7 h9;exact Z5e n us2 b2 mi2 m2 hn h1 h2 h3 h4 h5 h6 h7 fun us3 b3 mi3 m3 q1 q2 q3 q4 q5 q6 q7 q9=>ih us3 b3 mi3 m3 q1 q2 q3 q4 q5 q6 q7 om
 exact key (b.sz+1) us b mi mm hf hop hul hm hmr hml hbz om
theorem Z5x (rt:Yz) (hp:rt.params.length<=1000000:=by exact ob) (hl:rt.lent.length<=1000000:=by exact ob):Zo 141 [Ju rt] [] (fun r h=>∃(os:LI),r=Z3 os/\h=[]/\os.length<=rt.params.length/\∀v∈os,0<=v/\v<(rt.params.length:Int)):=by
 refine ZG 31 Tryz.func141 (ar (iA (Jd rt) fun b1=>Z2 (ar (iL (Z6 []) 0 1 fun v1=>?_))))
 refine Z2 (Y0 (ab 0 (Y3 (fun fz gz m F h=>∃(k:Nat) (os:LI) (u:Value),(k<=rt.params.length)/\(os.length<=k)/\(∀v∈os,0<=v/\v<(rt.params.length:Int))/\F=sF [1] fz [(3,ZV os u),(4,.i k)]/\h=[Zg gz 1,.tail u 1]/\m=rt.params.length-k) _ _ _ ⟨0,[],v1,ob,ob,(fun v hv=>by cases hv),rfl,rfl,rfl⟩ (wk [1,0] (fr (Yd fl))) ?_)))
 rintro m F h ⟨k,os,u,Yk,Zh,Zy,rfl,rfl,rfl⟩
 refine Yr 3 [0] (iw (Yc rt.params) (ZZ ((k:Int)<(rt.params.length:Int)) (fun Z9=>?_) (fun Z9=>?_)))
 ·refine ak (aq (ab 1 (Zq 3 [0] ?_)))
  obtain ⟨x1,Z4⟩:=Zv rt.params k om
  refine Zp (Zj none (k:Int) 1 (Y5 Z4)) (Xp [1,3,4] [(25,.b ((x1 != 0)&&(!(decide ((k:Int)∈rt.lent)))))] (fun gz=>gz) ?_ ?_)
  ·refine Z0 3 (ib (b:=(x1 != 0)) 19 (fun Zc=>?_) (fun Zc=>?_))
   ·exact ZA 3 [0] (Zu [] (Uz rt.lent (k:Int)) (Z2 (wk [0,0] (Zl (!(decide ((k:Int)∈rt.lent))) Zc fl))))
   exact Z2 (wk [0,0] (Zl false Zc fl))
  refine ac ((x1 != 0)&&(!(decide ((k:Int)∈rt.lent)))) (p:=(x1≠0)/\(¬((k:Int)∈rt.lent))) (YI Yv (Ys dq)) (fun Zi=>?_) (fun Zi=>?_)
  ·exact az (Z0 2 (iL (Z6 [(k:Int)]) 1 1 fun v2=>ZM 0 [(28,Z3 [(k:Int)])] (ip 2 (Z6 (os++[(k:Int)])) (Z6 os) (Z6 [(k:Int)]) u none 1 (YG _) (YG _) (W4 _) (by simp<;>omega) (by simp [W3,Z6]) fun v3=>Z2 (az (Z0 1 (ZE k (Z2 (ZJ ⟨k+1,(os++[(k:Int)]),v3,ob,ob,(by first|exact Zy|exact Xx Zy om),rfl,rfl,rfl⟩ (wk [2,0] (fr (ZO k fl)))))))))))
  exact ak (az (Z0 1 (ZE k (Z2 (ZJ ⟨k+1,os,u,ob,ob,(by first|exact Zy|exact Xx Zy om),rfl,rfl,rfl⟩ (wk [0,0] (fr (ZO k fl))))))))
 exact ax 0 (ar (Zm (r2 [] [ZV os u] ⟨os,rfl,rfl,⟨by omega,Zy⟩⟩ (Zd.forget _ _))))
theorem Z5c (n:ZC) (qz:Nat) (hn:FO n qz WD:=by exact ob) (hqz:qz<=181:=by exact ob):Zo 113 [YB n] [] (fun r h=>∃(n2:ZC),r=YB n2/\h=[]/\FO n2 (60*qz) Vl):=by
 have hnl:=hn.fn.len
 have Xl:=hn.fn.decls.ok
 have hok:=hn.fn.ok
 refine ZG 39 Tryz.func113 (ar (iA (X4 n) fun b1=>iA [nl,nl] fun b2=>ie (Zq 2 [1] (Zu [] (AF n.decls) (iL (X6 []) 0 5 fun v1=>Z0 1 (iA [nl,nl] fun b3=>?_))))))
 refine Zz 0 b3 [Ya n.decls,WG [] v1] (ie (Y0 (ab 0 (Y3 (fun fz gz m F h=>∃(k:Nat) (rs:List Yz) (u:Value),(k<=n.routines.length)/\(rs.length=k)/\(∀r∈rs,RF n.decls n.routines.length (60*qz) Vl r)/\F=sF [1,2,3] fz [(4,.i k)]/\h=[.obj b3 [Ya n.decls,WG rs u],Zg gz 2,Zg gz 3,.tail u 5]/\m=n.routines.length-k) _ _ _ ⟨0,[],v1,ob,ob,(fun r hr=>by cases hr),rfl,rfl,rfl⟩ (wk [0,1,1,0] (Yd fl)) ?_))))
 rintro m F h ⟨k,rs,u,Yk,Zh,Zy,rfl,rfl,rfl⟩
 refine Yr 3 [2] (iw (TB n.routines) (ZZ ((k:Int)<(n.routines.length:Int)) (fun Z9=>?_) (fun Z9=>?_)))
 ·refine ak (aq (ab 1 (Zq 3 [2] ?_)))
  obtain ⟨x1,Z4⟩:=Zv n.routines k om
  have hrf:=hn.rf (Y2 Z4)
  have hrp:(x1).params.length<=3:=(T9.bd (f:=⟨(x1).params,(x1).result,default⟩) hrf.sig).1
  have hrl:=hrf.lent.1
  have hrz:=hrf.body.2
  refine Zp (Zj none (k:Int) 5 (Vw Z4)) (Z0 1 (iA [nl,nl,.i 0,nl,.i 0] fun b4=>Zz 0 b4 (Jd x1) (ie (aE 16 (ZU 7 16 [0,1,2,3,4,5,6,7,8] [1,0,3,0,0,0] (Z8 9 (dc 9 [] [0,0,3,0,1] [b4,b4,b1,b4,b3] (Z5x x1) ?_)))))))
  rintro _ _ ⟨os1,rfl,rfl,Y6⟩
  have hop:=Y6
  refine Z8 10 (dc 10 [] [0,1] [b4,b3] (Z5d n x1.params x1.body os1 _ (hf:=hrf.body.1) (hop:=hrf.op) (hul:=rfl) (hmr:=hop.2)) ?_)
  rintro _ _ ⟨y1,rfl,rfl,Yt⟩
  have hkb0:=Yt
  have hkb:=hkb0.le (z2:=60*qz) om
  exact Z8 11 (YH 11 [] [1] [b3] (Ds x1 y1 (hp:=om) (hl:=om)) (Z8 12 (dL 12 [1] [b3] (X6 [Yz.mk x1.params x1.lent x1.result y1]) 1 5 fun v2=>Yq 3 3 [] [(35,Ji [Yz.mk x1.params x1.lent x1.result y1])] (Z8 13 (dp 13 5 [] [] (X6 (rs++[Yz.mk x1.params x1.lent x1.result y1])) (X6 rs) (X6 [Yz.mk x1.params x1.lent x1.result y1]) u none 5 (UR _) (UR _) (B1 _) (by simp<;>omega) (by simp [CP,X6]) fun v3=>Zs 1 2 [14] (Z8 15 (YZ 15 3 [] [] b3 [Ya n.decls,WG (rs++[Yz.mk x1.params x1.lent x1.result y1]) v3] (de (az (Z0 1 (ZE k (Z2 (ZJ ⟨k+1,(rs++[Yz.mk x1.params x1.lent x1.result y1]),v3,ob,ob,(Xx Zy (by first|exact hrf.with hkb.fb hkb.sz hkb.op|(rw [Z7.eta];exact hrf.with hkb.fb hkb.sz hkb.op))),rfl,rfl,rfl⟩ (wk [0,3,3,0] (ZO k fl)))))))))))))))
 exact ax 0 (Zq 1 [0] (Zz 1 b2 [Ya n.decls,WG rs u] (ie (ZT (r3 [] [.agg [Ya n.decls,WG rs u]] [0] [(b2,b2)] ⟨(ZC.mk n.decls rs),rfl,rfl,(FO.fin hn.fn om Zy).1⟩ (Zd.agg (.cons (lr _) (.cons (Zd.forget _ _) .nil))))))))
theorem RI (s:Z5) :Zo 145 [X0 s] [] (Yy (.b ((s.op==14)||(s.op==15)))):=by
 refine ZG 11 Tryz.func145 (ar (iA (W8 s) fun b1=>Z2 (ar (Xb 8 [] [(10,.b ((s.op==14)||(s.op==15)))] (fun gz=>gz) ?_ (fun hj1=>?_)))))
 ·exact Zm (Cp)
 refine ZA 4 [0] (ib (b:=(s.op==14)) 6 (fun Zc=>?_) (fun Zc=>?_))
 ·exact Z0 4 (Yb (wk [0] (Zl true Zc fl)) hj1)
 exact ZA 4 [0] (Yb (wk [0] (Zl (s.op==15) Zc fl)) hj1)
theorem Z66 (rn:List Z5) (hrn:∀s∈rn,∃a,s.args=[a]) (hl:rn.length<=100000000:=by exact ob):Zo 169 [Vb rn] [] (fun r h=>∃(vs:LI),r=Z3 vs/\h=[]/\BD vs/\vs.length<=rn.length/\∀v∈vs,∃s∈rn,s.args=[v]):=by
 refine ZG 22 Tryz.func169 (Y7 (ar (iL (Z6 []) 0 1 fun v1=>?_)))
 refine Z2 (Y0 (ab 0 (Y3 (fun fz gz m F h=>∃(k:Nat) (vs:LI),(k<=rn.length)/\(vs.length<=k)/\(BD vs)/\(∀v∈vs,∃s∈rn,s.args=[v])/\F=sF [0] fz [(3,Z3 vs),(4,.i k)]/\h=[]/\m=rn.length-k) _ _ _ ⟨0,[],ob,ob,List.Pairwise.nil,(fun v hv=>by cases hv),rfl,rfl,rfl⟩ (wk [] (fc (x:=ZV [] v1) (Zd.forget _ _) (Yd fl))) ?_)))
 rintro m F h ⟨k,vs,Yk,Zh,Zy,YJ,rfl,rfl,rfl⟩
 refine YQ 2 (iw (Up rn) (ZZ ((k:Int)<(rn.length:Int)) (fun Z9=>?_) (fun Z9=>?_)))
 ·refine ak (aq (ab 1 (az (Z0 3 ?_))))
  obtain ⟨x1,Z4⟩:=Zv rn k om
  have hxm:=Y2 Z4
  obtain ⟨xa,hxa⟩:=hrn _ hxm
  refine Zp (Zj none (k:Int) 5 (WV Z4)) (Z0 2 ?_)
  obtain ⟨x2,Zx⟩:=Zv x1.args 0 (by rw [hxa];simp)
  have hxe:x1.args=[x2]:=by have h:=Zx;rw [hxa] at h;rw [hxa];simpa using h
  refine Zp (Zj none 0 1 (Y5 Zx)) (Z0 1 (ic [] (E0 vs x2) ?_))
  rintro _ _ ⟨v2,rfl,rfl⟩
  exact Z2 (az (Z0 1 (ZE k (Z2 (ZJ ⟨k+1,(VZ vs x2),ob,(by have:=D5 vs x2;omega),(Oe Zy),(fun v hv=>(E9.1 hv).elim (YJ v) (fun e=>⟨x1,hxm,by rw [e];exact hxe⟩)),rfl,rfl,rfl⟩ (wk [] (fc (x:=ZV (VZ vs x2) v2) (Zd.forget _ _) (ZO k fl))))))))
 exact ax 0 (ar (Zm (r1 [] ⟨vs,rfl,rfl,⟨Zy,by omega,YJ⟩⟩)))
theorem Z5p (rn:List Z5) (v:Int) (hrn:∀s∈rn,∃a,s.args=[a]) (hl:rn.length<=100000000:=by exact ob):Zo 170 [Vb rn,.i v] [] (fun r h=>∃(z:Int),r=.i z/\h=[]/\-((Vv rn v:Nat):Int)<=z/\z<=((Vv rn v:Nat):Int)):=by
 refine ZG 44 Tryz.func170 (Y7 (Y7 (Y0 (ab 0 (Y3 (fun fz gz m F h=>∃(k:Nat) (z:Int),(k<=rn.length)/\(-((Vv (rn.take k) v:Nat):Int)<=z/\z<=((Vv (rn.take k) v:Nat):Int))/\F=sF [0,1] fz [(5,.i z),(6,.i k)]/\h=gz/\m=rn.length-k) _ _ _ ⟨0,0,ob,(by simp [Vv]),rfl,rfl,rfl⟩ (wk [] (fr (Yd fl))) ?_)))))
 rintro m F h ⟨k,z,Yk,Zh,rfl,rfl,rfl⟩
 refine YQ 2 (iw (Up rn) (ZZ ((k:Int)<(rn.length:Int)) (fun Z9=>?_) (fun Z9=>?_)))
 ·refine ak (aq (ab 1 (Yf 2 ?_)))
  obtain ⟨x1,Z4⟩:=Zv rn k om
  have hxm:=Y2 Z4
  obtain ⟨xa,hxa⟩:=hrn _ hxm
  have hct:=Z19 Z4 v
  have hcl:=Z1a rn (k+1) v
  have hcm:=Mz rn v
  refine Zp (Zj none (k:Int) 5 (WV Z4)) (Z0 2 ?_)
  obtain ⟨x2,Zx⟩:=Zv x1.args 0 (by rw [hxa];simp)
  have hg0:=K3 Zx
  rw [hg0] at hct
  refine Zp (Zj none 0 1 (Y5 Zx)) (Xp [0,1,5,6] [(29,.b ((x2==v)&&(x1.op==14)))] (fun gz=>gz) ?_ ?_)
  ·refine Z0 4 (ib (b:=(x2==v)) 22 (fun Zc=>?_) (fun Zc=>?_))
   ·exact Z0 2 (Zp (Zj none (k:Int) 5 (WV Z4)) (Z2 (wk [] (Zl (x1.op==14) Zc fl))))
   exact Z2 (wk [] (Zl false Zc fl))
  refine ac ((x2==v)&&(x1.op==14)) (p:=(x2=v)/\(x1.op=14)) (YI Zf Zf) (fun Zi=>?_) (fun Zi=>?_)
  ·exact az (Z0 1 (ia ((z+1)) ((z)+(1)) (Z2 (az (Z0 1 (ZE k (Z2 (ZJ ⟨k+1,(z+1),ob,(by first|(rw [hct,Zk om];omega)|(rw [hct,Za om];omega)),rfl,rfl,rfl⟩ (wk [] (fr (ZO k fl)))))))))))
  refine Yf 2 (Zp (Zj none (k:Int) 5 (WV Z4)) (Z0 2 (Zp (Zj none 0 1 (Y5 Zx)) (YC (x2==v) Zf (fun ZB=>?_) (fun ZB=>?_)))))
  ·exact az (Z0 1 (ia ((z-1)) ((z)-(1)) (Z2 (az (Z0 1 (ZE k (Z2 (ZJ ⟨k+1,(z-1),ob,(by first|(rw [hct,Zk om];omega)|(rw [hct,Za om];omega)),rfl,rfl,rfl⟩ (wk [] (fr (ZO k fl)))))))))))
  exact ak (az (Z0 1 (ZE k (Z2 (ZJ ⟨k+1,z,ob,(by first|(rw [hct,Zk om];omega)|(rw [hct,Za om];omega)),rfl,rfl,rfl⟩ (wk [] (fr (ZO k fl))))))))
 exact ax 0 (ar (Zm (r1 [] ⟨z,rfl,rfl,(by have e:=Zh;rw [WJ om] at e;exact e)⟩)))
theorem NS (rn:List Z5) (hrn:∀s∈rn,∃a,s.args=[a]) (hl:rn.length<=100000000:=by exact ob):Zo 146 [Vb rn] [] (fun r h=>∃(D:LI) (R:LI) (v:Value),r=Xc (D.map (Zt 14)++R.map (Zt 15)) v/\h=[.tail v 5]/\D.length+R.length<=rn.length/\(∀v∈D,∃s∈rn,s.args=[v])/\∀v∈R,∃s∈rn,s.args=[v]):=by
 refine ZG 51 Tryz.func146 (Y7 (ar (iL (Z6 []) 0 1 fun v1=>Z2 (ar (iL (Z6 []) 0 1 fun v2=>Z2 (Yf 1 (ic [] (Z66 rn (hrn:=ob)) ?_)))))))
 rintro _ _ ⟨vs1,rfl,rfl,Y6⟩
 have hvo:=Y6
 have hsl:=S8 rn hvo.1
 refine Z2 (Y0 (ab 0 (Y3 (fun fz gz m F h=>∃(k:Nat) (D:LI) (u:Value) (R:LI) (w:Value),(k<=vs1.length)/\(D.length+R.length<=Vj rn (vs1.take k))/\(∀v∈D,v∈vs1)/\(∀v∈R,v∈vs1)/\F=sF [0,5] fz [(3,ZV D u),(4,ZV R w),(6,.i k)]/\h=[.tail u 1,.tail w 1]/\m=vs1.length-k) _ _ _ ⟨0,[],v1,[],v2,ob,(by simp [Vj]),(fun v hv=>by cases hv),(fun v hv=>by cases hv),rfl,rfl,rfl⟩ (wk [1,0] (fw (Yd fl))) ?_)))
 rintro m F h ⟨k,D,u,R,w,Yk,Zh,Zy,YJ,rfl,rfl,rfl⟩
 refine YQ 2 (iw (Yc vs1) (ZZ ((k:Int)<(vs1.length:Int)) (fun Z9=>?_) (fun Z9=>?_)))
 ·refine ak (aq (ab 1 (Yf 3 ?_)))
  obtain ⟨x1,Z4⟩:=Zv vs1 k om
  have hst:=Zdb (rn:=rn) Z4
  have hsk:=LG rn vs1 (k+1)
  have hxm:=Y2 Z4
  refine Zp (Zj none (k:Int) 1 (Y5 Z4)) (Z0 1 (ic [] (Z5p rn x1 (hrn:=ob)) ?_))
  rintro _ _ ⟨z1,rfl,rfl,Yt⟩
  have hnt:=Yt
  refine Z2 (aq (ab 2 (Y3 (fun fz gz m F h=>∃(z:Int) (D2:LI) (u2:Value) (w2:Value),((D2.length:Int)+(R.length:Int)+z<=((Vj rn (vs1.take k):Nat):Int)+((Vv rn x1:Nat):Int))/\((D2.length:Int)+(R.length:Int)-z<=((Vj rn (vs1.take k):Nat):Int)+((Vv rn x1:Nat):Int))/\(∀v∈D2,v∈vs1)/\F=sF [0,5,6] fz [(3,ZV D2 u2),(4,ZV R w2),(7,.i z)]/\h=[.tail u2 1,.tail w2 1]/\m=z.toNat) _ _ _ ⟨z1,D,u,w,om,om,Zy,rfl,rfl,rfl⟩ (wk [0,0] fl) ?_)))
  rintro m F h ⟨z,D2,u2,w2,U7,Wb,XV,rfl,rfl,rfl⟩
  refine Xd (ZZ (z>0) (fun Zi=>?_) (fun Zi=>?_))
  ·exact ak (aq (ab 3 (az (Z0 3 (Zp (Zj none (k:Int) 1 (Y5 Z4)) (Z0 1 (iL (Z6 [x1]) 1 1 fun v3=>ZM 0 [(33,Z3 [x1])] (ip 1 (Z6 (D2++[x1])) (Z6 D2) (Z6 [x1]) u2 none 1 (YG _) (YG _) (W4 _) (by simp<;>omega) (by simp [W3,Z6]) fun v4=>Z2 (az (Z0 1 (ia ((z-1)) ((z)-(1)) (Z2 (ZJ ⟨(z-1),(D2++[x1]),v4,w2,(by simp only [Yl,Yw,X5];omega),(by simp only [Yl,Yw,X5];omega),(Xx XV hxm),rfl,rfl,rfl⟩ (wk [0,1] fl))))))))))))))
  refine ax 2 (ab 4 (Y3 (fun fz gz m F h=>∃(y:Int) (R2:LI) (u3:Value) (w3:Value),((D2.length:Int)+(R2.length:Int)+y<=((Vj rn (vs1.take k):Nat):Int)+((Vv rn x1:Nat):Int))/\((D2.length:Int)+(R2.length:Int)-y<=((Vj rn (vs1.take k):Nat):Int)+((Vv rn x1:Nat):Int))/\(∀v∈R2,v∈vs1)/\F=sF [0,5,6] fz [(3,ZV D2 u3),(4,ZV R2 w3),(7,.i y)]/\h=[.tail u3 1,.tail w3 1]/\m=(-y).toNat) _ _ _ ⟨z,R,u2,w2,ob,ob,YJ,rfl,rfl,rfl⟩ (wk [0,0] fl) ?_))
  rintro m F h ⟨y,R2,u3,w3,F6,BJ,BK,rfl,rfl,rfl⟩
  refine Xd (ZZ (y<0) (fun ZB=>?_) (fun ZB=>?_))
  ·exact ak (aq (ab 5 (az (Z0 3 (Zp (Zj none (k:Int) 1 (Y5 Z4)) (Z0 1 (iL (Z6 [x1]) 1 1 fun v5=>ZM 0 [(44,Z3 [x1])] (ip 2 (Z6 (R2++[x1])) (Z6 R2) (Z6 [x1]) w3 none 1 (YG _) (YG _) (W4 _) (by simp<;>omega) (by simp [W3,Z6]) fun v6=>Z2 (az (Z0 1 (ia ((y+1)) ((y)+(1)) (Z2 (ZJ ⟨(y+1),(R2++[x1]),u3,v6,(by simp only [Yl,Yw,X5];omega),(by simp only [Yl,Yw,X5];omega),(Xx BK hxm),rfl,rfl,rfl⟩ (wk [2,0] fl))))))))))))))
  exact ax 4 (az (Z0 1 (ZE k (Z2 (ZJ ⟨k+1,D2,u3,R2,w3,ob,(by rw [hst];omega),XV,BK,rfl,rfl,rfl⟩ (wk [0,0] (fw (ZO k fl))))))))
 have XL:=LG rn vs1 k
 refine ax 0 (ar (ZM 1 [(46,Z3 D)] (ic [] (Kf 14 D) ?_)))
 rintro _ _ ⟨v7,rfl,rfl⟩
 refine ZM 1 [(48,Z3 R)] (ic [] (Kf 15 R) ?_)
 rintro _ _ ⟨v8,rfl,rfl⟩
 exact ZM 0 [(49,Vb (R.map (Zt 15)))] (ip 1 (ZL ((D.map (Zt 14))++(R.map (Zt 15)))) (ZL (D.map (Zt 14))) (ZL (R.map (Zt 15))) v7 none 5 (XC _) (XC _) (Ua _) (by simp<;>omega) (by simp [Vg,ZL]) fun v9=>Zm (r2 [0] [Xc ((D.map (Zt 14))++(R.map (Zt 15))) v9] ⟨_,_,v9,rfl,rfl,⟨by have:=LG rn vs1 k;omega,fun v hv=>hvo.2.2 v (Zy v hv),fun v hv=>hvo.2.2 v (YJ v hv)⟩⟩ (Zd.slh _ (Yp ZL ob))))
theorem Z4n (ds:List Zb) (nf:Nat) (b:Z7) (mm:Nat) (hf:fB ds nf mm b) (hop:Vc Vl b) (hz:b.sz<=100000000) (ih:∀(b2:Z7) (m2:Nat),(fB ds nf m2 b2)->(Vc Vl b2)->(b2.sz<=100000000)->(b2.sz<b.sz)->Zo 120 [Yh b2] [] (fun r h=>∃(y:Z7),r=Yh y/\h=[]/\KB ds nf m2 y b2.sz)):Zo 120 [Yh b] [] (fun r h=>∃(y:Z7),r=Yh y/\h=[]/\KB ds nf mm y b.sz):=by
 have hbe:=b.sz_eq
 have ZI:=Uk b
 obtain ⟨hfs,hr1,hr2⟩:=(Kt b).1 hf
 have hos:=Ch.1 ((G7 b).1 hop)
 refine ZG 72 Tryz.func120 (ar (iA (XR b) fun b1=>iA [nl,.i 0] fun b2=>ie (ar (iL (ZL []) 0 5 fun v1=>Z2 (ar (iL (ZL []) 0 5 fun v2=>?_))))))
 refine Z2 (Y0 (ab 0 (Y3 (fun fz gz m F h=>∃(k:Nat) (xs:List Z5) (v:Value) (rn:List Z5) (u:Value) (z0:Nat),(k<=b.steps.length)/\(CL ds nf mm xs (Yn (b.steps.take k)) z0)/\(z0+2*rn.length<=Yo (b.steps.take k))/\(M5 (mm+(Yn (b.steps.take k))) rn)/\F=sF [1,2] fz [(3,Xc xs v),(4,Xc rn u),(5,.i k)]/\h=[Zg gz 2,Zg gz 3,.tail u 5,.tail v 5]/\m=b.steps.length-k) _ _ _ ⟨0,[],v1,[],v2,0,ob,CL.nil,(by simp [Yo]),(fun s hs=>by cases hs),rfl,rfl,rfl⟩ (wk [2,2,0,0] (fw (Yd fl))) ?_)))
 rintro m F h ⟨k,xs,v,rn,u,z0,Yk,Zh,Zy,YJ,rfl,rfl,rfl⟩
 refine Yr 3 [1] (iw (Up b.steps) (ZZ ((k:Int)<(b.steps.length:Int)) (fun Z9=>?_) (fun Z9=>?_)))
 ·refine ak (aq (ab 1 (Zq 3 [1] ?_)))
  obtain ⟨x1,Z4⟩:=Zv b.steps k om
  have XL:=Cm Z4
  have hfS:=(An x1).1 (CU hfs Z4)
  have hoS:=(El x1).1 (hos x1 (Y2 Z4))
  have htk:=GH Z4
  have htl:=Kh b.steps (k+1)
  have hse:=(x1).sz_eq
  have hdt:=MO Z4
  have hxl:=Zh.len
  have hkl2:=F3 (x1).kids
  refine Zp (Zj none (k:Int) 5 (WV Z4)) (Z0 1 (iA [.i 0,.i 0,.i 0,nl,nl] fun b3=>Zz 0 b3 (W8 x1) (ie (Zq 1 [0] (Zu [] (RI x1) (ie (ac ((x1.op==14)||(x1.op==15)) (p:=(x1.op=14)∨(x1.op=15)) (ZY Zf Zf) (fun Zi=>?_) (fun Zi=>?_))))))))
  ·refine az (ZA 2 [0] (Uv [X0 x1] (ZL [x1]) (VQ [x1]).symm 1 5 fun v3=>ZM 0 [(27,Vb [x1])] (ip 4 (ZL (rn++[x1])) (ZL rn) (ZL [x1]) u none 5 (XC _) (XC _) (Ua _) (by simp<;>omega) (by simp [Vg,ZL]) fun v4=>Z2 (az (Z0 1 (ZE k (Z2 ?_)))))))
   obtain ⟨⟨pa,hpa,hpr⟩,Yt,hpc⟩:=hfS.pair (by assumption)
   rw [Zk hpc,BB] at hdt
   exact ZJ ⟨k+1,xs,v,(rn++[x1]),v4,_,ob,(by rw [hdt];exact Zh),(by rw [htk];simp only [Yl,Yw,X5];omega),(by rw [hdt];exact Xx YJ ⟨pa,hpa,hpr⟩),rfl,rfl,rfl⟩ (wk [3,3,0,2] (fw (ZO k fl)))
  refine ar (ZM 2 [(30,Vb rn)] (ic [] (NS rn (hrn:=(fun s hs=>(YJ s hs).elim fun a h=>⟨a,h.1⟩))) ?_))
  rintro _ _ ⟨D1,R1,v5,rfl,rfl,Y6⟩
  have hsr:=Y6
  have hq1:=Zh.run YJ hsr.2.1 hsr.2.2
  have hl1:=Zh.len
  have htl1:=Kh b.steps k
  refine ZM 0 [(31,Vb (D1.map (Zt 14)++R1.map (Zt 15)))] (ip 5 (ZL (xs++(D1.map (Zt 14)++R1.map (Zt 15)))) (ZL xs) (ZL (D1.map (Zt 14)++R1.map (Zt 15))) v none 5 (XC _) (XC _) (Ua _) (by simp<;>omega) (by simp [Vg,ZL]) fun v6=>Z2 (ar (iL (ZL []) 0 5 fun v7=>Z2 (ar (iL (XM []) 0 2 fun v8=>?_)))))
  refine Z2 (Y0 (ab 2 (Y3 (fun fz gz m F h=>∃(j:Nat) (ks:List Z7) (w:Value) (v3:Value) (u4:Value),(j<=x1.kids.length)/\(ks.length=j)/\(KK ds nf (WL ds x1.op x1.num (mm+(Yn (b.steps.take k)))) ks (YS (x1.kids.take j)))/\F=sF [1,2,5,6] fz [(3,Xc (xs++(D1.map (Zt 14)++R1.map (Zt 15))) v3),(4,Xc [] u4),(7,Q2 ks w),(8,.i j)]/\h=[Zg gz 4,Zg gz 5,Zg gz 6,.tail u4 5,.tail v3 5,.tail w 2]/\m=x1.kids.length-j) _ _ _ ⟨0,[],v8,v6,v7,ob,ob,(KK.nil.le (QS _)),rfl,rfl,rfl⟩ (wk [4,4,4,1,1,0] (fw (fr (Yd fl)))) ?_)))
  rintro m F h ⟨j,ks,w,v3,u4,U7,Wb,XV,rfl,rfl,rfl⟩
  refine Yr 3 [0] (iw (QZ x1.kids) (ZZ ((j:Int)<(x1.kids.length:Int)) (fun ZB=>?_) (fun ZB=>?_)))
  ·refine ak (aq (ab 3 (az (ZA 4 [0] ?_))))
   obtain ⟨x2,Zx⟩:=Zv x1.kids j om
   have hkz:=Q0 Zx
   have hfk:=B4 hfS.kids Zx
   rw [Wh] at hfk
   have hok:=Dg.1 hoS.2 x2 (Y2 Zx)
   have hbt:=F4 Zx
   refine Zp (Zj none (j:Int) 2 (UE Zx)) (Z0 1 (ic [] (ih x2 (WL ds x1.op x1.num (mm+(Yn (b.steps.take k))) j) hfk hok ob ob) ?_))
   rintro _ _ ⟨y1,rfl,rfl,Yt⟩
   have hkb:=Yt
   exact Uv [Yh y1] (XM [y1]) (Qv [y1]).symm 1 2 fun v9=>ZM 0 [(49,Jh [y1])] (ip 6 (XM (ks++[y1])) (XM ks) (XM [y1]) w none 2 (Ks _) (Ks _) (Fe _) (by simp<;>omega) (by simp [BT,XM]) fun v10=>Z2 (az (Z0 1 (ZE j (Z2 (ZJ ⟨j+1,(ks++[y1]),v10,v3,u4,ob,ob,((XV.snoc Wb hkb).le om),rfl,rfl,rfl⟩ (wk [2,2,2,2,2,0] (fw (fr (ZO j fl))))))))))
  refine ax 2 (aE 15 (ZU 5 15 [0,1,2,3,4,5,6,7,8,10] [0,0,0,0] (Z8 9 (dc 9 [] [0,0,0] [b3,b3,b3] (WI x1.args) ?_))))
  rintro _ _ ⟨v11,rfl,rfl⟩
  refine Yq 3 4 [11] [(62,.agg [.i x1.op,.i x1.num,.i x1.into,Z3 x1.args,Jh ks])] (Z8 12 (Wx 12 [] [] [X0 (Z5.mk x1.op x1.num x1.into x1.args ks)] (ZL [Z5.mk x1.op x1.num x1.into x1.args ks]) (VQ [Z5.mk x1.op x1.num x1.into x1.args ks]).symm 1 5 fun v12=>Yq 2 2 [] [(63,Vb [Z5.mk x1.op x1.num x1.into x1.args ks])] (Z8 13 (dp 13 6 [] [] (ZL ((xs++(D1.map (Zt 14)++R1.map (Zt 15)))++[Z5.mk x1.op x1.num x1.into x1.args ks])) (ZL (xs++(D1.map (Zt 14)++R1.map (Zt 15)))) (ZL [Z5.mk x1.op x1.num x1.into x1.args ks]) v3 none 5 (XC _) (XC _) (Ua _) (by simp<;>omega) (by simp [Vg,ZL]) fun v13=>Zs 0 1 [14] (de (az (Z0 1 (ZE k (Z2 ?_)))))))))
  obtain ⟨hn1,hn2⟩:=hfS.not_pair (by assumption) hoS.1
  rw [Za (by rw [hn2];simp)] at hdt
  have hbj:=Ho (xs:=x1.kids) (k:=j) om
  have hkt:=KT.eq hfS hn1 om XV
  have hq2:=hq1.kt hkt
  exact ZJ ⟨k+1,((xs++(D1.map (Zt 14)++R1.map (Zt 15)))++[Z5.mk x1.op x1.num x1.into x1.args ks]),v13,[],u4,_,ob,(by rw [hdt];exact hq2),(by rw [htk];simp only [X5];omega),(fun s hs=>by cases hs),rfl,rfl,rfl⟩ (wk [4,4,4,0] (fw (ZO k fl)))
 have htl2:=Kh b.steps k
 have hxl2:=Zh.len
 refine ax 0 (aD 8 (CH 4 8 [0,1,4,5] [(66,Vb rn)] [1] (Z8 2 (dc 2 [] [1] [b1] (NS rn (hrn:=(fun s hs=>(YJ s hs).elim fun a h=>⟨a,h.1⟩))) ?_))))
 rintro _ _ ⟨D2,R2,v14,rfl,rfl,YP⟩
 have hsr:=YP
 have hq1:=Zh.run YJ hsr.2.1 hsr.2.2
 have hl1:=Zh.len
 have htl1:=Kh b.steps k
 exact Yq 3 3 [] [(67,Vb (D2.map (Zt 14)++R2.map (Zt 15)))] (Z8 3 (dp 3 4 [1] [b1] (ZL (xs++(D2.map (Zt 14)++R2.map (Zt 15)))) (ZL xs) (ZL (D2.map (Zt 14)++R2.map (Zt 15))) v none 5 (XC _) (XC _) (Ua _) (by simp<;>omega) (by simp [Vg,ZL]) fun v15=>Zs 1 2 [6] (Z8 7 (YZ 7 2 [] [] b2 [Xc (xs++(D2.map (Zt 14)++R2.map (Zt 15))) v15,.i b.result] (de (ZT (r3 [] [.agg [Xc (xs++(D2.map (Zt 14)++R2.map (Zt 15))) v15,.i b.result]] [0] [(b2,b2)] ⟨(Z7.mk (xs++(D2.map (Zt 14)++R2.map (Zt 15))) b.result),rfl,rfl,(by have e:b.steps.take k=b.steps:=WJ om;rw [e] at Zy hq1;exact (hq1.block ⟨hr1,hr2⟩).le om)⟩ (Zd.agg (.cons (Zd.forget _ _) (.cons (lr _) .nil))))))))))
theorem Z4m (ds:List Zb) (nf:Nat) (b:Z7) (mm:Nat) (hf:fB ds nf mm b:=by exact ob) (hop:Vc Vl b:=by exact ob) (hz:b.sz<=100000000:=by exact ob):Zo 120 [Yh b] [] (fun r h=>∃(y:Z7),r=Yh y/\h=[]/\KB ds nf mm y b.sz):=by
 have key:∀k:Nat,∀(b2:Z7) (m2:Nat),(fB ds nf m2 b2)->(Vc Vl b2)->(b2.sz<=100000000)->(b2.sz<k)->Zo 120 [Yh b2] [] (fun r h=>∃(y:Z7),r=Yh y/\h=[]/\KB ds nf m2 y b2.sz):=by
  intro k
  induction k with
  | zero=>intro b2 m2 h1 h2 h3 h9;omega
  | succ k ih=>intro b2 m2 h1 h2 h3 h9;exact Z4n ds nf b2 m2 h1 h2 h3 fun b3 m3 q1 q2 q3 q9=>ih b3 m3 q1 q2 q3 om
 exact key (b.sz+1) b mm hf hop hz om
theorem Z4o (n:ZC) (qz:Nat) (hn:FO n qz Vl:=by exact ob) (hqz:qz<=10000000:=by exact ob):Zo 78 [YB n] [] (fun r h=>∃(n2:ZC),r=YB n2/\h=[]/\FO n2 qz Vl):=by
 have hnl:=hn.fn.len
 have Xl:=hn.fn.decls.ok
 have hok:=hn.fn.ok
 refine ZG 36 Tryz.func78 (ar (iA (X4 n) fun b1=>iA [nl,nl] fun b2=>ie (Zq 2 [1] (Zu [] (AF n.decls) (iL (X6 []) 0 5 fun v1=>Z0 1 (iA [nl,nl] fun b3=>?_))))))
 refine Zz 0 b3 [Ya n.decls,WG [] v1] (ie (Y0 (ab 0 (Y3 (fun fz gz m F h=>∃(k:Nat) (rs:List Yz) (u:Value),(k<=n.routines.length)/\(rs.length=k)/\(∀r∈rs,RF n.decls n.routines.length qz Vl r)/\F=sF [1,2,3] fz [(4,.i k)]/\h=[.obj b3 [Ya n.decls,WG rs u],Zg gz 2,Zg gz 3,.tail u 5]/\m=n.routines.length-k) _ _ _ ⟨0,[],v1,ob,ob,(fun r hr=>by cases hr),rfl,rfl,rfl⟩ (wk [0,1,1,0] (Yd fl)) ?_))))
 rintro m F h ⟨k,rs,u,Yk,Zh,Zy,rfl,rfl,rfl⟩
 refine Yr 3 [2] (iw (TB n.routines) (ZZ ((k:Int)<(n.routines.length:Int)) (fun Z9=>?_) (fun Z9=>?_)))
 ·refine ak (aq (ab 1 (aE 19 (ZU 14 19 [0,1,2,3,4] [0,2] ?_))))
  obtain ⟨x1,Z4⟩:=Zv n.routines k om
  have hrf:=hn.rf (Y2 Z4)
  have hrp:(x1).params.length<=3:=(T9.bd (f:=⟨(x1).params,(x1).result,default⟩) hrf.sig).1
  have hrl:=hrf.lent.1
  have hrz:=hrf.body.2
  refine dx 5 (Zj none (k:Int) 5 (Vw Z4)) (ZU 9 13 [6,7,8,9] [2] (dx 10 (Zj none (k:Int) 5 (Vw Z4)) (Zs 6 8 [11,12] (Z8 13 (dc 13 [] [2,0] [b1,b3] (Z4m n.decls n.routines.length x1.body _ (hf:=hrf.body.1) (hop:=hrf.op)) ?_)))))
  rintro _ _ ⟨y1,rfl,rfl,Y6⟩
  have hkb0:=Y6
  have hkb:=hkb0.le (z2:=qz) hrz
  exact Z8 14 (YH 14 [] [0] [b3] (Ds x1 y1 (hp:=om) (hl:=om)) (Z8 15 (dL 15 [0] [b3] (X6 [Yz.mk x1.params x1.lent x1.result y1]) 1 5 fun v2=>Yq 3 3 [] [(32,Ji [Yz.mk x1.params x1.lent x1.result y1])] (Z8 16 (dp 16 4 [] [] (X6 (rs++[Yz.mk x1.params x1.lent x1.result y1])) (X6 rs) (X6 [Yz.mk x1.params x1.lent x1.result y1]) u none 5 (UR _) (UR _) (B1 _) (by simp<;>omega) (by simp [CP,X6]) fun v3=>Zs 1 2 [17] (Z8 18 (YZ 18 2 [] [] b3 [Ya n.decls,WG (rs++[Yz.mk x1.params x1.lent x1.result y1]) v3] (de (az (Z0 1 (ZE k (Z2 (ZJ ⟨k+1,(rs++[Yz.mk x1.params x1.lent x1.result y1]),v3,ob,ob,(Xx Zy (hrf.with hkb.fb hkb.sz hkb.op)),rfl,rfl,rfl⟩ (wk [0,2,2,0] (ZO k fl)))))))))))))))
 exact ax 0 (Zq 1 [0] (Zz 1 b2 [Ya n.decls,WG rs u] (ie (ZT (r3 [] [.agg [Ya n.decls,WG rs u]] [0] [(b2,b2)] ⟨(ZC.mk n.decls rs),rfl,rfl,(FO.fin hn.fn om Zy).1⟩ (Zd.agg (.cons (lr _) (.cons (Zd.forget _ _) .nil))))))))
theorem OF (b:Nat) (ga:Hd) (gb:Hd) (gc:Hd) (gd:Hd) (ge:Hd) (gf:Hd) (n:ZC) (s:Z5) (L:ZH) (ln:LI) (q:Int) (i:Nat) (kb0:Z7) (m:LI) (hn:Xr n:=by exact ob) (hk:XG n.decls L q:=by exact ob) (hf:BE n L.vars s:=by exact ob) (hop:s.op=7∨s.op=8:=by exact ob) (hkb:s.kids[i]? = some kb0:=by exact ob) (harm:(XU n.decls s.op s.num)[i]? = some m:=by exact ob) (hbt:0<=XW n (L.vars++m) kb0:=by exact ob) (hb:L.vars.length+4*s.sz<=1000000000:=by exact ob) (hq:0<=q/\q+4*s.sz<=999999990:=by exact ob) (hln:ln.length<=4294967296:=by exact ob) (ih:∀(b2:Z7) (c:Nat) (ra:Hd) (rb:Hd) (rc:Hd) (rd:Hd) (re:Hd) (rf:Hd) (M:ZH) (mm:Nat) (p:Int),(b2.sz<s.sz)->(XG n.decls M p)->(0<=XW n M.vars b2)->(mm<=M.vars.length)->(M.vars.length+4*b2.sz<=1000000000)->(0<=p/\p+4*b2.sz<=999999990)->Zo 227 [.p c 0,YB n,Yh b2,.i mm] [.obj c [.h ra,.h rb,.h rc,.h rd,.h re,.h rf,Z3 ln],rV ra M.vars,rV rb M.own,rV rc M.par,rV rd M.con,rV re M.fst,rV rf M.tok] (fun r h=>(∃(wa:Hd) (wb:Hd) (wc:Hd) (wd:Hd) (we:Hd) (wf:Hd) (M':ZH),r=.b true/\h=[.obj c [.h wa,.h wb,.h wc,.h wd,.h we,.h wf,Z3 ln],rV wa M'.vars,rV wb M'.own,rV wc M'.par,rV wd M'.con,rV we M'.fst,rV wf M'.tok]/\VM n ln M mm b2=some M')∨(r=.b false/\h=[]/\VM n ln M mm b2=none))):Zo 206 [.p b 0,YB n,X0 s,.i i] [.obj b [.h ga,.h gb,.h gc,.h gd,.h ge,.h gf,Z3 ln],rV ga L.vars,rV gb L.own,rV gc L.par,rV gd L.con,rV ge L.fst,rV gf L.tok] (fun r h=>(∃(c:Nat) (wa:Hd) (wb:Hd) (wc:Hd) (wd:Hd) (we:Hd) (wf:Hd) (L':ZH),r=.tup [.p c 0,.b true]/\h=[.obj c [.h wa,.h wb,.h wc,.h wd,.h we,.h wf,Z3 ln],rV wa L'.vars,rV wb L'.own,rV wc L'.par,rV wd L'.con,rV we L'.fst,rV wf L'.tok,.obj b [.h ga,.h gb,.h gc,.h gd,.h ge,.h gf,Z3 ln],rV ga L.vars,rV gb L.own,rV gc L.par,rV gd L.con,rV ge L.fst,rV gf L.tok]/\VM n ln (Ts n.decls L s.op s.num s.args i) L.vars.length kb0=some L')∨(r=.tup [.any,.b false]/\h=[.obj b [.h ga,.h gb,.h gc,.h gd,.h ge,.h gf,Z3 ln],rV ga L.vars,rV gb L.own,rV gc L.par,rV gd L.con,rV ge L.fst,rV gf L.tok]/\VM n ln (Ts n.decls L s.op s.num s.args i) L.vars.length kb0=none)):=by
 obtain ⟨e1,e2,e3,e4,e5⟩:=hk.len
 have Xl:=hn.decls
 have hkz:=QC s
 have haz:=KX s
 have hK:=FP hk hq.1 hf hop harm
 have hm3:=Mg Xl harm
 have hkl:=(Xh.1 hkb).1
 have hks:=Q0 hkb
 refine ZG 83 Tryz.func206 (ar (iA (X4 n) fun b1=>iA (W8 s) fun b2=>Z2 (Zq 4 [2] (Zp (Cq 3 ga L.vars) (Z2 (Yf 1 (ic [2,2,2,2,2,2,2] (Z86 b ga gb gc gd ge gf L ln (hlk:=hk.len)) ?_)))))))
 rintro _ _ ⟨c1,wa1,wb1,wc1,wd1,we1,wf1,rfl,rfl⟩
 refine Z2 (Xd (WT [14] (ac (s.op==8) Zf (fun Z9=>?_) (fun Z9=>?_))))
 ·obtain ⟨x,hxa⟩:=hf.one om
  have ha:s.args[0]? = some x:=by rw [hxa];rfl
  have hx:=hf.args x (by rw [hxa];simp)
  obtain ⟨cc,hcc,hmc⟩:=Z0l Z9 harm
  have hal:=(Xh.1 ha).1
  have hcl:=(Xh.1 hcc).1
  have hm4:=hm3
  rw [hmc] at hm4
  refine Zq 4 [15,14] (ic [] (KL n.decls s.num) ?_)
  rintro _ _ ⟨v1,rfl,rfl⟩
  refine Z0 1 (Zp (Zj (some v1) (i:Int) 1 (Y5 hcc)) (Z2 (Zq 3 [16] (Zu [] (Q3 n.decls cc) (Z2 (aD 11 (ZU 5 11 [0,1,2,3,4,5] [1,15] (dx 6 (Zj none 0 1 (Y5 ha)) (Zs 2 4 [7,8] (dx 9 (VV 5 wd1 L.con x x.toNat (hq:=rfl)) (Z8 10 (BP 10 5 [] [] wd1 L.con x.toNat cc (de (aD 11 (ZU 5 11 [0,1,2,3,4,5] [2,15] (dx 6 (Zj none 0 1 (Y5 ha)) (Zs 2 4 [7,8] (dx 9 (VV 6 we1 L.fst x x.toNat (hq:=rfl)) (Z8 10 (BP 10 6 [] [] we1 L.fst x.toNat (L.vars.length:Int) (de (Y7 (ab 0 (Y3 (fun fz gz m F h=>∃(k:Nat) (L3:ZH) (ka:Hd) (kb:Hd) (kc:Hd) (kd:Hd) (ke:Hd) (kf:Hd),(k<=(ZK n.decls cc).length)/\(T8 L3)/\(L3.vars.length=L.vars.length+k)/\(C3 L3 x ((ZK n.decls cc).drop k)=BI n.decls L x cc)/\F=sF [3,5,6,10,11,13] fz [(14,.i k)]/\h=[.obj c1 [.h ka,.h kb,.h kc,.h kd,.h ke,.h kf,Z3 ln],Zg gz 8,Zg gz 9,Zg gz 10,Zg gz 11,Zg gz 12,Zg gz 13,Zg gz 14,Zg gz 15,Zg gz 16,rV ka L3.vars,rV kb L3.own,rV kc L3.par,rV kd L3.con,rV ke L3.fst,rV kf L3.tok]/\m=(ZK n.decls cc).length-k) _ _ _ ⟨0,(ZH.mk L.vars L.own L.par (L.con.set x.toNat cc) (L.fst.set x.toNat (L.vars.length:Int)) L.tok),wa1,wb1,wc1,wd1,we1,wf1,ob,(T8.arm hk.len),ob,(by rw [BI];rfl),rfl,rfl,rfl⟩ (wk [3,7,7,7,7,7,7,7,7,7,3,3,3,1,0,1] (Yd fl) (e:=(rc (rc (rc (rc (rc (rc (rc (rc (rc (rc (rv (xs:=L.vars) ob (rv (xs:=L.own) ob (rv (xs:=L.par) ob (rv (xs:=(L.con.set x.toNat cc)) ob (rv (xs:=(L.fst.set x.toNat (L.vars.length:Int))) ob (rv (xs:=L.tok) ob rz)))))))))))))))))) ?_))))))))))))))))))))))))
  rintro m F h ⟨k,L3,ka,kb,kc,kd,ke,kf,Yk,Zh,Zy,YJ,rfl,rfl,rfl⟩
  refine YQ 2 (io (.i (((ZK n.decls cc).length:Nat):Int)) (.i (((Z6 (ZK n.decls cc)).length:Nat):Int)) (li (by rw [Yc])) (ZZ ((k:Int)<(((ZK n.decls cc).length:Nat):Int)) (fun Zi=>?_) (fun Zi=>?_)))
  ·refine ak (aq (ab 1 (aE 10 (Zs 7 10 [0,1,2] ?_))))
   obtain ⟨x1,Z4⟩:=Zv (ZK n.decls cc) k om
   refine dx 3 (Zj none (k:Int) 1 (Y5 Z4)) (ZU 3 6 [4,5,6] [8] (dx 7 (Zj none 0 1 (Y5 ha)) (Zs 1 2 [8] (Z8 9 (dc 9 [0,9,9,9,9,9,9] [] [] (K7 c1 ka kb kc kd ke kf L3 ln x1 0 x (hlk:=Zh)) ?_)))))
   rintro _ _ ⟨wa2,wb2,wc2,wd2,we2,wf2,rfl⟩
   exact de (az (Z0 1 (ZE k (Z2 (ZJ ⟨k+1,(L3.grow x1 0 x),wa2,wb2,wc2,wd2,we2,wf2,ob,(T8.grow Zh),(by simp [ZH.grow];omega),(by rw [Yi Z4,C3] at YJ;exact YJ),rfl,rfl,rfl⟩ (wk [0,6,6,6,6,6,6,6,6,6,0,0,0,0,0,0] (ZO k fl)))))))
  have hE:Ts n.decls L s.op s.num s.args i=L3:=by rw [Z7p Z9 ha hcc,<-YJ,Xt om];rfl
  refine ax 0 (aD 12 (ZU 6 12 [0,1,2,3,4,5] [9,8] (dx 6 (Zj none (i:Int) 2 (UE hkb)) (Zs 3 5 [7,8] (Z8 9 (dc 9 [0,9,9,9,9,9,9] [] [] (ih kb0 c1 ka kb kc kd ke kf L3 L.vars.length q ob (by rw [<-hE];exact hK.1) (by rw [<-hE,hK.2];exact hbt) (by rw [<-hE,hK.2];simp) (by rw [<-hE,hK.2,Yl];omega) ob) ?_))))))
  rintro _ _ (⟨wa3,wb3,wc3,wd3,we3,wf3,M'1,rfl,rfl,Y6⟩|⟨rfl,rfl,Yt⟩)
  ·exact Zs 0 2 [10,11] (de (ZT (r2 [0,0,0,0,0,0,0,0,0,0,0,0,0,0] [.p c1 0,.b true] (.inl ⟨c1,wa3,wb3,wc3,wd3,we3,wf3,M'1,rfl,rfl,(by rw [hE];exact Y6)⟩) (lr _))))
  exact Zs 0 2 [10,11] (de (ZT (r2 [0,0,0,0,0,0,0] [.p c1 0,.b false] (.inr ⟨rfl,rfl,(by rw [hE];exact Yt)⟩) (Zd.tup (.cons (Zd.any _) (.cons (lr _) .nil))))))
 have hE:=Z7q (ds:=n.decls) (L:=L) (num:=s.num) (args:=s.args) (i:=i) Z9
 refine ak (aD 12 (ZU 6 12 [0,1,2,3,4,5] [15,14] (dx 6 (Zj none (i:Int) 2 (UE hkb)) (Zs 3 5 [7,8] (Z8 9 (dc 9 [0,0,0,0,0,0,0] [] [] (ih kb0 c1 wa1 wb1 wc1 wd1 we1 wf1 L L.vars.length q ob (by rw [<-hE];exact hK.1) (by rw [<-hE,hK.2];exact hbt) (by rw [<-hE,hK.2];simp) (by rw [<-hE,hK.2,Yl];omega) ob) ?_))))))
 rintro _ _ (⟨wa4,wb4,wc4,wd4,we4,wf4,M'2,rfl,rfl,YP⟩|⟨rfl,rfl,X2⟩)
 ·exact Zs 0 2 [10,11] (de (ZT (r2 [0,0,0,0,0,0,0,0,0,0,0,0,0,0] [.p c1 0,.b true] (.inl ⟨c1,wa4,wb4,wc4,wd4,we4,wf4,M'2,rfl,rfl,(by rw [hE];exact YP)⟩) (lr _))))
 exact Zs 0 2 [10,11] (de (ZT (r2 [0,0,0,0,0,0,0] [.p c1 0,.b false] (.inr ⟨rfl,rfl,(by rw [hE];exact X2)⟩) (Zd.tup (.cons (Zd.any _) (.cons (lr _) .nil))))))
theorem Z85 (b:Nat) (ga:Hd) (gb:Hd) (gc:Hd) (gd:Hd) (ge:Hd) (gf:Hd) (n:ZC) (s:Z5) (L:ZH) (ln:LI) (q:Int) (hn:Xr n:=by exact ob) (hk:XG n.decls L q:=by exact ob) (hf:BE n L.vars s:=by exact ob) (hop:s.op=7∨s.op=8:=by exact ob) (hb:L.vars.length+4*s.sz<=1000000000:=by exact ob) (hq:0<=q/\q+4*s.sz<=999999990:=by exact ob) (hln:ln.length<=4294967296:=by exact ob) (ih:∀(b2:Z7) (c:Nat) (ra:Hd) (rb:Hd) (rc:Hd) (rd:Hd) (re:Hd) (rf:Hd) (M:ZH) (mm:Nat) (p:Int),(b2.sz<s.sz)->(XG n.decls M p)->(0<=XW n M.vars b2)->(mm<=M.vars.length)->(M.vars.length+4*b2.sz<=1000000000)->(0<=p/\p+4*b2.sz<=999999990)->Zo 227 [.p c 0,YB n,Yh b2,.i mm] [.obj c [.h ra,.h rb,.h rc,.h rd,.h re,.h rf,Z3 ln],rV ra M.vars,rV rb M.own,rV rc M.par,rV rd M.con,rV re M.fst,rV rf M.tok] (fun r h=>(∃(wa:Hd) (wb:Hd) (wc:Hd) (wd:Hd) (we:Hd) (wf:Hd) (M':ZH),r=.b true/\h=[.obj c [.h wa,.h wb,.h wc,.h wd,.h we,.h wf,Z3 ln],rV wa M'.vars,rV wb M'.own,rV wc M'.par,rV wd M'.con,rV we M'.fst,rV wf M'.tok]/\VM n ln M mm b2=some M')∨(r=.b false/\h=[]/\VM n ln M mm b2=none))):Zo 167 [.p b 0,YB n,X0 s] [.obj b [.h ga,.h gb,.h gc,.h gd,.h ge,.h gf,Z3 ln],rV ga L.vars,rV gb L.own,rV gc L.par,rV gd L.con,rV ge L.fst,rV gf L.tok] (fun r h=>(∃(wa:Hd) (wb:Hd) (wc:Hd) (wd:Hd) (we:Hd) (wf:Hd) (L':ZH),r=.b true/\h=[.obj b [.h wa,.h wb,.h wc,.h wd,.h we,.h wf,Z3 ln],rV wa L'.vars,rV wb L'.own,rV wc L'.par,rV wd L'.con,rV we L'.fst,rV wf L'.tok]/\BM n ln L s=some L')∨(r=.b false/\h=[]/\BM n ln L s=none)):=by
 obtain ⟨e1,e2,e3,e4,e5⟩:=hk.len
 have Xl:=hn.decls
 have hkz:=QC s
 have haz:=KX s
 obtain ⟨hk1,hk2,hk3⟩:=hf.kids hop
 obtain ⟨kd,hkd⟩:=Zv s.kids 0 om
 obtain ⟨m0,hm0⟩:=Zv (XU n.decls s.op s.num) 0 om
 obtain ⟨x,hxa⟩:=hf.one om
 have ha:s.args[0]? = some x:=by rw [hxa];rfl
 have hx:=hf.args x (by rw [hxa];simp)
 have hgx:=K3 ha
 have hal:=(Xh.1 ha).1
 refine ZG 88 Tryz.func167 (ar (iA (X4 n) fun b1=>iA (W8 s) fun b2=>Z2 (Xd (Xp [0,4,5] [(23,.b ((s.op==8)&&(!UM L ln x)))] (fun gz=>[Zg gz 2,Zg gz 3,Zg gz 4,Zg gz 5,Zg gz 6,Zg gz 7,Zg gz 8,Zg gz 0,Zg gz 1]) ?_ ?_))))
 ·refine ZA 4 [0] (ib (b:=(s.op==8)) 15 (fun Zc=>?_) (fun Zc=>?_))
  ·exact ZA 3 [0] (Zp (Zj none 0 1 (Y5 ha)) (Z0 1 (Zu [2,2,2,2,2,2,2] (FU b ga gb gc gd ge gf L ln x (hlk:=hk.len) (hd:=hk.down)) (Z2 (Zw 9 (Zl (!UM L ln x) Zc fl))))))
  exact Z2 (wk [2,2,2,2,2,2,2,0,0] (Zl false Zc fl))
 refine ac ((s.op==8)&&(!UM L ln x)) (p:=(s.op=8)/\(¬(UM L ln x=true))) (YI Zf (Ys Iff.rfl)) (fun Z9=>?_) (fun Z9=>?_)
 ·exact ar (Zm (r1 [] (.inr ⟨rfl,rfl,(by rw [BM,Zk (by rw [hgx];exact Z9)])⟩)))
 have hgo:=Z16 (n:=n) (ln:=ln) (L:=L) (s:=s) (by rw [hgx];exact Z9) hkd
 refine ak (Zq 3 [8,7] (ic [0,0,0,0,0,0,0] (OF b ga gb gc gd ge gf n s L ln q 0 kd m0 (hkb:=hkd) (harm:=hm0) (hbt:=(hk3 0 kd m0 hkd hm0)) (ih:=ob)) ?_))
 rintro _ _ (⟨c1,wa1,wb1,wc1,wd1,we1,wf1,L'1,rfl,rfl,YP⟩|⟨rfl,rfl,X2⟩)
 ·have hone:=YP
  obtain ⟨l1,l2⟩:=Ox hn hk hq.1 hf hop hkd hm0 (hk3 0 kd m0 hkd hm0) hone
  refine Z2 (Y0 (Vt (ak (Y0 (ab 0 (Y3 (fun fz gz m F h=>∃(k:Nat),(1<=k/\k<=s.kids.length)/\(Jb n ln L s.op s.num s.args L'1 (s.kids.drop k) k=Jb n ln L s.op s.num s.args L'1 (s.kids.drop 1) 1)/\F=sF [0,4,5,7] fz [(9,.i k)]/\h=gz/\m=s.kids.length-k) _ _ _ ⟨1,ob,ob,rfl,rfl,rfl⟩ (Zw 16 (fc (x:=.i 1) li fl)) ?_))))))
  rintro m F h ⟨k,Yk,Zh,rfl,rfl,rfl⟩
  refine Yr 3 [14] (iw (QZ s.kids) (ZZ ((k:Int)<(s.kids.length:Int)) (fun Zi=>?_) (fun Zi=>?_)))
  ·obtain ⟨ke,hke⟩:=Zv s.kids k om
   obtain ⟨mk,hmk⟩:=Zv (XU n.decls s.op s.num) k om
   have hcs:=Z7s (n:=n) (ln:=ln) (L:=L) (op:=s.op) (num:=s.num) (args:=s.args) (one:=L'1) hke
   refine ak (aq (ab 1 (Zq 4 [15,14] (ic [7,7,7,7,7,7,7] (OF b ga gb gc gd ge gf n s L ln q k ke mk (hkb:=hke) (harm:=hmk) (hbt:=(hk3 k ke mk hke hmk)) (ih:=ob)) ?_))))
   rintro _ _ (⟨c2,wa2,wb2,wc2,wd2,we2,wf2,L'2,rfl,rfl,Xg⟩|⟨rfl,rfl,XQ⟩)
   ·have htwo:=Xg
    obtain ⟨l3,l4⟩:=Ox hn hk hq.1 hf hop hke hmk (hk3 k ke mk hke hmk) htwo
    refine Z2 (aD 26 (ZU 15 26 [0,1,2,3,4,5,6,7,8,9,10] [14,0] (Z8 11 (JG 11 [16,2] [] [] [rV wb1 L'1.own,rV wb2 L'2.own] (RM L'1.own L'2.own) F8 (gL (v:=wb1) 0 (gL (v:=wb2) 1 gN)) (KD (KD JQ)) ?_))))
    rintro _ _ ⟨rfl,rfl⟩
    refine BO [0,4,5,7,9] [(73,.b ((!(decide (L'1.own=L'2.own)))||(!(decide (L'1.tok=L'2.tok)))))] (fun gz=>gz) ?_ ?_
    ·refine Zs 11 14 [12,13,14] (db (b:=(!(decide (L'1.own=L'2.own)))) 62 (fun ZF=>?_) (fun ZF=>?_))
     ·exact Zs 0 11 [15,16,17,18,19,20,21,22,23,24,25] (de (Zw 23 (Zl true ZF fl)))
     refine ZU 3 11 [15,16,17,18,19,20,21,22] [15,2] (Z8 23 (JG 23 [20,7] [] [] [rV wf1 L'1.tok,rV wf2 L'2.tok] (RM L'1.tok L'2.tok) F8 (gL (v:=wf1) 0 (gL (v:=wf2) 1 gN)) (KD (KD JQ)) ?_))
     rintro _ _ ⟨rfl,rfl⟩
     exact Zs 0 2 [24,25] (de (wk [2,2,2,2,2,2,2,1,1,1,1,1,1,1,1,1,1,1,1,1,0,0,0] (Zl (!(decide (L'1.tok=L'2.tok))) ZF fl)))
    refine ac ((!(decide (L'1.own=L'2.own)))||(!(decide (L'1.tok=L'2.tok)))) (p:=(¬(L'1.own=L'2.own))∨(¬(L'1.tok=L'2.tok))) (ZY (Ys dq) (Ys dq)) (fun ZB=>?_) (fun ZB=>?_)
    ·exact ar (Zm (r1 [] (.inr ⟨rfl,rfl,(by rw [hgo,hone];exact OQ (by rw [<-Zh,hcs,htwo];exact Zaz ZB))⟩)))
    exact ak (az (Z0 1 (ZE k (Z2 (ZJ ⟨k+1,ob,(by rw [hcs,htwo,Zb0 ZB] at Zh;exact Zh),rfl,rfl,rfl⟩ (wk [15,15,0,14,14,14,14,7,7,7,7,7,7,7,7,7] (ZO k fl)))))))
   have htwo:=XQ
   exact Z2 (aD 26 (Zs 0 26 [0,1,2,3,4,5,6,7,8,9,10,11,12,13,14,15,16,17,18,19,20,21,22,23,24,25] (de (VD (ar (Zm (r1 [] (.inr ⟨rfl,rfl,(by rw [hgo,hone];exact OQ (by rw [<-Zh,hcs,htwo];rfl))⟩))))))))
  have hE:Jb n ln L s.op s.num s.args L'1 (s.kids.drop 1) 1=true:=by rw [<-Zh,Xt om,Jb]
  exact ax 0 (Zq 7 [0] (Zz 7 b [.h ga,.h wb1,.h gc,.h gd,.h ge,.h gf,Z3 ln] (ie (Zq 7 [1] (Zz 0 b [.h ga,.h wb1,.h gc,.h gd,.h ge,.h wf1,Z3 ln] (ie (ar (Zm (r1 [0,7,2,7,7,7,5] (.inl ⟨ga,wb1,gc,gd,ge,wf1,(ZH.mk L.vars L'1.own L.par L.con L.fst L'1.tok),rfl,rfl,(by rw [hgo,hone];exact Z8j hE)⟩) (eq:=(rc (rv (xs:=L.vars) ob (rv (xs:=L'1.own) ob (rv (xs:=L.par) ob (rv (xs:=L.con) ob (rv (xs:=L.fst) ob (rv (xs:=L'1.tok) ob rz)))))))))))))))))
 have hone:=X2
 exact Z2 (Y0 (VD (ar (Zm (r1 [] (.inr ⟨rfl,rfl,(by rw [hgo,hone];rfl)⟩))))))
theorem OG (b:Nat) (ga:Hd) (gb:Hd) (gc:Hd) (gd:Hd) (ge:Hd) (gf:Hd) (n:ZC) (s:Z5) (L:ZH) (ln:LI) (q:Int) (hn:Xr n:=by exact ob) (hk:XG n.decls L q:=by exact ob) (ht:0<=YY n L.vars s:=by exact ob) (hb:L.vars.length+4*s.sz<=1000000000:=by exact ob) (hq:0<=q/\q+4*s.sz<=999999990:=by exact ob) (hln:ln.length<=4294967296:=by exact ob) (ih:∀(b2:Z7) (c:Nat) (ra:Hd) (rb:Hd) (rc:Hd) (rd:Hd) (re:Hd) (rf:Hd) (M:ZH) (mm:Nat) (p:Int),(b2.sz<s.sz)->(XG n.decls M p)->(0<=XW n M.vars b2)->(mm<=M.vars.length)->(M.vars.length+4*b2.sz<=1000000000)->(0<=p/\p+4*b2.sz<=999999990)->Zo 227 [.p c 0,YB n,Yh b2,.i mm] [.obj c [.h ra,.h rb,.h rc,.h rd,.h re,.h rf,Z3 ln],rV ra M.vars,rV rb M.own,rV rc M.par,rV rd M.con,rV re M.fst,rV rf M.tok] (fun r h=>(∃(wa:Hd) (wb:Hd) (wc:Hd) (wd:Hd) (we:Hd) (wf:Hd) (M':ZH),r=.b true/\h=[.obj c [.h wa,.h wb,.h wc,.h wd,.h we,.h wf,Z3 ln],rV wa M'.vars,rV wb M'.own,rV wc M'.par,rV wd M'.con,rV we M'.fst,rV wf M'.tok]/\VM n ln M mm b2=some M')∨(r=.b false/\h=[]/\VM n ln M mm b2=none))):Zo 144 [.p b 0,YB n,X0 s] [.obj b [.h ga,.h gb,.h gc,.h gd,.h ge,.h gf,Z3 ln],rV ga L.vars,rV gb L.own,rV gc L.par,rV gd L.con,rV ge L.fst,rV gf L.tok] (fun r h=>(∃(wa:Hd) (wb:Hd) (wc:Hd) (wd:Hd) (we:Hd) (wf:Hd) (L':ZH),r=.b true/\h=[.obj b [.h wa,.h wb,.h wc,.h wd,.h we,.h wf,Z3 ln],rV wa L'.vars,rV wb L'.own,rV wc L'.par,rV wd L'.con,rV we L'.fst,rV wf L'.tok]/\Qi n ln L s=some L')∨(r=.b false/\h=[]/\Qi n ln L s=none)):=by
 obtain ⟨e1,e2,e3,e4,e5⟩:=hk.len
 have Xl:=hn.decls
 have hkz:=QC s
 have haz:=KX s
 have hf:=S4 ht
 refine ZG 89 Tryz.func144 (ar (iA (X4 n) fun b1=>iA (W8 s) fun b2=>Z2 (aD 8 (ZU 2 8 [0,1,2,3,4,5] [1,2,0] (Z8 6 (JG 6 [3] [] [] [rV ga L.vars] (Ly n L.vars s ob ob) F8 (gS (gL (v:=ga) 0 (gS gN))) (KD JQ) ?_))))))
 rintro _ _ ⟨rfl,rfl⟩
 refine Zs 0 1 [7] (de (Y7 (Xd (WT [1] (ab 0 (ar (YC (s.op==14) Zf (fun Z9=>?_) (fun Z9=>?_))))))))
 ·obtain ⟨x,hxa⟩:=hf.one om
  have ha:s.args[0]? = some x:=by rw [hxa];rfl
  have hx:=hf.args x (by rw [hxa];simp)
  have hgx:=K3 ha
  have hal:=(Xh.1 ha).1
  obtain ⟨xo,hxo⟩:=Zv L.own x.toNat om
  have hgo:=UW hxo
  have hob:=hk.bd xo (Y2 hxo)
  have hon:=hk.nn xo (Y2 hxo)
  refine Zq 3 [1] (Zp (Zj none 0 1 (Y5 ha)) (Z0 1 (Zu [3,0,2,2,2,2,2] (FU b ga gb gc gd ge gf L ln x (hlk:=hk.len) (hd:=hk.down)) (Z2 (aE 21 (ZU 15 21 [0,1,2,3,4,5] [0,7] (dx 6 (Zj none 0 1 (Y5 ha)) (ZU 7 14 [7,8,9,10,11,12,13] [0,7] (dx 14 (Zj none 0 1 (Y5 ha)) (Zs 5 6 [15] (dx 16 (VV 2 gb L.own x x.toNat (hq:=rfl)) (Un 17 (Q4 2 gb L.own x.toNat xo hxo) (da 18 ((xo+1)) ((xo)+(1)) (dx 19 (VV 2 gb L.own x x.toNat (hq:=rfl)) (Z8 20 (BP 20 2 [] [] gb L.own x.toNat (xo+1) (de (Xd (YC (!UM L ln x) (p:=¬(UM L ln x=true)) (Ys Iff.rfl) (fun Zi=>?_) (fun Zi=>?_))))))))))))))))))))
  ·have hP:=(Pj (n:=n) (ln:=ln) (L:=L) Z9 hgx).trans (Z2e Zi)
   exact ar (Zm (r1 [] (.inr ⟨rfl,rfl,(by rw [T4,hP];first|rfl|exact UT (by assumption)|exact UU (by assumption) (by assumption)|exact UV (by assumption))⟩)))
  have hP:=(Pj (n:=n) (ln:=ln) (L:=L) Z9 hgx).trans (Z2f Zi hgo)
  obtain ⟨kx,hxv⟩:=Eo hn hk hq.1 hf hP
  refine ak (Yr 2 [7] (Zu [] (QP s.op) (Xp [0,5,7] [(80,.b (Xa s.op&&((YY n L.vars s) != 0)))] (fun gz=>gz) ?_ ?_)))
  ·refine Z0 1 (ib (b:=Xa s.op) 77 (fun Zc=>?_) (fun Zc=>?_))
   ·exact Z2 (Zw 9 (Zl ((YY n L.vars s) != 0) Zc fl))
   exact Z2 (Zw 9 (Zl false Zc fl))
  refine ac (Xa s.op&&((YY n L.vars s) != 0)) (p:=(Xa s.op=true)/\((YY n L.vars s)≠0)) (YI Iff.rfl Yv) (fun ZB=>?_) (fun ZB=>?_)
  ·refine az (Z0 2 (ic [1,1,0,0,0,0,0] (K7 b ga gb gc gd ge gf (ZH.mk L.vars (L.own.set x.toNat (xo+1)) L.par L.con L.fst L.tok) ln (YY n L.vars s) 1 (-1) (hlb:=(by rw [hxv];omega)) (hlk:=kx.len)) ?_))
   rintro _ _ ⟨wa1,wb1,wc1,wd1,we1,wf1,rfl⟩
   exact ie (ar (Zm (r1 [0,0,0,0,0,0,0] (.inl ⟨wa1,wb1,wc1,wd1,we1,wf1,((ZH.mk L.vars (L.own.set x.toNat (xo+1)) L.par L.con L.fst L.tok).grow (YY n L.vars s) 1 (-1)),rfl,rfl,(by rw [T4,hP];first|rfl|exact UT (by assumption)|exact UU (by assumption) (by assumption)|exact UV (by assumption))⟩))))
  refine Zq 2 [7] (Zu [] (QP s.op) (ie (ac (Xa s.op) Iff.rfl (fun Ye=>?_) (fun Ye=>?_))))
  ·refine az (Z0 1 (ic [1,1,0,0,0,0,0] (K7 b ga gb gc gd ge gf (ZH.mk L.vars (L.own.set x.toNat (xo+1)) L.par L.con L.fst L.tok) ln 0 0 (-1) (hlb:=(by rw [hxv];omega)) (hlk:=kx.len)) ?_))
   rintro _ _ ⟨wa2,wb2,wc2,wd2,we2,wf2,rfl⟩
   exact ie (ar (Zm (r1 [0,0,0,0,0,0,0] (.inl ⟨wa2,wb2,wc2,wd2,we2,wf2,((ZH.mk L.vars (L.own.set x.toNat (xo+1)) L.par L.con L.fst L.tok).grow 0 0 (-1)),rfl,rfl,(by rw [T4,hP];first|rfl|exact UT (by assumption)|exact UU (by assumption) (by assumption)|exact UV (by assumption))⟩))))
  exact ak (ar (Zm (r1 [1,1,0,0,0,0,0] (.inl ⟨ga,gb,gc,gd,ge,gf,(ZH.mk L.vars (L.own.set x.toNat (xo+1)) L.par L.con L.fst L.tok),rfl,rfl,(by rw [T4,hP];first|rfl|exact UT (by assumption)|exact UU (by assumption) (by assumption)|exact UV (by assumption))⟩) (eq:=(rc (rv (xs:=L.vars) ob (rv (xs:=(L.own.set x.toNat (xo+1))) ob (rv (xs:=L.par) ob (rv (xs:=L.con) ob (rv (xs:=L.fst) ob (rv (xs:=L.tok) ob rz)))))))))))
 refine ar (YC (s.op==15) Zf (fun YA=>?_) (fun YA=>?_))
 ·obtain ⟨x,hxa⟩:=hf.one om
  have ha:s.args[0]? = some x:=by rw [hxa];rfl
  have hx:=hf.args x (by rw [hxa];simp)
  have hgx:=K3 ha
  have hal:=(Xh.1 ha).1
  refine az (ZA 3 [1] (Zp (Zj none 0 1 (Y5 ha)) (Z0 1 (ic [3,0,2,2,2,2,2] (FV b ga gb gc gd ge gf L ln x (hlk:=hk.len) (hq:=(fun y hy=>⟨hk.nn y hy,by have:=hk.bd y hy;omega⟩))) ?_))))
  rintro _ _ (⟨wa3,wb3,wc3,wd3,we3,wf3,L'1,rfl,rfl,YP⟩|⟨rfl,rfl,X2⟩)
  ·have hP:=(Pl (n:=n) (ln:=ln) (L:=L) YA hgx).trans (YP)
   obtain ⟨kx,hxv⟩:=Eo hn hk hq.1 hf hP
   refine Z2 (Y0 (Vt (ak (Yr 2 [7] (Zu [] (QP s.op) (Xp [0,5,7] [(80,.b (Xa s.op&&((YY n L.vars s) != 0)))] (fun gz=>gz) ?_ ?_))))))
   ·refine Z0 1 (ib (b:=Xa s.op) 77 (fun ZF=>?_) (fun ZF=>?_))
    ·exact Z2 (Zw 9 (Zl ((YY n L.vars s) != 0) ZF fl))
    exact Z2 (Zw 9 (Zl false ZF fl))
   refine ac (Xa s.op&&((YY n L.vars s) != 0)) (p:=(Xa s.op=true)/\((YY n L.vars s)≠0)) (YI Iff.rfl Yv) (fun YW=>?_) (fun YW=>?_)
   ·refine az (Z0 2 (ic [0,0,0,0,0,0,0] (K7 b wa3 wb3 wc3 wd3 we3 wf3 L'1 ln (YY n L.vars s) 1 (-1) (hlb:=(by rw [hxv];omega)) (hlk:=kx.len)) ?_))
    rintro _ _ ⟨wa4,wb4,wc4,wd4,we4,wf4,rfl⟩
    exact ie (ar (Zm (r1 [0,0,0,0,0,0,0] (.inl ⟨wa4,wb4,wc4,wd4,we4,wf4,(L'1.grow (YY n L.vars s) 1 (-1)),rfl,rfl,(by rw [T4,hP];first|rfl|exact UT (by assumption)|exact UU (by assumption) (by assumption)|exact UV (by assumption))⟩))))
   refine Zq 2 [7] (Zu [] (QP s.op) (ie (ac (Xa s.op) Iff.rfl (fun Wo=>?_) (fun Wo=>?_))))
   ·refine az (Z0 1 (ic [0,0,0,0,0,0,0] (K7 b wa3 wb3 wc3 wd3 we3 wf3 L'1 ln 0 0 (-1) (hlb:=(by rw [hxv];omega)) (hlk:=kx.len)) ?_))
    rintro _ _ ⟨wa5,wb5,wc5,wd5,we5,wf5,rfl⟩
    exact ie (ar (Zm (r1 [0,0,0,0,0,0,0] (.inl ⟨wa5,wb5,wc5,wd5,we5,wf5,(L'1.grow 0 0 (-1)),rfl,rfl,(by rw [T4,hP];first|rfl|exact UT (by assumption)|exact UU (by assumption) (by assumption)|exact UV (by assumption))⟩))))
   exact ak (ar (Zm (r1 [0,0,0,0,0,0,0] (.inl ⟨wa3,wb3,wc3,wd3,we3,wf3,L'1,rfl,rfl,(by rw [T4,hP];first|rfl|exact UT (by assumption)|exact UU (by assumption) (by assumption)|exact UV (by assumption))⟩))))
  have hP:=(Pl (n:=n) (ln:=ln) (L:=L) YA hgx).trans (X2)
  exact Z2 (Y0 (VD (ar (Zm (r1 [] (.inr ⟨rfl,rfl,(by rw [T4,hP];first|rfl|exact UT (by assumption)|exact UU (by assumption) (by assumption)|exact UV (by assumption))⟩))))))
 refine Y0 (Xs (fun fz gz F h=>F=sF [0,4,5,7,17] fz [(58,.b ((s.op==16)||(s.op==17)))]/\h=gz) ?_ ?_)
 ·refine ac (s.op==16) Zf (fun Vo=>?_) (fun Vo=>?_)
  ·exact ak (ZD ⟨rfl,rfl⟩ (Zw 9 (fc (x:=.b (s.op==16)) (lb (by first|rfl|(rw [Zk Vo])|(rw [Za Vo])|(simp [Vo];done)|(rw [Y9];simp [Vo];done)|omega)) fl)))
  exact Vi (ZD ⟨rfl,rfl⟩ (Zw 9 (fc (x:=.b (s.op==17)) (lb (by first|rfl|(rw [Zk Vo])|(rw [Za Vo])|(simp [Vo];done)|(rw [Y9];simp [Vo];done)|omega)) fl)))
 rintro F h ⟨rfl,rfl⟩
 refine ac ((s.op==16)||(s.op==17)) (p:=(s.op=16)∨(s.op=17)) (ZY Zf Zf) (fun WX=>?_) (fun WX=>?_)
 ·obtain ⟨x,hxa⟩:=hf.one om
  have ha:s.args[0]? = some x:=by rw [hxa];rfl
  have hx:=hf.args x (by rw [hxa];simp)
  have hgx:=K3 ha
  have hal:=(Xh.1 ha).1
  refine az (ZA 3 [2,1] (ic [3,0,2,2,2,2,2] (Z88 b ga gb gc gd ge gf n s L ln q x) ?_))
  rintro _ _ (⟨wa6,wb6,wc6,wd6,we6,wf6,L'2,rfl,rfl,Wf⟩|⟨rfl,rfl,WY⟩)
  ·have hP:=(Pm (n:=n) (ln:=ln) (L:=L) WX hgx).trans (Wf)
   obtain ⟨kx,hxv⟩:=Eo hn hk hq.1 hf hP
   refine Z2 (Y0 (Vt (ak (Yr 2 [7] (Zu [] (QP s.op) (Xp [0,5,7] [(80,.b (Xa s.op&&((YY n L.vars s) != 0)))] (fun gz=>gz) ?_ ?_))))))
   ·refine Z0 1 (ib (b:=Xa s.op) 77 (fun Ym=>?_) (fun Ym=>?_))
    ·exact Z2 (Zw 9 (Zl ((YY n L.vars s) != 0) Ym fl))
    exact Z2 (Zw 9 (Zl false Ym fl))
   refine ac (Xa s.op&&((YY n L.vars s) != 0)) (p:=(Xa s.op=true)/\((YY n L.vars s)≠0)) (YI Iff.rfl Yv) (fun V8=>?_) (fun V8=>?_)
   ·refine az (Z0 2 (ic [0,0,0,0,0,0,0] (K7 b wa6 wb6 wc6 wd6 we6 wf6 L'2 ln (YY n L.vars s) 1 (-1) (hlb:=(by rw [hxv];omega)) (hlk:=kx.len)) ?_))
    rintro _ _ ⟨wa7,wb7,wc7,wd7,we7,wf7,rfl⟩
    exact ie (ar (Zm (r1 [0,0,0,0,0,0,0] (.inl ⟨wa7,wb7,wc7,wd7,we7,wf7,(L'2.grow (YY n L.vars s) 1 (-1)),rfl,rfl,(by rw [T4,hP];first|rfl|exact UT (by assumption)|exact UU (by assumption) (by assumption)|exact UV (by assumption))⟩))))
   refine Zq 2 [7] (Zu [] (QP s.op) (ie (ac (Xa s.op) Iff.rfl (fun Tc=>?_) (fun Tc=>?_))))
   ·refine az (Z0 1 (ic [0,0,0,0,0,0,0] (K7 b wa6 wb6 wc6 wd6 we6 wf6 L'2 ln 0 0 (-1) (hlb:=(by rw [hxv];omega)) (hlk:=kx.len)) ?_))
    rintro _ _ ⟨wa8,wb8,wc8,wd8,we8,wf8,rfl⟩
    exact ie (ar (Zm (r1 [0,0,0,0,0,0,0] (.inl ⟨wa8,wb8,wc8,wd8,we8,wf8,(L'2.grow 0 0 (-1)),rfl,rfl,(by rw [T4,hP];first|rfl|exact UT (by assumption)|exact UU (by assumption) (by assumption)|exact UV (by assumption))⟩))))
   exact ak (ar (Zm (r1 [0,0,0,0,0,0,0] (.inl ⟨wa6,wb6,wc6,wd6,we6,wf6,L'2,rfl,rfl,(by rw [T4,hP];first|rfl|exact UT (by assumption)|exact UU (by assumption) (by assumption)|exact UV (by assumption))⟩))))
  have hP:=(Pm (n:=n) (ln:=ln) (L:=L) WX hgx).trans (WY)
  exact Z2 (Y0 (VD (ar (Zm (r1 [] (.inr ⟨rfl,rfl,(by rw [T4,hP];first|rfl|exact UT (by assumption)|exact UU (by assumption) (by assumption)|exact UV (by assumption))⟩))))))
 refine Y0 (Xs (fun fz gz F h=>F=sF [0,4,5,7] fz [(65,.b ((s.op==7)||(s.op==8)))]/\h=gz) ?_ ?_)
 ·refine ac (s.op==7) Zf (fun V9=>?_) (fun V9=>?_)
  ·exact ak (ZD ⟨rfl,rfl⟩ (Zw 9 (fc (x:=.b (s.op==7)) (lb (by first|rfl|(rw [Zk V9])|(rw [Za V9])|(simp [V9];done)|(rw [Y9];simp [V9];done)|omega)) fl)))
  exact Vi (ZD ⟨rfl,rfl⟩ (Zw 9 (fc (x:=.b (s.op==8)) (lb (by first|rfl|(rw [Zk V9])|(rw [Za V9])|(simp [V9];done)|(rw [Y9];simp [V9];done)|omega)) fl)))
 rintro F h ⟨rfl,rfl⟩
 refine ac ((s.op==7)||(s.op==8)) (p:=(s.op=7)∨(s.op=8)) (ZY Zf Zf) (fun TD=>?_) (fun TD=>?_)
 ·refine az (ZA 3 [2,1] (ic [3,0,2,2,2,2,2] (Z85 b ga gb gc gd ge gf n s L ln q (ih:=ob)) ?_))
  rintro _ _ (⟨wa9,wb9,wc9,wd9,we9,wf9,L'3,rfl,rfl,Tp⟩|⟨rfl,rfl,UZ⟩)
  ·have hP:=(Pn (n:=n) (ln:=ln) (L:=L) TD).trans (Tp)
   obtain ⟨kx,hxv⟩:=Eo hn hk hq.1 hf hP
   refine Z2 (Y0 (Vt (ak (Yr 2 [7] (Zu [] (QP s.op) (Xp [0,5,7] [(80,.b (Xa s.op&&((YY n L.vars s) != 0)))] (fun gz=>gz) ?_ ?_))))))
   ·refine Z0 1 (ib (b:=Xa s.op) 77 (fun X8=>?_) (fun X8=>?_))
    ·exact Z2 (Zw 9 (Zl ((YY n L.vars s) != 0) X8 fl))
    exact Z2 (Zw 9 (Zl false X8 fl))
   refine ac (Xa s.op&&((YY n L.vars s) != 0)) (p:=(Xa s.op=true)/\((YY n L.vars s)≠0)) (YI Iff.rfl Yv) (fun C4=>?_) (fun C4=>?_)
   ·refine az (Z0 2 (ic [0,0,0,0,0,0,0] (K7 b wa9 wb9 wc9 wd9 we9 wf9 L'3 ln (YY n L.vars s) 1 (-1) (hlb:=(by rw [hxv];omega)) (hlk:=kx.len)) ?_))
    rintro _ _ ⟨wa10,wb10,wc10,wd10,we10,wf10,rfl⟩
    exact ie (ar (Zm (r1 [0,0,0,0,0,0,0] (.inl ⟨wa10,wb10,wc10,wd10,we10,wf10,(L'3.grow (YY n L.vars s) 1 (-1)),rfl,rfl,(by rw [T4,hP];first|rfl|exact UT (by assumption)|exact UU (by assumption) (by assumption)|exact UV (by assumption))⟩))))
   refine Zq 2 [7] (Zu [] (QP s.op) (ie (ac (Xa s.op) Iff.rfl (fun E4=>?_) (fun E4=>?_))))
   ·refine az (Z0 1 (ic [0,0,0,0,0,0,0] (K7 b wa9 wb9 wc9 wd9 we9 wf9 L'3 ln 0 0 (-1) (hlb:=(by rw [hxv];omega)) (hlk:=kx.len)) ?_))
    rintro _ _ ⟨wa11,wb11,wc11,wd11,we11,wf11,rfl⟩
    exact ie (ar (Zm (r1 [0,0,0,0,0,0,0] (.inl ⟨wa11,wb11,wc11,wd11,we11,wf11,(L'3.grow 0 0 (-1)),rfl,rfl,(by rw [T4,hP];first|rfl|exact UT (by assumption)|exact UU (by assumption) (by assumption)|exact UV (by assumption))⟩))))
   exact ak (ar (Zm (r1 [0,0,0,0,0,0,0] (.inl ⟨wa9,wb9,wc9,wd9,we9,wf9,L'3,rfl,rfl,(by rw [T4,hP];first|rfl|exact UT (by assumption)|exact UU (by assumption) (by assumption)|exact UV (by assumption))⟩))))
  have hP:=(Pn (n:=n) (ln:=ln) (L:=L) TD).trans (UZ)
  exact Z2 (Y0 (VD (ar (Zm (r1 [] (.inr ⟨rfl,rfl,(by rw [T4,hP];first|rfl|exact UT (by assumption)|exact UU (by assumption) (by assumption)|exact UV (by assumption))⟩))))))
 refine az (ZA 3 [2,1] (ic [3,0,2,2,2,2,2] (Z87 b ga gb gc gd ge gf n s L ln q (hnum:=hf.num) (hargs:=hf.args) (hinto:=(fun q=>(hf.into om).2))) ?_))
 rintro _ _ (⟨wa12,wb12,wc12,wd12,we12,wf12,L'4,rfl,rfl,J9⟩|⟨rfl,rfl,Ja⟩)
 ·have hP:=(Po (n:=n) (ln:=ln) (L:=L) Z9 YA WX TD).trans (J9)
  obtain ⟨kx,hxv⟩:=Eo hn hk hq.1 hf hP
  refine Z2 (Y0 (Vt (ak (Yr 2 [7] (Zu [] (QP s.op) (Xp [0,5,7] [(80,.b (Xa s.op&&((YY n L.vars s) != 0)))] (fun gz=>gz) ?_ ?_))))))
  ·refine Z0 1 (ib (b:=Xa s.op) 77 (fun XY=>?_) (fun XY=>?_))
   ·exact Z2 (Zw 9 (Zl ((YY n L.vars s) != 0) XY fl))
   exact Z2 (Zw 9 (Zl false XY fl))
  refine ac (Xa s.op&&((YY n L.vars s) != 0)) (p:=(Xa s.op=true)/\((YY n L.vars s)≠0)) (YI Iff.rfl Yv) (fun K5=>?_) (fun K5=>?_)
  ·refine az (Z0 2 (ic [0,0,0,0,0,0,0] (K7 b wa12 wb12 wc12 wd12 we12 wf12 L'4 ln (YY n L.vars s) 1 (-1) (hlb:=(by rw [hxv];omega)) (hlk:=kx.len)) ?_))
   rintro _ _ ⟨wa13,wb13,wc13,wd13,we13,wf13,rfl⟩
   exact ie (ar (Zm (r1 [0,0,0,0,0,0,0] (.inl ⟨wa13,wb13,wc13,wd13,we13,wf13,(L'4.grow (YY n L.vars s) 1 (-1)),rfl,rfl,(by rw [T4,hP];first|rfl|exact UT (by assumption)|exact UU (by assumption) (by assumption)|exact UV (by assumption))⟩))))
  refine Zq 2 [7] (Zu [] (QP s.op) (ie (ac (Xa s.op) Iff.rfl (fun K6=>?_) (fun K6=>?_))))
  ·refine az (Z0 1 (ic [0,0,0,0,0,0,0] (K7 b wa12 wb12 wc12 wd12 we12 wf12 L'4 ln 0 0 (-1) (hlb:=(by rw [hxv];omega)) (hlk:=kx.len)) ?_))
   rintro _ _ ⟨wa14,wb14,wc14,wd14,we14,wf14,rfl⟩
   exact ie (ar (Zm (r1 [0,0,0,0,0,0,0] (.inl ⟨wa14,wb14,wc14,wd14,we14,wf14,(L'4.grow 0 0 (-1)),rfl,rfl,(by rw [T4,hP];first|rfl|exact UT (by assumption)|exact UU (by assumption) (by assumption)|exact UV (by assumption))⟩))))
  exact ak (ar (Zm (r1 [0,0,0,0,0,0,0] (.inl ⟨wa12,wb12,wc12,wd12,we12,wf12,L'4,rfl,rfl,(by rw [T4,hP];first|rfl|exact UT (by assumption)|exact UU (by assumption) (by assumption)|exact UV (by assumption))⟩))))
 have hP:=(Po (n:=n) (ln:=ln) (L:=L) Z9 YA WX TD).trans (Ja)
 exact Z2 (Y0 (VD (ar (Zm (r1 [] (.inr ⟨rfl,rfl,(by rw [T4,hP];first|rfl|exact UT (by assumption)|exact UU (by assumption) (by assumption)|exact UV (by assumption))⟩))))))
theorem Z83 (c:Nat) (ga:Hd) (gb:Hd) (gc:Hd) (gd:Hd) (ge:Hd) (gf:Hd) (n:ZC) (b:Z7) (L:ZH) (ln:LI) (q:Int) (mm:Nat) (hn:Xr n) (hk:XG n.decls L q) (ht:0<=XW n L.vars b) (hm:mm<=L.vars.length) (hb:L.vars.length+4*b.sz<=1000000000) (hq:0<=q/\q+4*b.sz<=999999990) (hln:ln.length<=4294967296) (ih:∀(s2:Z5) (c:Nat) (ra:Hd) (rb:Hd) (rc:Hd) (rd:Hd) (re:Hd) (rf:Hd) (M:ZH) (p:Int),(s2.sz<b.sz)->(XG n.decls M p)->(0<=YY n M.vars s2)->(M.vars.length+4*s2.sz<=1000000000)->(0<=p/\p+4*s2.sz<=999999990)->Zo 144 [.p c 0,YB n,X0 s2] [.obj c [.h ra,.h rb,.h rc,.h rd,.h re,.h rf,Z3 ln],rV ra M.vars,rV rb M.own,rV rc M.par,rV rd M.con,rV re M.fst,rV rf M.tok] (fun r h=>(∃(wa:Hd) (wb:Hd) (wc:Hd) (wd:Hd) (we:Hd) (wf:Hd) (M':ZH),r=.b true/\h=[.obj c [.h wa,.h wb,.h wc,.h wd,.h we,.h wf,Z3 ln],rV wa M'.vars,rV wb M'.own,rV wc M'.par,rV wd M'.con,rV we M'.fst,rV wf M'.tok]/\Qi n ln M s2=some M')∨(r=.b false/\h=[]/\Qi n ln M s2=none))):Zo 227 [.p c 0,YB n,Yh b,.i mm] [.obj c [.h ga,.h gb,.h gc,.h gd,.h ge,.h gf,Z3 ln],rV ga L.vars,rV gb L.own,rV gc L.par,rV gd L.con,rV ge L.fst,rV gf L.tok] (fun r h=>(∃(wa:Hd) (wb:Hd) (wc:Hd) (wd:Hd) (we:Hd) (wf:Hd) (L':ZH),r=.b true/\h=[.obj c [.h wa,.h wb,.h wc,.h wd,.h we,.h wf,Z3 ln],rV wa L'.vars,rV wb L'.own,rV wc L'.par,rV wd L'.con,rV we L'.fst,rV wf L'.tok]/\VM n ln L mm b=some L')∨(r=.b false/\h=[]/\VM n ln L mm b=none)):=by
 have hbz:=b.sz_eq
 obtain ⟨vs,rt,hvs,hres,hrt⟩:=Mq ht
 have hri:=CA hres
 have XL:=Uk b
 refine ZG 45 Tryz.func227 (ar (iA (X4 n) fun b1=>iA (XR b) fun b2=>?_))
 refine Z2 (Y0 (ab 0 (Y3 (fun fz gz m F h=>∃(k:Nat) (q2:Int) (L2:ZH) (ka:Hd) (kb:Hd) (kc:Hd) (kd:Hd) (ke:Hd) (kf:Hd),(k<=b.steps.length)/\(XG n.decls L2 q2)/\(0<=q2/\q2+4*Yo (b.steps.drop k)<=999999990)/\(L2.vars.length+4*Yo (b.steps.drop k)<=1000000000)/\(Uj n (b.steps.drop k) L2.vars=some vs)/\(Jl n ln L2 (b.steps.drop k)=Jl n ln L b.steps)/\(L.vars.length<=L2.vars.length)/\F=sF [0,3,5,6] fz [(9,.i k)]/\h=[Zg gz 0,Zg gz 1,.obj c [.h ka,.h kb,.h kc,.h kd,.h ke,.h kf,Z3 ln],rV ka L2.vars,rV kb L2.own,rV kc L2.par,rV kd L2.con,rV ke L2.fst,rV kf L2.tok]/\m=b.steps.length-k) _ _ _ ⟨0,q,L,ga,gb,gc,gd,ge,gf,ob,hk,(by rw [Bw];omega),(by rw [Bw];omega),hvs,rfl,om,rfl,rfl,rfl⟩ (Zw 9 (Yd fl)) ?_)))
 rintro m F h ⟨k,q2,L2,ka,kb,kc,kd,ke,kf,Yk,Zh,Zy,YJ,Wc,Qt,Mx,rfl,rfl,rfl⟩
 refine Yr 3 [0] (iw (Up b.steps) (ZZ ((k:Int)<(b.steps.length:Int)) (fun Z9=>?_) (fun Z9=>?_)))
 ·obtain ⟨s1,hs1⟩:=Zv b.steps k om
  have hss:=Dw hs1
  have hdr:=Yi hs1
  have hz:Yo (b.steps.drop k)=s1.sz+Yo (b.steps.drop (k+1)):=by rw [hdr,Yo]
  rw [hdr] at Wc Qt
  obtain ⟨g1,g2⟩:=S6 Wc
  refine ak (aq (ab 1 (aD 9 (ZU 4 9 [0,1,2,3,4] [1,0] (dx 5 (Zj none (k:Int) 5 (WV hs1)) (Zs 2 3 [6] (Z8 7 (dc 7 [2,2,2,2,2,2,2] [] [] (ih s1 c ka kb kc kd ke kf L2 q2 ob Zh g1 om om) ?_))))))))
  rintro _ _ (⟨wa1,wb1,wc1,wd1,we1,wf1,M'1,rfl,rfl,Y6⟩|⟨rfl,rfl,Yt⟩)
  ·have hP:=Y6
   have kx:=S3 hn Zh Zy.1 g1 hP
   exact Zs 0 1 [8] (de (Vt (ak (az (Z0 1 (ZE k (Z2 (ZJ ⟨k+1,(q2+4*s1.sz),M'1,wa1,wb1,wc1,wd1,we1,wf1,ob,kx.1,om,(by rw [kx.2];have:=Rm n L2.vars s1;omega),(by rw [kx.2];exact g2),(by rw [<-Qt,Jl,hP];rfl),(by rw [kx.2];have:=Rm n L2.vars s1;omega),rfl,rfl,rfl⟩ (wk [7,7,0,0,0,0,0,0,0] (ZO k fl))))))))))
  have hP:=Yt
  exact Zs 0 1 [8] (de (VD (ar (Zm (r1 [] (.inr ⟨rfl,rfl,(by rw [Hk,<-Qt,Jl,hP];rfl)⟩))))))
 rw [Xt om] at Wc Qt
 have hvv:L2.vars=vs:=by rw [Uj] at Wc;exact Cv Wc
 have hB:VM n ln L mm b=JL mm b.result L2:=by rw [Hk,<-Qt,Jl];rfl
 obtain ⟨xr,hxr⟩:=Zv L2.vars b.result.toNat (by rw [hvv];omega)
 have hgr:=UW hxr
 have hrl:0<=b.result/\b.result<L2.vars.length:=by rw [hvv];omega
 rw [Uj] at Wc
 refine ax 0 (aq (aD 16 (ZU 10 16 [0,1,2,3,4,5] [2,0] (dx 6 (VV 3 ka L2.vars b.result b.result.toNat (hq:=rfl)) (Un 7 (Q4 3 ka L2.vars b.result.toNat xr hxr) (Zs 6 8 [8,9] (db (b:=(xr != 0)) 35 (fun Zc=>?_) (fun Zc=>?_))))))))
 ·have YP:xr≠0:=(Yv).1 Zc
  refine ZU 3 6 [10,11,12] [0] (Z8 13 (dc 13 [2,2,2,2,2,2,2] [] [] (FV c ka kb kc kd ke kf L2 ln b.result (hlk:=Zh.len) (hq:=(fun y hy=>⟨Zh.nn y hy,by have:=Zh.bd y hy;omega⟩))) ?_))
  rintro _ _ (⟨wa2,wb2,wc2,wd2,we2,wf2,L'1,rfl,rfl,X2⟩|⟨rfl,rfl,Xg⟩)
  ·have hE:=hB.trans (Z2u hgr (by assumption) X2)
   have kx:=Zh.take X2
   have hxv:L'1.vars.length=L2.vars.length:=by rw [(Jm X2).2.1]
   refine Zs 0 2 [14,15] (de (Vt (ak (Yf 2 (ic [0,0,0,0,0,0,0] (OE c wa2 wb2 wc2 wd2 we2 wf2 L'1 ln mm (hlk:=(by first|exact kx.len|exact Zh.len)) (hlb:=om) (hm:=om)) ?_)))))
   rintro _ _ (⟨wa3,wb3,wc3,wd3,we3,wf3,L'2,rfl,rfl,XQ⟩|⟨rfl,rfl,Wf⟩)
   ·exact Zm (r1 [0,0,0,0,0,0,0] (.inl ⟨wa3,wb3,wc3,wd3,we3,wf3,L'2,rfl,rfl,(by first|exact hE|(rw [hE];exact XQ)|(rw [hB,DU hgr (by assumption)];exact XQ))⟩))
   exact Zm (r1 [] (.inr ⟨rfl,rfl,(by first|exact hE|(rw [hE];exact Wf)|(rw [hB,DU hgr (by assumption)];exact Wf))⟩))
  have hE:=hB.trans (Z2t hgr (by assumption) Xg)
  exact Zs 0 2 [14,15] (de (VD (ar (Zm (r1 [] (.inr ⟨rfl,rfl,(by first|exact hE|(rw [hE];exact Xg)|(rw [hB,DU hgr (by assumption)];exact Xg))⟩))))))
 have WY:¬(xr≠0):=Y8 Yv Zc
 refine Zs 0 6 [10,11,12,13,14,15] (de (Vt (ak (Yf 2 (ic [2,2,2,2,2,2,2] (OE c ka kb kc kd ke kf L2 ln mm (hlk:=(by first|exact kx.len|exact Zh.len)) (hlb:=om) (hm:=om)) ?_)))))
 rintro _ _ (⟨wa4,wb4,wc4,wd4,we4,wf4,L'3,rfl,rfl,Vp⟩|⟨rfl,rfl,UY⟩)
 ·exact Zm (r1 [0,0,0,0,0,0,0] (.inl ⟨wa4,wb4,wc4,wd4,we4,wf4,L'3,rfl,rfl,(by first|exact hE|(rw [hE];exact Vp)|(rw [hB,DU hgr (by assumption)];exact Vp))⟩))
 exact Zm (r1 [] (.inr ⟨rfl,rfl,(by first|exact hE|(rw [hE];exact UY)|(rw [hB,DU hgr (by assumption)];exact UY))⟩))
theorem Z84 (n:ZC) (ln:LI) (hn:Xr n) (hln:ln.length<=4294967296) (m:Nat):∀(b2:Z7) (c:Nat) (ra:Hd) (rb:Hd) (rc:Hd) (rd:Hd) (re:Hd) (rf:Hd) (M:ZH) (mm:Nat) (p:Int),(b2.sz<m+1)->(XG n.decls M p)->(0<=XW n M.vars b2)->(mm<=M.vars.length)->(M.vars.length+4*b2.sz<=1000000000)->(0<=p/\p+4*b2.sz<=999999990)->Zo 227 [.p c 0,YB n,Yh b2,.i mm] [.obj c [.h ra,.h rb,.h rc,.h rd,.h re,.h rf,Z3 ln],rV ra M.vars,rV rb M.own,rV rc M.par,rV rd M.con,rV re M.fst,rV rf M.tok] (fun r h=>(∃(wa:Hd) (wb:Hd) (wc:Hd) (wd:Hd) (we:Hd) (wf:Hd) (M':ZH),r=.b true/\h=[.obj c [.h wa,.h wb,.h wc,.h wd,.h we,.h wf,Z3 ln],rV wa M'.vars,rV wb M'.own,rV wc M'.par,rV wd M'.con,rV we M'.fst,rV wf M'.tok]/\VM n ln M mm b2=some M')∨(r=.b false/\h=[]/\VM n ln M mm b2=none)):=by
 induction m with
 | zero=>intro b c ga gb gc gd ge gf L mm q h;have:=b.sz_pos;omega
 | succ m ih=>
  intro b c ga gb gc gd ge gf L mm q h1 hk ht hm hb hp
  exact Z83 c ga gb gc gd ge gf n b L ln q mm hn hk ht hm hb hp hln fun s c ga gb gc gd ge gf L q h2 hk ht hb hp=>OG c ga gb gc gd ge gf n s L ln q hn hk ht hb hp hln
   fun b2 c ga gb gc gd ge gf L mm q h3 hk ht hm hb hp=>ih b2 c ga gb gc gd ge gf L mm q om hk ht hm hb hp
theorem Z8a (n:ZC) (ln:LI) (hn:Xr n) (hln:ln.length<=4294967296) (m:Nat):∀(s2:Z5) (c:Nat) (ra:Hd) (rb:Hd) (rc:Hd) (rd:Hd) (re:Hd) (rf:Hd) (M:ZH) (p:Int),(s2.sz<m+1)->(XG n.decls M p)->(0<=YY n M.vars s2)->(M.vars.length+4*s2.sz<=1000000000)->(0<=p/\p+4*s2.sz<=999999990)->Zo 144 [.p c 0,YB n,X0 s2] [.obj c [.h ra,.h rb,.h rc,.h rd,.h re,.h rf,Z3 ln],rV ra M.vars,rV rb M.own,rV rc M.par,rV rd M.con,rV re M.fst,rV rf M.tok] (fun r h=>(∃(wa:Hd) (wb:Hd) (wc:Hd) (wd:Hd) (we:Hd) (wf:Hd) (M':ZH),r=.b true/\h=[.obj c [.h wa,.h wb,.h wc,.h wd,.h we,.h wf,Z3 ln],rV wa M'.vars,rV wb M'.own,rV wc M'.par,rV wd M'.con,rV we M'.fst,rV wf M'.tok]/\Qi n ln M s2=some M')∨(r=.b false/\h=[]/\Qi n ln M s2=none)):=by
 intro s c ga gb gc gd ge gf L q h2 hk ht hb hp
 exact OG c ga gb gc gd ge gf n s L ln q hn hk ht hb hp hln fun b2 c ga gb gc gd ge gf L mm q h3 hk ht hm hb hp=>Z84 n ln hn hln m b2 c ga gb gc gd ge gf L mm q om hk ht hm hb hp
theorem Z89 (c:Nat) (ra:Hd) (rb:Hd) (rc:Hd) (rd:Hd) (re:Hd) (rf:Hd) (n:ZC) (s2:Z5) (M:ZH) (ln:LI) (p:Int) (hn:Xr n) (hln:ln.length<=4294967296) (hk:XG n.decls M p) (ht:0<=YY n M.vars s2) (hb:M.vars.length+4*s2.sz<=1000000000) (hp:0<=p/\p+4*s2.sz<=999999990):Zo 144 [.p c 0,YB n,X0 s2] [.obj c [.h ra,.h rb,.h rc,.h rd,.h re,.h rf,Z3 ln],rV ra M.vars,rV rb M.own,rV rc M.par,rV rd M.con,rV re M.fst,rV rf M.tok] (fun r h=>(∃(wa:Hd) (wb:Hd) (wc:Hd) (wd:Hd) (we:Hd) (wf:Hd) (M':ZH),r=.b true/\h=[.obj c [.h wa,.h wb,.h wc,.h wd,.h we,.h wf,Z3 ln],rV wa M'.vars,rV wb M'.own,rV wc M'.par,rV wd M'.con,rV we M'.fst,rV wf M'.tok]/\Qi n ln M s2=some M')∨(r=.b false/\h=[]/\Qi n ln M s2=none)):=Z8a n ln hn hln s2.sz s2 c ra rb rc rd re rf M p om hk ht hb hp
theorem Zbz (rt:Yz) (hp:rt.params.length<=1000000:=by exact ob) (hl:rt.lent.length<=4294967296:=by exact ob):Zo 143 [Ju rt] [] (fun r h=>∃(c:Nat) (wa:Hd) (wb:Hd) (wc:Hd) (wd:Hd) (we:Hd) (wf:Hd),r=.p c 0/\h=[.obj c [.h wa,.h wb,.h wc,.h wd,.h we,.h wf,Z3 rt.lent],rV wa ((Kb rt).vars),rV wb ((Kb rt).own),rV wc ((Kb rt).par),rV wd ((Kb rt).con),rV we ((Kb rt).fst),rV wf ((Kb rt).tok)]):=by
 refine ZG 45 Tryz.func143 (ar (iA (Jd rt) fun b1=>Z2 (Zq 2 [0] (ic [] (WI rt.lent) ?_))))
 rintro _ _ ⟨v1,rfl,rfl⟩
 refine ZM 1 [(8,.agg [nl,nl,nl,nl,nl,nl,Z3 rt.lent])] (iA [nl,nl,nl,nl,nl,nl,Z3 rt.lent] fun b2=>?_)
 refine Xi (Zdi 0 b2 [nl,nl,nl,nl,nl,nl,Z3 rt.lent] [.h hN,.h hN,.h hN,.h hN,.h hN,.h hN,Z3 rt.lent] (.cons (Zd.hd (v:=hN)) (.cons (Zd.hd (v:=hN)) (.cons (Zd.hd (v:=hN)) (.cons (Zd.hd (v:=hN)) (.cons (Zd.hd (v:=hN)) (.cons (Zd.hd (v:=hN)) (.cons (lr _) .nil)))))))) (Xi (Dz) (Xi (Dz) (Xi (Dz) (Xi (Dz) (Xi (Dz) (Xi (Dz) (Z2 (Y0 (ab 0 (Y3 (fun fz gz m F h=>∃(k:Nat) (L2:ZH) (ka:Hd) (kb:Hd) (kc:Hd) (kd:Hd) (ke:Hd) (kf:Hd),(k<=rt.params.length)/\(T8 L2)/\(L2.vars.length=k)/\(AB rt.lent (rt.params.drop k) k L2=Kb rt)/\F=sF [1,3] fz [(4,.i k)]/\h=[.obj b2 [.h ka,.h kb,.h kc,.h kd,.h ke,.h kf,Z3 rt.lent],Zg gz 8,rV ka L2.vars,rV kb L2.own,rV kc L2.par,rV kd L2.con,rV ke L2.fst,rV kf L2.tok]/\m=rt.params.length-k) _ _ _ ⟨0,(ZH.mk [] [] [] [] [] []),hN,hN,hN,hN,hN,hN,ob,⟨rfl,rfl,rfl,rfl,rfl⟩,rfl,rfl,rfl,rfl,rfl⟩ (wk [6,7,0,0,0,0,0,0] (Yd fl) (e:=(rc (rc (rv (xs:=[]) ob (rv (xs:=[]) ob (rv (xs:=[]) ob (rv (xs:=[]) ob (rv (xs:=[]) ob (rv (xs:=[]) ob rz)))))))))) ?_))))))))))
 rintro m F h ⟨k,L2,ka,kb,kc,kd,ke,kf,Yk,Zh,Zy,YJ,rfl,rfl,rfl⟩
 refine Yr 3 [1] (iw (Yc rt.params) (ZZ ((k:Int)<(rt.params.length:Int)) (fun Z9=>?_) (fun Z9=>?_)))
 ·refine ak (aq (ab 1 (Zq 3 [1] ?_)))
  obtain ⟨x1,Z4⟩:=Zv rt.params k om
  refine Zp (Zj none (k:Int) 1 (Y5 Z4)) (Xp [1,3,4] [(29,.b ((x1 != 0)&&(!(decide ((k:Int)∈rt.lent)))))] (fun gz=>gz) ?_ ?_)
  ·refine Z0 3 (ib (b:=(x1 != 0)) 23 (fun Zc=>?_) (fun Zc=>?_))
   ·exact ZA 3 [1] (Zu [] (Uz rt.lent (k:Int)) (Z2 (Zw 8 (Zl (!(decide ((k:Int)∈rt.lent))) Zc fl))))
   exact Z2 (Zw 8 (Zl false Zc fl))
  refine ac ((x1 != 0)&&(!(decide ((k:Int)∈rt.lent)))) (p:=(x1≠0)/\(¬((k:Int)∈rt.lent))) (YI Yv (Ys dq)) (fun Zi=>?_) (fun Zi=>?_)
  ·refine az (ZA 4 [1] (Zp (Zj none (k:Int) 1 (Y5 Z4)) (Z0 1 (ic [0,1,1,1,1,1,1] (K7 b2 ka kb kc kd ke kf L2 rt.lent x1 1 (-1) (hlk:=Zh)) ?_))))
   rintro _ _ ⟨wa1,wb1,wc1,wd1,we1,wf1,rfl⟩
   exact ie (az (Z0 1 (ZE k (Z2 (ZJ ⟨k+1,(L2.grow x1 1 (-1)),wa1,wb1,wc1,wd1,we1,wf1,ob,(T8.grow Zh),(by simp [ZH.grow];omega),(by rw [Yi Z4,AB] at YJ;first|(rw [Zk Zi] at YJ;exact YJ)|(rw [Za Zi] at YJ;exact YJ)),rfl,rfl,rfl⟩ (wk [0,6,0,0,0,0,0,0] (ZO k fl)))))))
  refine az (ZA 4 [1] (Zp (Zj none (k:Int) 1 (Y5 Z4)) (Z0 1 (ic [0,1,1,1,1,1,1] (K7 b2 ka kb kc kd ke kf L2 rt.lent x1 0 (-1) (hlk:=Zh)) ?_))))
  rintro _ _ ⟨wa2,wb2,wc2,wd2,we2,wf2,rfl⟩
  exact ie (az (Z0 1 (ZE k (Z2 (ZJ ⟨k+1,(L2.grow x1 0 (-1)),wa2,wb2,wc2,wd2,we2,wf2,ob,(T8.grow Zh),(by simp [ZH.grow];omega),(by rw [Yi Z4,AB] at YJ;first|(rw [Zk Zi] at YJ;exact YJ)|(rw [Za Zi] at YJ;exact YJ)),rfl,rfl,rfl⟩ (wk [0,6,0,0,0,0,0,0] (ZO k fl)))))))
 refine ax 0 (Y7 ?_)
 have hNl:L2=Kb rt:=by rw [<-YJ,Xt om];rfl
 exact ZT (r1 [0,1,1,1,1,1,1] ⟨b2,ka,kb,kc,kd,ke,kf,rfl,rfl⟩ (eq:=(rc (rv (xs:=L2.vars) (by rw [hNl]) (rv (xs:=L2.own) (by rw [hNl]) (rv (xs:=L2.par) (by rw [hNl]) (rv (xs:=L2.con) (by rw [hNl]) (rv (xs:=L2.fst) (by rw [hNl]) (rv (xs:=L2.tok) (by rw [hNl]) rz)))))))))
theorem Z5g (n:ZC) (f0:Nat) (k0:Nat) (rt:Yz) (hz:Js n:=by exact ob) (hr:n.routines[f0]? = some rt:=by exact ob) (hk0:k0<=rt.body.steps.length:=by exact ob):Zo 114 [YB n,.i f0,.i k0] [] (fun r h=>(∃(c:Nat) (wa:Hd) (wb:Hd) (wc:Hd) (wd:Hd) (we:Hd) (wf:Hd) (L:ZH) (q:Int),r=.tup [.p c 0,.b true]/\h=[.obj c [.h wa,.h wb,.h wc,.h wd,.h we,.h wf,Z3 rt.lent],rV wa L.vars,rV wb L.own,rV wc L.par,rV wd L.con,rV we L.fst,rV wf L.tok]/\XG n.decls L q/\L.vars.length=rt.params.length+Yn (rt.body.steps.take k0)/\L.vars.length<=500000000/\rt.lent.length<=4194304)∨(r=.tup [.any,.b false]/\h=[]/\True)):=by
 have hzl:=hz.len
 have hfl:=(Xh.1 hr).1
 have hrm:=Y2 hr
 have hbz:=hz.body _ hrm
 have ZI:=Uk rt.body
 have hbe:=rt.body.sz_eq
 obtain ⟨hk,hkv⟩:=Z8m n.decls rt
 refine ZG 64 Tryz.func114 (ar (iA (X4 n) fun b1=>Z2 (Yr 1 [0] (Zu [] (Zcr n) (Xb 12 [1,2,3] [(21,.b ((!QR n)||(!(decide (0<=(f0:Int)/\(f0:Int)<=((n.routines.length:Int)-1))))))] (fun gz=>gz) ?_ (fun hj1=>?_))))))
 ·refine Xp [1,2,3] [(34,.b (((!QR n)||(!(decide (0<=(f0:Int)/\(f0:Int)<=((n.routines.length:Int)-1)))))||(!(decide (0<=(k0:Int)/\(k0:Int)<=(rt.body.steps.length:Int))))))] (fun gz=>gz) ?_ ?_
  ·refine Z0 1 (ib (b:=((!QR n)||(!(decide (0<=(f0:Int)/\(f0:Int)<=((n.routines.length:Int)-1)))))) 22 (fun Zc=>?_) (fun Zc=>?_))
   ·exact Z2 (wk [0] (Zl true Zc fl))
   exact ZA 4 [0] (Zp (Zj none (f0:Int) 5 (Vw hr)) (Z0 3 (iw (Up rt.body.steps) (Zu [] (V0 (k0:Int) 0 (rt.body.steps.length:Int)) (Z2 (wk [0] (Zl (!(decide (0<=(k0:Int)/\(k0:Int)<=(rt.body.steps.length:Int)))) Zc fl)))))))
  refine ac (((!QR n)||(!(decide (0<=(f0:Int)/\(f0:Int)<=((n.routines.length:Int)-1)))))||(!(decide (0<=(k0:Int)/\(k0:Int)<=(rt.body.steps.length:Int))))) (p:=((¬(QR n=true))∨(¬(0<=(f0:Int)/\(f0:Int)<=((n.routines.length:Int)-1))))∨(¬(0<=(k0:Int)/\(k0:Int)<=(rt.body.steps.length:Int)))) (ZY (ZY (Ys Iff.rfl) (Ys dq)) (Ys dq)) (fun Z9=>?_) (fun Z9=>?_)
  ·exact ar (ZM 1 [(35,.agg [.sl [] none,.sl [] none,.sl [] none,.sl [] none,.sl [] none,.sl [] none,.sl [] none])] (iA [.sl [] none,.sl [] none,.sl [] none,.sl [] none,.sl [] none,.sl [] none,.sl [] none] fun b2=>Zm (r2 [] [.p b2 0,.b false] (.inr ⟨rfl,rfl,(by first|exact True.intro|exact ⟨Zh,by rw [show k0=j by omega];exact Qt,by omega,hll⟩)⟩) (Zd.tup (.cons (Zd.any _) (.cons (lr _) .nil))))))
  have hV:QR n=true:=Bv fun z=>Z9 (.inl (.inl z))
  obtain ⟨hok,hall⟩:=Zdw hz hV
  have hty:=hall rt hrm
  obtain ⟨vs,t0,hvs,hres,hrt0⟩:=Mq hty
  have hpl:=hok.params_at hr
  have hll:=hok.lent_at hr
  refine ak (Zq 3 [0] (Zp (Zj none (f0:Int) 5 (Vw hr)) (Z0 1 (ic [] (Zbz rt) ?_))))
  rintro _ _ ⟨c1,wa1,wb1,wc1,wd1,we1,wf1,rfl,rfl⟩
  refine Z2 (Y0 (ab 0 (Y3 (fun fz gz m F h=>∃(j:Nat) (q2:Int) (L2:ZH) (ka:Hd) (kb:Hd) (kc:Hd) (kd:Hd) (ke:Hd) (kf:Hd),(j<=k0)/\(XG n.decls L2 q2)/\(0<=q2/\q2+4*Yo (rt.body.steps.drop j)<=999999990)/\(L2.vars.length+4*Yo (rt.body.steps.drop j)<=400000000)/\(Uj n (rt.body.steps.drop j) L2.vars=some vs)/\(L2.vars.length=rt.params.length+Yn (rt.body.steps.take j))/\F=sF [1,2,3,8] fz [(9,.i j)]/\h=[.obj c1 [.h ka,.h kb,.h kc,.h kd,.h ke,.h kf,Z3 rt.lent],Zg gz 7,rV ka L2.vars,rV kb L2.own,rV kc L2.par,rV kd L2.con,rV ke L2.fst,rV kf L2.tok]/\m=k0-j) _ _ _ ⟨0,1,(Kb rt),wa1,wb1,wc1,wd1,we1,wf1,ob,hk,(by rw [Bw];omega),(by rw [Bw,hkv];omega),(by rw [Bw,hkv];exact hvs),(by rw [hkv];rfl),rfl,rfl,rfl⟩ (wk [0,6,0,0,0,0,0,0] (Yd fl)) ?_)))
  rintro m F h ⟨j,q2,L2,ka,kb,kc,kd,ke,kf,Yk,Zh,Zy,YJ,Wc,Qt,rfl,rfl,rfl⟩
  refine Xd (ZZ ((j:Int)<(k0:Int)) (fun Zi=>?_) (fun Zi=>?_))
  ·obtain ⟨s1,hs1⟩:=Zv rt.body.steps j om
   have hss:=Dw hs1
   have hsp:=s1.sz_pos
   have hzd:=RX hs1
   have hdt:=MO hs1
   have hdr:=Yi hs1
   rw [hdr] at Wc
   obtain ⟨g1,g2⟩:=S6 Wc
   refine ak (aq (ab 1 (aD 14 (ZU 9 14 [0,1,2,3,4] [1,1] (dx 5 (Zj none (f0:Int) 5 (Vw hr)) (Zs 4 8 [6,7,8,9] (dx 10 (Zj none (j:Int) 5 (WV hs1)) (Zs 2 3 [11] (Z8 12 (dc 12 [0,1,1,1,1,1,1] [] [] (Z89 c1 ka kb kc kd ke kf n s1 L2 rt.lent q2 hok ob Zh g1 om om) ?_))))))))))
   rintro _ _ (⟨wa2,wb2,wc2,wd2,we2,wf2,M'1,rfl,rfl,YP⟩|⟨rfl,rfl,X2⟩)
   ·have hP:=YP
    have kx:=S3 hok Zh Zy.1 g1 hP
    have hsf:=Zb7 g1
    exact Zs 0 1 [13] (de (Vt (ak (az (Z0 1 (ZE j (Z2 (ZJ ⟨j+1,(q2+4*s1.sz),M'1,wa2,wb2,wc2,wd2,we2,wf2,ob,kx.1,om,(by rw [kx.2,hsf];split<;>omega),(by rw [kx.2];exact g2),(by rw [kx.2,hsf,hdt];split<;>omega),rfl,rfl,rfl⟩ (wk [0,6,0,0,0,0,0,0] (ZO j fl))))))))))
   exact Zs 0 1 [13] (de (VD (ar (Zm (r2 [] [.p c1 0,.b false] (.inr ⟨rfl,rfl,(by first|exact True.intro|exact ⟨Zh,by rw [show k0=j by omega];exact Qt,by omega,hll⟩)⟩) (Zd.tup (.cons (Zd.any _) (.cons (lr _) .nil))))))))
  exact ax 0 (ar (Zm (r2 [0,1,1,1,1,1,1] [.p c1 0,.b true] (.inl ⟨c1,ka,kb,kc,kd,ke,kf,L2,_,rfl,rfl,(by first|exact True.intro|exact ⟨Zh,by rw [show k0=j by omega];exact Qt,by omega,hll⟩)⟩) (lr _))))
 refine Z0 2 (ib (b:=(!QR n)) 13 (fun ZF=>?_) (fun ZF=>?_))
 ·exact Z0 8 (Yb (wk [0] (Zl true ZF fl)) hj1)
 exact ZA 3 [0] (iw (TB n.routines) (ia (((n.routines.length:Int)-1)) (((n.routines.length:Int))-(1)) (Zu [] (V0 (f0:Int) 0 ((n.routines.length:Int)-1)) (Z0 2 (Yb (wk [0] (Zl (!(decide (0<=(f0:Int)/\(f0:Int)<=((n.routines.length:Int)-1)))) ZF fl)) hj1)))))
theorem NR (b:Z7) (i0:Nat) (s:Z5) (hi:i0<=b.steps.length:=by exact ob) (hz:b.sz<=100000000:=by exact ob):Zo 116 [Yh b,.i i0,X0 s] [] (Yy (Yh (Z7.mk (WC b.steps i0 s) b.result))):=by
 have ZI:=Uk b
 exact ZG 26 Tryz.func116 (ar (iA (XR b) fun b1=>iA (W8 s) fun b2=>iA [nl,.i 0] fun b3=>ie (ar (iL (ZL []) 0 5 fun v1=>ZA 3 [3] (Zp (AH (es:=ZL b.steps) (hv:=none) (l:=0) (m:=(i0:Int)) (sz:=5) (es':=ZL (b.steps.take i0)) kr om (by simp<;>omega) (by simp<;>omega) (XC _) (by first|(simp only [Tj,Uf,Ak,Aj];done)|(simp only [Tj,Uf,Ak,Aj];rfl)|(simp [Ak,Aj];done))) (ip 0 (ZL (b.steps.take i0)) (ZL []) (ZL (b.steps.take i0)) v1 none 5 (XC _) (XC _) (Ua _) (by simp<;>omega) (by simp [VQ]) fun v2=>Z2 (aD 13 (ZU 8 13 [0,1,4,5,6] [2,3] (dx 7 (AH (es:=ZL b.steps) (hv:=none) (l:=(i0:Int)) (m:=(((ZL b.steps).length:Nat):Int)) (sz:=5) (es':=ZL (b.steps.drop i0)) kr om (by simp<;>omega) (by simp<;>omega) (XC _) (by first|(simp only [Tj,Uf,Ak,Aj];done)|(simp only [Tj,Uf,Ak,Aj];rfl)|(simp [Ak,Aj];done))) (ZU 5 7 [9,10] [3] (Z8 2 (dL 2 [2,2] [b1,b1] [X0 s] 1 5 fun v3=>Yq 4 4 [] [(16,.sl [X0 s] none)] (Z8 3 (dp 3 1 [2,2] [b1,b1] (ZL ((b.steps.take i0)++[s])) (ZL (b.steps.take i0)) [X0 s] v2 none 5 (XC _) (KC rfl) rfl (by simp<;>omega) (by simp [Vg,VQ]) fun v4=>Z8 8 (dp 8 0 [2] [b1] (ZL (WC b.steps i0 s)) (ZL ((b.steps.take i0)++[s])) (ZL (b.steps.drop i0)) v4 none 5 (XC _) (XC _) (Ua _) (by simp<;>omega) (by simp only [WC,Vg]) fun v5=>Zs 1 2 [11] (Z8 12 (YZ 12 2 [] [] b3 [Xc (WC b.steps i0 s) v5,.i b.result] (de (ZT (r3 [] [.agg [Xc (WC b.steps i0 s) v5,.i b.result]] [0] [(b3,b3)] ⟨rfl,rfl⟩ (Zd.agg (.cons (Zd.sl _ (Yp ZL rfl)) (.cons li .nil)))))))))))))))))))))))
theorem Z69 (n:ZC) (f0:Nat) (b:Z7) (rt:Yz) (hr:n.routines[f0]? = some rt) (hl:n.routines.length<=1000000) (hp:rt.params.length<=4294967296) (hl2:rt.lent.length<=4294967296):Zo 118 [YB n,.i f0,Yh b] [] (fun r h=>∃(g:Nat) (c:Nat),r=.agg [Ya n.decls,.ms g 0 n.routines.length c]/\h=[.row (.slice (some ⟨g,0,none⟩) n.routines.length c) 5 (Ze (X6 (n.routines.set f0 (Yz.mk rt.params rt.lent rt.result b))))]):=by
 have hfl:=(Xh.1 hr).1
 refine ZG 26 Tryz.func118 (ar (iA (X4 n) fun b1=>iA (XR b) fun b2=>iA [nl,nl] fun b3=>ie (ar (E6 5 fun g1=>ZA 2 [3] (iKC 0 g1 5 (X6 n.routines) none (UR _) (by simp<;>omega) fun v1=>E5 0 n.routines.length (v:=v1) (Nu _) om (fun g2 c1 he1=>?_))))))
 subst he1
 exact Z2 (aD 11 (ZU 6 11 [0,1,2,3,4] [3] (dx 5 (Zj none (f0:Int) 5 (Vw hr)) (ZU 3 5 [6,7] [2] (Z8 8 (YH 8 [] [] [] (Ds rt b) (dx 9 (W7 g2 n.routines.length c1 f0 5 (f0:Int)) (Z8 10 (JH 10 0 [] [] g2 n.routines.length c1 5 (f0*5) (Jd (Yz.mk rt.params rt.lent rt.result b)) (Ze (X6 n.routines)) (Ze (X6 (n.routines.set f0 (Yz.mk rt.params rt.lent rt.result b)))) (by rw [Nu];simp only [Yw,X5];omega) (Z46 (Yz.mk rt.params rt.lent rt.result b) hfl) (de (Zq 4 [3] (Zz 1 b3 [Ya n.decls,.ms g2 0 n.routines.length c1] (ie (ZT (r3 [1] [.agg [Ya n.decls,.ms g2 0 n.routines.length c1]] [0] [(b3,b3)] ⟨g2,c1,rfl,rfl⟩ (lr _))))))))))))))))
theorem Z68 (n:ZC) (f0:Nat) (b:Z7) (rt:Yz) (hr:n.routines[f0]? = some rt:=by exact ob) (hl:n.routines.length<=1000000:=by exact ob) (hp:rt.params.length<=4294967296:=by exact ob) (hl2:rt.lent.length<=4294967296:=by exact ob):Zo 118 [YB n,.i f0,Yh b] [] (Yy (YB (withR n f0 rt b))):=(WP.frzN (ds:=n.decls) (rs:=(n.routines.set f0 (Yz.mk rt.params rt.lent rt.result b))) (hs:=[]) ((Z69 n f0 b rt hr hl hp hl2).mono fun r h ⟨g,c,e1,e2⟩=>⟨g,c,by rw [e1];simp only [VC],by rw [e2];simp only [VC]⟩))
theorem J2 (rd:Nat) (bs:LI) (p:Nat) (mx:Nat) (ZI:∀z∈bs,0<=z/\z<=255) (hp:p+1<=1000000000:=by exact ob) (hmx:0<mx:=by exact ob):Zo 38 [.p rd 0,.i mx] [YD rd bs p] (fun r h=>∃(kn:Nat),r=.i kn/\h=[.obj rd [U4 bs,.i (p+1:Nat)]]/\kn<mx):=(XS rd bs p mx ZI hp).mono fun r h ⟨z,hr,hh,hz⟩=>by
  have h0:=hz.lt om
  exact ⟨z.toNat,by rw [hr,Int.toNat_of_nonneg h0.1],hh,by omega⟩
theorem NN (rd:Nat) (bs:LI) (p:Nat) (n:ZC) (ZI:∀z∈bs,0<=z/\z<=255) (hp:p+4<=1000000000:=by exact ob) (hz:Js n:=by exact ob) (hl1:1<=n.routines.length/\n.routines.length<=1000000:=by exact ob):Zo 77 [.p rd 0,YB n] [YD rd bs p] (fun r h=>∃(n2:ZC) (p2:Nat),r=YB n2/\h=[YD rd bs p2]/\ES n n2/\p<=p2/\p2<=p+4):=by
 refine ZG 102 Tryz.func77 (ar (iA (X4 n) fun b1=>iA [nl,nl] fun b2=>ie (Zq 3 [1] (iw (TB n.routines) (ic [2] (J2 rd bs p n.routines.length (ZI:=ob)) ?_)))))
 rintro _ _ ⟨YO,rfl,rfl,Y6⟩
 refine Z2 (Zq 3 [2] ?_)
 obtain ⟨x1,Z4⟩:=Zv n.routines YO om
 have hrm:=Y2 Z4
 have hbz:=hz.body _ hrm
 have ZI:=Uk (x1).body
 have hpl:=hz.params _ hrm
 have hll:=hz.lent _ hrm
 have hrx:=Z4
 refine Zp (Zj none (YO:Int) 5 (Vw Z4)) (Z0 2 (iA [nl,.i 0] fun b3=>Zz 0 b3 (XR x1.body) (ie (Zq 3 [0] (iw (Up x1.body.steps) (ia (((x1.body.steps.length+1:Nat):Int)) (((x1.body.steps.length:Int))+(1)) (ic [1] (J2 rd bs (p+1) (x1.body.steps.length+1) (ZI:=ob)) ?_)))))))
 rintro _ _ ⟨Xe,rfl,rfl,Yt⟩
 refine Z2 (Zq 3 [3] (ic [] (Z5g n YO Xe x1 (hr:=hrx)) ?_))
 rintro _ _ (⟨c1,wa1,wb1,wc1,wd1,we1,wf1,L1,q1,rfl,rfl,YP⟩|⟨rfl,rfl,X2⟩)
 ·obtain ⟨hLO,hLv,hLb,hLl⟩:=YP
  have hLn:=hLO.len
  obtain ⟨e1,e2,e3,e4,e5⟩:=hLO.len
  refine Z2 (Y0 (Vt (ak (ar (iL (Z6 []) 0 1 fun v1=>?_)))))
  refine Z2 (Y0 (ab 0 (Y3 (fun fz gz m F h=>∃(k:Nat) (vl:LI) (u:Value),(k<=L1.vars.length)/\(vl.length<=k)/\(∀v∈vl,0<=v/\v<(L1.vars.length:Int))/\F=sF [0,3,4,5,6,7,8] fz [(10,ZV vl u),(11,.i k)]/\h=[Zg gz 1,Zg gz 2,Zg gz 3,Zg gz 4,Zg gz 5,Zg gz 6,Zg gz 7,Zg gz 8,Zg gz 9,Zg gz 10,Zg gz 11,.tail u 1]/\m=L1.vars.length-k) _ _ _ ⟨0,[],v1,ob,ob,(fun v hv=>by cases hv),rfl,rfl,rfl⟩ (wk [1,1,1,1,1,1,1,1,1,1,1,0] (fr (Yd fl))) ?_)))
  rintro m F h ⟨k,vl,u,Yk,Zh,Zy,rfl,rfl,rfl⟩
  refine Yr 5 [0] (Zp (Cq 1 wa1 L1.vars) (ZZ ((k:Int)<(L1.vars.length:Int)) (fun Z9=>?_) (fun Z9=>?_)))
  ·refine ak (aq (ab 1 (Zq 5 [0] (Zp (VV 1 wa1 L1.vars (k:Int) k) ?_))))
   obtain ⟨x2,Zx⟩:=Zv L1.vars k om
   refine U2 (Q4 1 wa1 L1.vars k x2 Zx) (Z0 2 (ib (b:=(x2 != 0)) 59 (fun Zc=>?_) (fun Zc=>?_)))
   ·refine Z0 2 (Zu [0,0,0,0,0,0,0] (FU c1 wa1 wb1 wc1 wd1 we1 wf1 L1 x1.lent (k:Int) (hlk:=hLO.len) (hd:=hLO.down)) (YC (UM L1 x1.lent (k:Int)) Iff.rfl (fun Zi=>?_) (fun Zi=>?_)))
    ·exact az (Z0 2 (iL (Z6 [(k:Int)]) 1 1 fun v2=>ZM 0 [(66,Z3 [(k:Int)])] (ip 12 (Z6 (vl++[(k:Int)])) (Z6 vl) (Z6 [(k:Int)]) u none 1 (YG _) (YG _) (W4 _) (by simp<;>omega) (by simp [W3,Z6]) fun v3=>Z2 (az (Z0 1 (ZE k (Z2 (ZJ ⟨k+1,(vl++[(k:Int)]),v3,ob,ob,(by first|exact Zy|exact Xx Zy om),rfl,rfl,rfl⟩ (wk [2,2,2,2,2,2,2,2,2,2,2,0] (fr (ZO k fl)))))))))))
    exact ak (az (Z0 1 (ZE k (Z2 (ZJ ⟨k+1,vl,u,ob,ob,(by first|exact Zy|exact Xx Zy om),rfl,rfl,rfl⟩ (Zw 12 (fr (ZO k fl))))))))
   exact Z2 (Vt (ak (az (Z0 1 (ZE k (Z2 (ZJ ⟨k+1,vl,u,ob,ob,(by first|exact Zy|exact Xx Zy om),rfl,rfl,rfl⟩ (Zw 12 (fr (ZO k fl))))))))))
  refine ax 0 (YQ 1 (iw (Yc vl) (YC ((vl.length:Int)==0) Zf (fun ZB=>?_) (fun ZB=>?_))))
  ·exact Zq 1 [10] (Zz 9 b2 (X4 n) (ie (ZT (r3 [8] [YB n] [0] [(b2,b2)] ⟨n,(p+1)+1,rfl,rfl,(by first|exact ⟨.inl rfl,by omega,by omega⟩|(have hv:=Zy x3 (Y2 YU);exact ⟨.inr ⟨YO,x1,Xe,Xe+Q1,x3,hrx,by omega,by omega,hv.1,by omega,rfl⟩,by omega,by omega⟩))⟩ (lr _)))))
  refine ak (Yf 3 (iw (Yc vl) (ic [7] (J2 rd bs ((p+1)+1) vl.length (ZI:=ob)) ?_)))
  rintro _ _ ⟨QD,rfl,rfl,Wf⟩
  obtain ⟨x3,YU⟩:=Zv vl QD om
  refine Zp (Zj (some u) (QD:Int) 1 (Y5 YU)) (Z2 (Zq 4 [8] (iw (Up x1.body.steps) (Z0 1 (ia ((((x1.body.steps.length-Xe):Nat):Int)) (((x1.body.steps.length:Int))-((Xe:Int))) (ia ((((x1.body.steps.length-Xe)+1:Nat):Int)) (((((x1.body.steps.length-Xe):Nat):Int))+(1)) (ic [0] (J2 rd bs (((p+1)+1)+1) ((x1.body.steps.length-Xe)+1) (ZI:=ob)) ?_)))))))
  rintro _ _ ⟨Q1,rfl,rfl,WY⟩
  exact ia (((Xe+Q1:Nat):Int)) (((Xe:Int))+((Q1:Int))) (Z2 (aD 6 (ZU 3 6 [0,1,2] [8] (Z8 3 (YH 3 [] [2] [b3] (Br 15 x3) (Z8 4 (YH 4 [] [] [] (NR x1.body (Xe+Q1) (Zt 15 x3) (hi:=(by first|omega|(show Xe<=(WC _ _ _).length;rw [Pr om];omega))) (hz:=(by first|omega|(rw [Z7.sz,Gh];have e:(Zt 15 x3).sz=2:=rfl;have e2:=x1.body.sz_eq;omega)))) (Z8 5 (YZ 5 8 [] [] b3 (XR (Z7.mk (WC x1.body.steps (Xe+Q1) (Zt 15 x3)) x1.body.result)) (de (aD 9 (ZU 4 9 [0,1,2,3,4] [10,0] (Z8 5 (YH 5 [] [0,4] [b3,b1] (Br 14 x3) (Z8 6 (YH 6 [] [4] [b1] (NR (Z7.mk (WC x1.body.steps (Xe+Q1) (Zt 15 x3)) x1.body.result) Xe (Zt 14 x3) (hi:=(by first|omega|(show Xe<=(WC _ _ _).length;rw [Pr om];omega))) (hz:=(by first|omega|(rw [Z7.sz,Gh];have e:(Zt 15 x3).sz=2:=rfl;have e2:=x1.body.sz_eq;omega)))) (Z8 7 (YH 7 [] [] [] (Z68 n YO (Z7.mk (WC (Z7.mk (WC x1.body.steps (Xe+Q1) (Zt 15 x3)) x1.body.result).steps Xe (Zt 14 x3)) (Z7.mk (WC x1.body.steps (Xe+Q1) (Zt 15 x3)) x1.body.result).result) x1 (hr:=hrx)) (Z8 8 (YZ 8 9 [] [] b2 (X4 (withR n YO x1 (Z7.mk (WC (Z7.mk (WC x1.body.steps (Xe+Q1) (Zt 15 x3)) x1.body.result).steps Xe (Zt 14 x3)) (Z7.mk (WC x1.body.steps (Xe+Q1) (Zt 15 x3)) x1.body.result).result))) (de (ZT (r3 [2] [YB (withR n YO x1 (Z7.mk (WC (Z7.mk (WC x1.body.steps (Xe+Q1) (Zt 15 x3)) x1.body.result).steps Xe (Zt 14 x3)) (Z7.mk (WC x1.body.steps (Xe+Q1) (Zt 15 x3)) x1.body.result).result))] [0] [(b2,b2)] ⟨(withR n YO x1 (Z7.mk (WC (Z7.mk (WC x1.body.steps (Xe+Q1) (Zt 15 x3)) x1.body.result).steps Xe (Zt 14 x3)) (Z7.mk (WC x1.body.steps (Xe+Q1) (Zt 15 x3)) x1.body.result).result)),(((p+1)+1)+1)+1,rfl,rfl,(by first|exact ⟨.inl rfl,by omega,by omega⟩|(have hv:=Zy x3 (Y2 YU);exact ⟨.inr ⟨YO,x1,Xe,Xe+Q1,x3,hrx,by omega,by omega,hv.1,by omega,rfl⟩,by omega,by omega⟩))⟩ (lr _))))))))))))))))))))))))
 exact Z2 (Y0 (VD (Zq 1 [3] (Zz 2 b2 (X4 n) (ie (ZT (r3 [1] [YB n] [0] [(b2,b2)] ⟨n,(p+1)+1,rfl,rfl,(by first|exact ⟨.inl rfl,by omega,by omega⟩|(have hv:=Zy x3 (Y2 YU);exact ⟨.inr ⟨YO,x1,Xe,Xe+Q1,x3,hrx,by omega,by omega,hv.1,by omega,rfl⟩,by omega,by omega⟩))⟩ (lr _))))))))
end Go.Abs
