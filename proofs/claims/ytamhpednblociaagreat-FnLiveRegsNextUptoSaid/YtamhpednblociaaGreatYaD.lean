/-
  A part of the proofs of several laws (see the last file): no condition.
-/
import Derived.Test.YtamhpednblociaaGreatYaC
set_option linter.all false
set_option linter.unusedVariables false
set_option linter.unusedSimpArgs false
set_option linter.unusedSectionVars false
set_option maxRecDepth 10000
set_option maxHeartbeats 4000000
namespace Go.Abs
open Go.Proofs
theorem OZ (rd:Nat) (bs:LI) (p:Nat) (g:Wd) (gb:Nat) (rs:List Func) (vs:LI) (t:Int) (b:Nat) (ZK:∀z∈bs,0<=z/\z<=255) (hp:p+40000<=1000000000:=by exact ob) (hg:GP g:=by exact ob) (Wi:g.funcs <+: rs:=by exact ob) (hv:vs.length+3*b<=900:=by exact ob) (hb:b<=20:=by exact ob):Zp 214 [.p rd 0,.agg (Wy g gb),Z4 vs,.i t,.i b] [YD rd bs p,XX gb rs] (fun r h=>∃(e:Z2) (p2:Nat),r=Y9 e/\h=[YD rd bs p2,XX gb rs]/\GE g vs.length 30 e/\p<=p2/\p2<=p+40000):=by
 have Zij:=FH hb
 refine ZG 34 Tryz.func214 (ar (iA (Wy g gb) fun b1=>iA [.i 0,.i 0,nl] fun b2=>ie (Zq 5 [1] (ic [2,2] (QZ rd bs p g gb rs vs t b (ZK:=ob)) ?_))))
 rintro _ _ ⟨e1,p21,rfl,rfl,Y7⟩
 have Xp:=Y7.1
 refine iA [.i 0,.i 0,nl] fun b3=>?_
 refine ZB 0 b3 (X1 e1) (ie (aq (ab 0 (Y5 (fun fz gz m F h=>∃(bq:Nat) (eQ:Z2) (pq:Nat),(GE g vs.length (bS bq) eQ)/\(bq<=b)/\(p<=pq/\pq+1900*bq<=p+1900*(b+1))/\F=sF [0,2,3,6,10,11] fz [(4,.i bq)]/\h=[.obj b3 (X1 eQ),YD rd bs pq,Zj gz 2,Zj gz 3,Zj gz 4]/\m=bq+1) _ _ _ ⟨b,e1,p21,Xp,ob,ob,rfl,rfl,rfl⟩ (Zx 5 fl) ?_))))
 rintro m F h ⟨bq,eQ,pq,Yi,Zk,ZA,rfl,rfl,rfl⟩
 refine Yt 1 [0] (ic [] (P6 eQ (hz:=(by have h1:=Yi.2;have h2:=(FH (b:=bq) om).1;omega))) ?_)
 rintro _ _ ⟨w1,rfl,rfl,Ym⟩
 have Lk:=Ym
 have hq20:=FH (b:=bq) om
 have hq21:=FH (b:=bq / 2) om
 have XT:=Yi.2
 refine XC [0,2,3,4,6,10,11] [(24,.b ((decide (w1<0))&&(decide ((bq:Int)>2))))] (fun gz=>gz) ?_ ?_
 ·refine Z0 2 (ib (b:=(decide (w1<0))) 21 (fun Zd=>?_) (fun Zd=>?_))
  ·exact Z1 (Zx 5 (Zo (decide ((bq:Int)>2)) Zd fl))
  exact Z1 (Zx 5 (Zo false Zd fl))
 refine ac ((decide (w1<0))&&(decide ((bq:Int)>2))) (p:=(w1<0)/\((bq:Int)>2)) (YG dq dq) (fun Za=>?_) (fun Za=>?_)
 ·refine ak (ab 1 (Ye 1 (Zm (DK bq 2 om om) (Z1 (az (Zy 5 [4] (ic [1,1] (QZ rd bs pq g gb rs vs t (bq / 2) (ZK:=ob)) ?_)))))))
  rintro _ _ ⟨e2,p22,rfl,rfl,Xf⟩
  have Xp:=Xf.1
  exact ZB 2 b3 (X1 e2) (ie (ZH ⟨(bq / 2),e2,p22,Xp,ob,ob,rfl,rfl,rfl⟩ (Zx 5 (fc (x:=.i (bq / 2:Nat)) li fl))))
 exact ax 0 (Zq 1 [0] (ZB 3 b2 (X1 eQ) (ie (ZU (r3 [2,2] [Y9 eQ] [0] [(b2,b2)] ⟨eQ,pq,rfl,rfl,⟨⟨Yi.1,by omega⟩,by omega⟩⟩ (lr _))))))
theorem Z8o (rd:Nat) (bs:LI) (p:Nat) (t:Int) (ZK:∀z∈bs,0<=z/\z<=255) (hp:p+14<=1000000000:=by exact ob):Zp 242 [.p rd 0,.i t] [YD rd bs p] (fun r h=>∃(e:Z2) (p2:Nat),r=Y9 e/\h=[YD rd bs p2]/\(∀g:Wd,SE g 9 e)/\p<=p2/\p2<=p+14):=by
 refine ZG 45 Tryz.func242 (ar (iA [.i 0,.i 0,nl] fun b1=>ie (ar (iL (Yz []) 0 3 fun v1=>ZT 0 [(10,XH [])] (Zt [] (XY 6 0 []) (iA [.i 0,.i 0,nl] fun b2=>ZB 0 b2 (X1 (Z2.mk 6 0 [])) (ie (Xe (Yy (t==3) Zg (fun Za=>?_) (fun Za=>?_))))))))))
 ·refine ar (iL (Yz []) 0 3 fun v2=>ZT 0 [(14,XH [])] (Zt [] (XY 6 2 []) (iA [.i 0,.i 0,nl] fun b3=>?_)))
  refine ZB 0 b3 (X1 (Z2.mk 6 2 [])) (ie (aD 9 (ZY 6 9 [0,1,4] [0,0] (Bu (fun fz gz F h=>∃(k1:Int) (b4:Nat),(Pk 9 k1)/\F=sF [0,4,6] fz [(7,.p b4 0)]/\h=[.obj b4 (X1 (Z2.mk 6 3 [Z2.mk 6 2 [],Z2.mk 0 k1 [],Z2.mk 6 2 []])),.obj rd [Ul bs,.i (p+1:Nat)],Zj gz 0,Zj gz 1,Zj gz 2,Zj gz 3,Zj gz 4]) ?_ ?_))))
  ·refine Uo 2 7 ?_ ?_
   ·refine dc 2 [5] [0,0] [b3,b3] (W1 rd bs p 9 (ZK:=ob)) ?_
    rintro _ _ ⟨k1,rfl,rfl,Y7⟩
    have qhp1:=Y7.lt om
    refine Uo 3 7 ?_ ?_
    ·refine YI 3 [] [1,1] [b3,b3] (AU k1) (Uo 5 7 ?_ ?_)
     ·refine WL 5 [] [] [Y9 (Z2.mk 6 2 []),Y9 (Z2.mk 0 k1 []),Y9 (Z2.mk 6 2 [])] (Yz [Z2.mk 6 2 [],Z2.mk 0 k1 [],Z2.mk 6 2 []]) (XW [Z2.mk 6 2 [],Z2.mk 0 k1 [],Z2.mk 6 2 []]).symm 3 3 fun v3=>Yw 3 3 [] [(21,XH [Z2.mk 6 2 [],Z2.mk 0 k1 [],Z2.mk 6 2 []])] (Uo 6 7 ?_ ?_)
      ·exact YI 6 [] [] [] (XY 6 3 [Z2.mk 6 2 [],Z2.mk 0 k1 [],Z2.mk 6 2 []]) (Z9 7 (dA 7 [] [] [.i 0,.i 0,nl] fun b4=>Z9 8 (X5 8 0 [] [] b4 (X1 (Z2.mk 6 3 [Z2.mk 6 2 [],Z2.mk 0 k1 [],Z2.mk 6 2 []])) (de (ZI ⟨k1,b4,(by assumption),rfl,rfl⟩ (wk [0,1,1,1,1,1,1] fl))))))
      exact dA 7 [] [] [.i 0,.i 0,nl] fun b5=>Z9 6 (YI 6 [] [] [] (XY 6 3 [Z2.mk 6 2 [],Z2.mk 0 k1 [],Z2.mk 6 2 []]) (Z9 8 (X5 8 0 [] [] b5 (X1 (Z2.mk 6 3 [Z2.mk 6 2 [],Z2.mk 0 k1 [],Z2.mk 6 2 []])) (de (ZI ⟨k1,b5,(by assumption),rfl,rfl⟩ (wk [0,1,1,1,1,1,1] fl))))))
     exact dA 7 [1,1] [b3,b3] [.i 0,.i 0,nl] fun b6=>Z9 5 (WL 5 [] [] [Y9 (Z2.mk 6 2 []),Y9 (Z2.mk 0 k1 []),Y9 (Z2.mk 6 2 [])] (Yz [Z2.mk 6 2 [],Z2.mk 0 k1 [],Z2.mk 6 2 []]) (XW [Z2.mk 6 2 [],Z2.mk 0 k1 [],Z2.mk 6 2 []]).symm 3 3 fun v4=>Yw 2 2 [] [(21,XH [Z2.mk 6 2 [],Z2.mk 0 k1 [],Z2.mk 6 2 []])] (Z9 6 (YI 6 [] [] [] (XY 6 3 [Z2.mk 6 2 [],Z2.mk 0 k1 [],Z2.mk 6 2 []]) (Z9 8 (X5 8 1 [] [] b6 (X1 (Z2.mk 6 3 [Z2.mk 6 2 [],Z2.mk 0 k1 [],Z2.mk 6 2 []])) (de (ZI ⟨k1,b6,(by assumption),rfl,rfl⟩ (wk [0,1,1,1,1,1,1] fl))))))))
    exact dA 7 [1,1] [b3,b3] [.i 0,.i 0,nl] fun b7=>Z9 3 (YI 3 [] [2,2] [b3,b3] (AU k1) (Z9 5 (WL 5 [] [] [Y9 (Z2.mk 6 2 []),Y9 (Z2.mk 0 k1 []),Y9 (Z2.mk 6 2 [])] (Yz [Z2.mk 6 2 [],Z2.mk 0 k1 [],Z2.mk 6 2 []]) (XW [Z2.mk 6 2 [],Z2.mk 0 k1 [],Z2.mk 6 2 []]).symm 3 3 fun v5=>Yw 2 2 [] [(21,XH [Z2.mk 6 2 [],Z2.mk 0 k1 [],Z2.mk 6 2 []])] (Z9 6 (YI 6 [] [] [] (XY 6 3 [Z2.mk 6 2 [],Z2.mk 0 k1 [],Z2.mk 6 2 []]) (Z9 8 (X5 8 1 [] [] b7 (X1 (Z2.mk 6 3 [Z2.mk 6 2 [],Z2.mk 0 k1 [],Z2.mk 6 2 []])) (de (ZI ⟨k1,b7,(by assumption),rfl,rfl⟩ (wk [0,1,1,1,1,1,1] fl))))))))))
   refine dA 7 [0,0] [b3,b3] [.i 0,.i 0,nl] fun b8=>Z9 2 (dc 2 [6] [1,1] [b3,b3] (W1 rd bs p 9 (ZK:=ob)) ?_)
   rintro _ _ ⟨k2,rfl,rfl,Ym⟩
   have qhp2:=Ym.lt om
   exact Z9 3 (YI 3 [] [2,2] [b3,b3] (AU k2) (Z9 5 (WL 5 [] [] [Y9 (Z2.mk 6 2 []),Y9 (Z2.mk 0 k2 []),Y9 (Z2.mk 6 2 [])] (Yz [Z2.mk 6 2 [],Z2.mk 0 k2 [],Z2.mk 6 2 []]) (XW [Z2.mk 6 2 [],Z2.mk 0 k2 [],Z2.mk 6 2 []]).symm 3 3 fun v6=>Yw 2 2 [] [(21,XH [Z2.mk 6 2 [],Z2.mk 0 k2 [],Z2.mk 6 2 []])] (Z9 6 (YI 6 [] [] [] (XY 6 3 [Z2.mk 6 2 [],Z2.mk 0 k2 [],Z2.mk 6 2 []]) (Z9 8 (X5 8 2 [] [] b8 (X1 (Z2.mk 6 3 [Z2.mk 6 2 [],Z2.mk 0 k2 [],Z2.mk 6 2 []])) (de (ZI ⟨k2,b8,(by assumption),rfl,rfl⟩ (wk [0,1,1,1,1,1,1] fl))))))))))
  rintro F h ⟨k1,b4,Y7,rfl,rfl⟩
  have qhp1:=Y7.lt om
  refine aD 8 (ZY 5 8 [0,1,4] [0,2] (Z9 2 (dc 2 [1] [1,0] [b3,b4] (W1 rd bs (p+1) 9 (ZK:=ob)) ?_)))
  rintro _ _ ⟨k3,rfl,rfl,YL⟩
  have qhp3:=YL.lt om
  exact Z9 3 (YI 3 [] [2,1] [b3,b4] (AU k3) (Z9 5 (WL 5 [] [] [Y9 (Z2.mk 6 3 [Z2.mk 6 2 [],Z2.mk 0 k1 [],Z2.mk 6 2 []]),Y9 (Z2.mk 0 k3 []),Y9 (Z2.mk 6 2 [])] (Yz [Z2.mk 6 3 [Z2.mk 6 2 [],Z2.mk 0 k1 [],Z2.mk 6 2 []],Z2.mk 0 k3 [],Z2.mk 6 2 []]) (XW [Z2.mk 6 3 [Z2.mk 6 2 [],Z2.mk 0 k1 [],Z2.mk 6 2 []],Z2.mk 0 k3 [],Z2.mk 6 2 []]).symm 3 3 fun v7=>Yw 2 2 [] [(28,XH [Z2.mk 6 3 [Z2.mk 6 2 [],Z2.mk 0 k1 [],Z2.mk 6 2 []],Z2.mk 0 k3 [],Z2.mk 6 2 []])] (Z9 6 (YI 6 [] [] [] (XY 6 3 [Z2.mk 6 3 [Z2.mk 6 2 [],Z2.mk 0 k1 [],Z2.mk 6 2 []],Z2.mk 0 k3 [],Z2.mk 6 2 []]) (Z9 7 (X5 7 7 [] [] b1 (X1 (Z2.mk 6 3 [Z2.mk 6 3 [Z2.mk 6 2 [],Z2.mk 0 k1 [],Z2.mk 6 2 []],Z2.mk 0 k3 [],Z2.mk 6 2 []])) (de (ZU (r3 [2] [Y9 (Z2.mk 6 3 [Z2.mk 6 3 [Z2.mk 6 2 [],Z2.mk 0 k1 [],Z2.mk 6 2 []],Z2.mk 0 k3 [],Z2.mk 6 2 []])] [0] [(b1,b1)] ⟨(Z2.mk 6 3 [Z2.mk 6 3 [Z2.mk 6 2 [],Z2.mk 0 k1 [],Z2.mk 6 2 []],Z2.mk 0 k3 [],Z2.mk 6 2 []]),(p+1)+1,rfl,rfl,⟨fun g=>SE.three (s1:=4) (s2:=1) (s3:=1) om om (SE.three (s1:=1) (s2:=1) (s3:=1) om om (SE.nil om om om) (SE.int om om) (SE.nil om om om) om) (SE.int om om) (SE.nil om om om) om,by omega⟩⟩ (lr _)))))))))))
 refine ak (Zq 1 [0] (iA [.i 0,.i 0,nl] fun b9=>ZB 0 b9 (X1 (Z2.mk 6 0 [])) (ie (YP 1 (ic [4] (W1 rd bs p 3 (ZK:=ob)) ?_)))))
 rintro _ _ ⟨k4,rfl,rfl,X3⟩
 have qhp4:=X3.lt om
 refine ia ((1+k4)) ((1)+(k4)) (Z1 (ab 0 (Y5 (fun fz gz m F h=>∃(j:Int) (eQ:Z2) (pq:Nat),(0<=j/\j<=3)/\(∀g:Wd,SE g (7-2*j.toNat) eQ)/\(p+1<=pq/\pq+4*j.toNat<=p+13)/\F=sF [0,4,8] fz [(9,.i j)]/\h=[YD rd bs pq,.obj b9 (X1 eQ),Zj gz 4]/\m=j.toNat) _ _ _ ⟨(1+k4),(Z2.mk 6 0 []),p+1,ob,(fun g=>SE.nil om om om),ob,rfl,rfl,rfl⟩ (wk [0,0,2] fl) ?_)))
 rintro m F h ⟨j,eQ,pq,Yi,Zk,ZA,rfl,rfl,rfl⟩
 refine Xe (Y0 (j>0) (fun Zh=>?_) (fun Zh=>?_))
 ·refine ak (aq (ab 1 (aE 7 (ZY 5 7 [0,3] [1] (Z9 1 (dc 1 [0] [0] [b9] (P9 rd bs pq (ZK:=ob)) ?_))))))
  rintro _ _ ⟨z1,rfl,rfl,Xf⟩
  have hz:=Xf
  exact Z9 2 (YI 2 [] [1] [b9] (AU z1) (Z9 4 (WL 4 [] [] [Y9 (Z2.mk 0 z1 []),Y9 eQ] (Yz [Z2.mk 0 z1 [],eQ]) (XW [Z2.mk 0 z1 [],eQ]).symm 2 3 fun v8=>Yw 2 2 [] [(42,XH [Z2.mk 0 z1 [],eQ])] (Z9 5 (YI 5 [] [] [] (XY 6 1 [Z2.mk 0 z1 [],eQ]) (Z9 6 (X5 6 2 [] [] b9 (X1 (Z2.mk 6 1 [Z2.mk 0 z1 [],eQ])) (de (az (Z0 1 (ia ((j-1)) ((j)-(1)) (Z1 (ZH ⟨(j-1),(Z2.mk 6 1 [Z2.mk 0 z1 [],eQ]),pq+4,ob,(fun g=>SE.two om om (SE.int (q:=1) om om) (Zk g) om),ob,rfl,rfl,rfl⟩ (wk [2,0,1] fl))))))))))))))
 exact ax 0 (Zq 1 [1] (ZB 2 b1 (X1 eQ) (ie (ZU (r3 [1] [Y9 eQ] [0] [(b1,b1)] ⟨eQ,pq,rfl,rfl,⟨fun g=>(⟨(Zk g).1,by have:=(Zk g).2;omega⟩:SE g 9 _),by omega⟩⟩ (lr _))))))
theorem Z8r (rd:Nat) (bs:LI) (p:Nat) (g:Wd) (gb:Nat) (rs:List Func) (ZK:∀z∈bs,0<=z/\z<=255) (hp:p+1600<=1000000000:=by exact ob) (hg:GP g:=by exact ob) (Wi:g.funcs <+: rs:=by exact ob):Zp 210 [.p rd 0,.agg (Wy g gb)] [YD rd bs p,XX gb rs] (fun r h=>∃(e:Z2) (p2:Nat),r=Y9 e/\h=[YD rd bs p2,XX gb rs]/\GE g 0 200 e/\p<=p2/\p2<=p+1600):=by
 have hbv:=Ep
 refine ZG 27 Tryz.func210 (ar (iA (Wy g gb) fun b1=>iA [.i 0,.i 0,nl] fun b2=>ie (Ye 1 (iL (Z7 [1,1,3]) 3 1 fun v1=>ZT 0 [(8,Z4 [1,1,3])] (ic [3] (Ux rd bs p [1,1,3] (ZK:=ob)) ?_)))))
 rintro _ _ ⟨z1,rfl,rfl,Y7⟩
 have hz:=BP (a:=1) (b:=3) Y7 (by decide)
 refine Z1 (Zq 3 [3] (iL (Z7 [z1]) 1 1 fun v2=>ZT 0 [(13,Z4 [z1])] (ic [1,4] (QZ rd bs (p+1) g gb rs [z1] 0 16 (ZK:=ob) (hv:=(by simp))) ?_)))
 rintro _ _ ⟨e1,p21,rfl,rfl,Ym⟩
 have Xp:=Ym.1
 have K0:=Ym.2
 rw [hbv.2.2.2.1] at Xp
 refine iA [.i 0,.i 0,nl] fun b3=>ZB 0 b3 (X1 e1) (ie (YP 1 (ic [1] (W1 rd bs p21 3 (ZK:=ob)) ?_)))
 rintro _ _ ⟨k1,rfl,rfl,YL⟩
 have qhp3:=YL.lt om
 refine Z1 (Xv (fun fz gz F h=>∃(eQ:Z2),(GE g 1 151 eQ)/\F=sF [0,4,5,6] fz []/\h=[Zj gz 0,.obj b3 (X1 eQ),Zj gz 2,Zj gz 5]) ?_ ?_)
 ·refine ac (k1==0) Zg (fun Za=>?_) (fun Za=>?_)
  ·exact az (Zy 1 [1] (UN [Y9 e1] (Yz [e1]) (XW [e1]).symm 1 3 fun v3=>ZT 0 [(19,XH [e1])] (Zt [] (XY 5 0 [e1]) (ZB 2 b3 (X1 (Z2.mk 5 0 [e1])) (ie (ZI ⟨(Z2.mk 5 0 [e1]),(GE.one om om Xp om),rfl,rfl⟩ (wk [2,0,1,3] fl)))))))
  exact ak (ZI ⟨e1,(GE.le Xp om),rfl,rfl⟩ (wk [0,0,0,2] fl))
 rintro F h ⟨eQ,J1,rfl,rfl⟩
 refine aD 7 (ZY 4 7 [0,1,3] [1] (Z9 2 (dc 2 [0] [0] [b3] (Z8o rd bs (p21+1) z1 (ZK:=ob)) ?_)))
 rintro _ _ ⟨e2,p22,rfl,rfl,X3⟩
 have hli:=X3.1
 exact Z9 4 (WL 4 [] [] [Y9 e2,Y9 eQ] (Yz [e2,eQ]) (XW [e2,eQ]).symm 2 3 fun v4=>Yw 2 2 [] [(25,XH [e2,eQ])] (Z9 5 (YI 5 [] [] [] (XY 13 0 [e2,eQ]) (Z9 6 (X5 6 4 [] [] b2 (X1 (Z2.mk 13 0 [e2,eQ])) (de (ZU (r3 [2,3] [Y9 (Z2.mk 13 0 [e2,eQ])] [0] [(b2,b2)] ⟨(Z2.mk 13 0 [e2,eQ]),p22,rfl,rfl,⟨GE.letS ((hli g).ge (Xc _)) J1 om,by omega⟩⟩ (lr _)))))))))
theorem Z8z (rd:Nat) (bs:LI) (p:Nat) (g:Wd) (gb:Nat) (rs:List Func) (f:Func) (i:Int) (w:Int) (ZK:∀z∈bs,0<=z/\z<=255) (hp:p+1000<=1000000000:=by exact ob) (hg:GP g:=by exact ob) (Wi:g.funcs <+: rs:=by exact ob) (hi:0<=i:=by exact ob) (hf:g.funcs[i.toNat]? = some f:=by exact ob) (hw:0<=w/\w<f.params.length:=by exact ob):Zp 211 [.p rd 0,.agg (Wy g gb),.i i,.i w] [YD rd bs p,XX gb rs] (fun r h=>∃(e:Z2) (p2:Nat),r=Y9 e/\h=[YD rd bs p2,XX gb rs]/\GE g f.params.length 200 e/\p<=p2/\p2<=p+1000):=by
 obtain ⟨hil,_⟩:=X9.1 hf
 have hgl:=hg.len
 have hso:=(hg.sigs f (Y3 hf)).bd
 have hbv:=Ep
 refine ZG 136 Tryz.func211 (ar (iA (Wy g gb) fun b1=>iA [.i 0,.i 0,nl] fun b2=>ie (Zq 3 [1] (Zm (XD gb g.funcs.length 4 i.toNat 5 i) (Z0 1 (Vz (WE 3 gb 4 4 5 (i.toNat * 5+0) (Zc (Xw rs)) [Z4 f.params] 28 (Z4 f.params) (UJ Wi hf 0 rfl (Vj rfl))) (Z1 (Ye 1 (iw (Yb f.params) (Z1 (Ye 1 (iL (Z7 [0,1]) 2 1 fun v1=>ZT 0 [(26,Z4 [0,1])] (ic [] (TF f.params [0,1]) ?_)))))))))))))
 rintro _ _ ⟨v2,rfl,rfl⟩
 refine Z1 (ar (iL (Yz []) 0 3 fun v3=>?_))
 refine Z1 (Y4 (ab 0 (Y5 (fun fz gz m F h=>∃(k:Nat) (ys:List Z2) (u:Value) (pq:Nat),(k<=f.params.length)/\(ys.length=k)/\(∀e∈ys,GE g (f.params.length+2) 3 e)/\(p<=pq/\pq<=p+k)/\F=sF [0,2,3,5,8,9,10] fz [(11,Z4 (f.params++[0,1])),(12,QF ys u),(13,.i k)]/\h=[Zj gz 3,Zj gz 4,YD rd bs pq,Zj gz 6,.tail u 3]/\m=f.params.length-k) _ _ _ ⟨0,[],v3,p,ob,ob,(fun e he=>by cases he),ob,rfl,rfl,rfl⟩ (wk [3,3,3,3,0] (fc (x:=ZP (f.params++[0,1]) v2) (Ze.forget _ _) (fr (Yg fl)))) ?_)))
 rintro m F h ⟨k,ys,u,pq,Yi,Zk,ZA,YO,rfl,rfl,rfl⟩
 refine Xe (Y0 ((k:Int)<(f.params.length:Int)) (fun Za=>?_) (fun Za=>?_))
 ·refine ak (aq (ab 1 (ar (Yy ((k:Int)==w) Zg (fun Zh=>?_) (fun Zh=>?_)))))
  ·exact az (Z0 2 (ia (((f.params.length+1:Nat):Int)) (((f.params.length:Int))+(1)) (Zt [] (Qk ((f.params.length+1:Nat):Int)) (UN [Y9 (Z2.mk 12 ((f.params.length+1:Nat):Int) [])] (Yz [(Z2.mk 12 ((f.params.length+1:Nat):Int) [])]) (XW [(Z2.mk 12 ((f.params.length+1:Nat):Int) [])]).symm 1 3 fun v4=>ZT 0 [(41,XH [(Z2.mk 12 ((f.params.length+1:Nat):Int) [])])] (ip 5 (Yz (ys++[(Z2.mk 12 ((f.params.length+1:Nat):Int) [])])) (Yz ys) (Yz [(Z2.mk 12 ((f.params.length+1:Nat):Int) [])]) u none 3 (Td _) (Td _) (A9 _) (by simp<;>omega) (by simp [A8,Yz]) fun v5=>Z1 (az (Z0 1 (ZE k (Z1 (ZH ⟨k+1,(ys++[(Z2.mk 12 ((f.params.length+1:Nat):Int) [])]),v5,pq,ob,ob,(XI ZA (GE.var om om om)),ob,rfl,rfl,rfl⟩ (wk [2,2,2,2,0] (fw (ZL k fl)))))))))))))
  refine aq (Xv (fun fz gz F h=>∃(wb:Bool) (p5:Nat),(pq<=p5/\p5<=pq+1)/\F=sF [0,2,3,5,8,9,10,11,12,13] fz [(52,.b wb)]/\h=[Zj gz 0,Zj gz 1,YD rd bs p5,Zj gz 3,Zj gz 4]) ?_ ?_)
  ·refine az (Z0 2 ?_)
   obtain ⟨x1,Z3⟩:=Zu f.params k om
   refine Zm (Zi none (k:Int) 1 (Y6 Z3)) (Z0 3 (ib (b:=(x1==0)) 48 (fun Zd=>?_) (fun Zd=>?_)))
   ·refine Z0 1 (ic [2] (W1 rd bs pq 2 (ZK:=ob)) ?_)
    rintro _ _ ⟨k1,rfl,rfl,Ym⟩
    have qhp2:=Ym.lt om
    exact Z1 (ZI ⟨(k1==0),pq+1,om,rfl,rfl⟩ (wk [1,1,0,0,0] fl))
   exact Z1 (ZI ⟨false,pq,ob,rfl,rfl⟩ (Zx 5 fl))
  rintro F h ⟨wb,p5,kR10_0,rfl,rfl⟩
  refine ac wb Iff.rfl (fun ZC=>?_) (fun ZC=>?_)
  ·exact az (Z0 2 (Zt [] (Qk (k:Int)) (Z0 1 (Zt [] (Qk (f.params.length:Int)) (UN [Y9 (Z2.mk 12 (k:Int) []),Y9 (Z2.mk 12 (f.params.length:Int) [])] (Yz [(Z2.mk 12 (k:Int) []),(Z2.mk 12 (f.params.length:Int) [])]) (XW [(Z2.mk 12 (k:Int) []),(Z2.mk 12 (f.params.length:Int) [])]).symm 2 3 fun v6=>ZT 0 [(58,XH [(Z2.mk 12 (k:Int) []),(Z2.mk 12 (f.params.length:Int) [])])] (Zt [] (XY 1 0 [(Z2.mk 12 (k:Int) []),(Z2.mk 12 (f.params.length:Int) [])]) (UN [Y9 (Z2.mk 1 0 [(Z2.mk 12 (k:Int) []),(Z2.mk 12 (f.params.length:Int) [])])] (Yz [(Z2.mk 1 0 [(Z2.mk 12 (k:Int) []),(Z2.mk 12 (f.params.length:Int) [])])]) (XW [(Z2.mk 1 0 [(Z2.mk 12 (k:Int) []),(Z2.mk 12 (f.params.length:Int) [])])]).symm 1 3 fun v7=>ZT 0 [(60,XH [(Z2.mk 1 0 [(Z2.mk 12 (k:Int) []),(Z2.mk 12 (f.params.length:Int) [])])])] (ip 6 (Yz (ys++[(Z2.mk 1 0 [(Z2.mk 12 (k:Int) []),(Z2.mk 12 (f.params.length:Int) [])])])) (Yz ys) (Yz [(Z2.mk 1 0 [(Z2.mk 12 (k:Int) []),(Z2.mk 12 (f.params.length:Int) [])])]) u none 3 (Td _) (Td _) (A9 _) (by simp<;>omega) (by simp [A8,Yz]) fun v8=>Z1 (az (Z0 1 (ZE k (Z1 (ZH ⟨k+1,(ys++[(Z2.mk 1 0 [(Z2.mk 12 (k:Int) []),(Z2.mk 12 (f.params.length:Int) [])])]),v8,p5,ob,ob,(XI ZA (GE.two (s1:=1) (s2:=1) om om (GE.var om om om) (GE.var om om om) om)),ob,rfl,rfl,rfl⟩ (wk [3,3,3,3,0] (fw (ZL k fl))))))))))))))))
  exact az (Z0 2 (Zt [] (Qk (k:Int)) (UN [Y9 (Z2.mk 12 (k:Int) [])] (Yz [(Z2.mk 12 (k:Int) [])]) (XW [(Z2.mk 12 (k:Int) [])]).symm 1 3 fun v9=>ZT 0 [(65,XH [(Z2.mk 12 (k:Int) [])])] (ip 5 (Yz (ys++[(Z2.mk 12 (k:Int) [])])) (Yz ys) (Yz [(Z2.mk 12 (k:Int) [])]) u none 3 (Td _) (Td _) (A9 _) (by simp<;>omega) (by simp [A8,Yz]) fun v10=>Z1 (az (Z0 1 (ZE k (Z1 (ZH ⟨k+1,(ys++[(Z2.mk 12 (k:Int) [])]),v10,p5,ob,ob,(XI ZA (GE.var om om om)),ob,rfl,rfl,rfl⟩ (wk [2,2,2,2,0] (fw (ZL k fl))))))))))))
 refine ax 0 (ar (ZT 2 [(68,XH ys)] (Zt [] (XY 9 i ys) (iA [.i 0,.i 0,nl] fun b3=>ZB 0 b3 (X1 (Z2.mk 9 i ys)) (ie (Zq 1 [0] (iA [.i 0,.i 0,nl] fun b4=>?_)))))))
 refine ZB 0 b4 (X1 (Z2.mk 9 i ys)) (ie (aq (aq (Xv (fun fz gz F h=>∃(wb:Bool) (p5:Nat),(pq<=p5/\p5<=pq+1)/\F=sF [0,2,3,5,8,9,10,11,14,15] fz [(82,.b wb)]/\h=[Zj gz 0,Zj gz 1,Zj gz 2,Zj gz 3,YD rd bs p5,Zj gz 5]) ?_ ?_))))
 ·refine az (Zy 3 [3] (Zm (XD gb g.funcs.length 4 i.toNat 5 i) (Z0 1 (Vz (WE 5 gb 4 4 5 (i.toNat * 5+1) (Zc (Xw rs)) [.i f.result] 3 (.i f.result) (UJ Wi hf 1 rfl (Vj rfl))) (Z0 2 (ib (b:=(f.result==1)) 78 (fun ZD=>?_) (fun ZD=>?_)))))))
  ·refine Z0 1 (ic [4] (W1 rd bs pq 5 (ZK:=ob)) ?_)
   rintro _ _ ⟨k2,rfl,rfl,Xf⟩
   have qhp5:=Xf.lt om
   exact Z1 (ZI ⟨(decide (k2>0)),pq+1,ob,rfl,rfl⟩ (wk [1,1,1,1,0,0] fl))
  exact Z1 (ZI ⟨false,pq,ob,rfl,rfl⟩ (Zx 6 fl))
 rintro F h ⟨wb,p5,kR15_0,rfl,rfl⟩
 refine Xv (fun fz gz F h=>∃(eQ:Z2) (p6:Nat),(GE g (f.params.length+2) 41 eQ)/\(p5<=p6/\p6<=p5+302)/\F=sF [0,2,3,5,8,9,15] fz []/\h=[.obj b4 (X1 eQ),Zj gz 2,Zj gz 3,YD rd bs p6,Zj gz 5]) ?_ ?_
 ·refine ac wb Iff.rfl (fun Yc=>?_) (fun Yc=>?_)
  ·refine Zq 3 [3] (ic [4,4] (QZ rd bs p5 g gb rs (f.params++[0,1]) 0 4 (ZK:=ob) (hv:=(by first|omega|(simp only [Yr,Yp,YZ];omega)))) ?_)
   rintro _ _ ⟨e1,p21,rfl,rfl,Wh⟩
   have Xp:=Wh.1
   have K0:=Wh.2
   try rw [Yr] at Xp
   rw [hbv.2.1] at Xp
   refine iA [.i 0,.i 0,nl] fun b5=>?_
   refine ZB 0 b5 (X1 e1) (ie (aq (aq (Xv (fun fz gz F h=>∃(wc:Bool),(True)/\F=sF [0,2,3,5,8,9,10,14,15,16] fz [(94,.b wc)]/\h=gz) ?_ ?_))))
   ·refine az (Z0 3 (ib (b:=(decide ((f.params.length:Int)>1))) 89 (fun Yk=>?_) (fun Yk=>?_)))
    ·refine Z0 1 ?_
     obtain ⟨x2,Zv⟩:=Zu f.params 0 om
     exact Zm (Zi none 0 1 (Y6 Zv)) (Z1 (ZI ⟨(x2==2),ob,rfl,rfl⟩ (Zx 7 fl)))
    exact Z1 (ZI ⟨false,ob,rfl,rfl⟩ (Zx 7 fl))
   rintro F h ⟨wc,kR17_0,rfl,rfl⟩
   refine Xv (fun fz gz F h=>∃(eA:Z2),(GE g (f.params.length+2) 30 eA)/\F=sF [0,2,3,5,8,9,14,15,16] fz []/\h=[.obj b5 (X1 eA),Zj gz 1,Zj gz 2,Zj gz 3,Zj gz 4,Zj gz 5,Zj gz 6]) ?_ ?_
   ·refine ac wc Iff.rfl (fun YB=>?_) (fun YB=>?_)
    ·exact az (Zt [] (Qk 0) (Z0 1 (Zt [] (Qk (f.params.length:Int)) (UN [Y9 (Z2.mk 12 0 []),Y9 (Z2.mk 12 (f.params.length:Int) [])] (Yz [Z2.mk 12 0 [],(Z2.mk 12 (f.params.length:Int) [])]) (XW [Z2.mk 12 0 [],(Z2.mk 12 (f.params.length:Int) [])]).symm 2 3 fun v11=>ZT 0 [(98,XH [Z2.mk 12 0 [],(Z2.mk 12 (f.params.length:Int) [])])] (Zt [] (XY 11 0 [Z2.mk 12 0 [],(Z2.mk 12 (f.params.length:Int) [])]) (ZB 1 b5 (X1 (Z2.mk 11 0 [Z2.mk 12 0 [],(Z2.mk 12 (f.params.length:Int) [])])) (ie (ZI ⟨(Z2.mk 11 0 [Z2.mk 12 0 [],(Z2.mk 12 (f.params.length:Int) [])]),(GE.two (s1:=1) (s2:=1) om om (GE.var om om om) (GE.var om om om) om),rfl,rfl⟩ (wk [0,1,1,1,1,1,1] fl)))))))))
    exact ak (ZI ⟨e1,Xp,rfl,rfl⟩ (Zx 7 fl))
   rintro F h ⟨eA,Zau,rfl,rfl⟩
   exact az (Zy 2 [0,4] (UN [Y9 eA,Y9 (Z2.mk 9 i ys)] (Yz [eA,Z2.mk 9 i ys]) (XW [eA,Z2.mk 9 i ys]).symm 2 3 fun v12=>ZT 0 [(102,XH [eA,Z2.mk 9 i ys])] (Zt [] (XY 6 1 [eA,Z2.mk 9 i ys]) (ZB 4 b4 (X1 (Z2.mk 6 1 [eA,Z2.mk 9 i ys])) (ie (ZI ⟨(Z2.mk 6 1 [eA,Z2.mk 9 i ys]),p21,(GE.two (s1:=30) (s2:=10) om om Zau (GE.node (L:=f.params.length) (s:=3) (q:=10) om (fun _=>by omega) om ZA om om om) om),ob,rfl,rfl⟩ (wk [0,5,5,2,2] fl)))))))
  refine Zq 3 [3] (Zm (XD gb g.funcs.length 4 i.toNat 5 i) (Z0 1 (Vz (WE 5 gb 4 4 5 (i.toNat * 5+1) (Zc (Xw rs)) [.i f.result] 3 (.i f.result) (UJ Wi hf 1 rfl (Vj rfl))) (Yy (f.result==0) Zg (fun YY=>?_) (fun YY=>?_)))))
  ·refine aE 11 (ZY 6 11 [0,3,4,5,7] [3,1] (Z9 1 (dL 1 [1,3] [b3,b1] (Z7 [1,2]) 2 1 fun v13=>Yw 5 5 [] [(112,Z4 [1,2])] (Z9 2 (dc 2 [5] [1,3] [b3,b1] (Ux rd bs p5 [1,2] (ZK:=ob)) ?_)))))
   rintro _ _ ⟨z1,rfl,rfl,UL⟩
   have hz:=BP (a:=1) (b:=2) UL (by decide)
   refine Z9 6 (dc 6 [0,5] [1] [b3] (QZ rd bs (p5+1) g gb rs (f.params++[0,1]) 0 4 (ZK:=ob) (hv:=(by first|omega|(simp only [Yr,Yp,YZ];omega)))) ?_)
   rintro _ _ ⟨e2,p22,rfl,rfl,Tl⟩
   have Xp:=Tl.1
   have K0:=Tl.2
   try rw [Yr] at Xp
   rw [hbv.2.1] at Xp
   exact Z9 8 (WL 8 [] [] [Y9 e2,Y9 (Z2.mk 9 i ys)] (Yz [e2,Z2.mk 9 i ys]) (XW [e2,Z2.mk 9 i ys]).symm 2 3 fun v14=>Yw 2 2 [] [(119,XH [e2,Z2.mk 9 i ys])] (Z9 9 (YI 9 [] [] [] (XY z1 0 [e2,Z2.mk 9 i ys]) (Z9 10 (X5 10 4 [] [] b4 (X1 (Z2.mk z1 0 [e2,Z2.mk 9 i ys])) (de (ZI ⟨(Z2.mk z1 0 [e2,Z2.mk 9 i ys]),p22,(GE.two (s1:=30) (s2:=10) om om Xp (GE.node (L:=f.params.length) (s:=3) (q:=10) om (fun _=>by omega) om ZA om om om) om),ob,rfl,rfl⟩ (wk [0,5,5,1,1] fl))))))))
  exact ak (ZI ⟨(Z2.mk 9 i ys),p5,(GE.le (GE.node (L:=f.params.length) (s:=3) (q:=10) om (fun _=>by omega) om ZA om om om) om),ob,rfl,rfl⟩ (wk [0,1,1,1,1] fl))
 rintro F h ⟨eQ,p6,J2,EQ,rfl,rfl⟩
 refine aD 16 (ZY 9 16 [0,2,3,4,5,6,7] [2,2] (dx 8 (XD gb g.funcs.length 4 i.toNat 5 i) (Zs 7 8 [9] (Ua 10 (WE 4 gb 4 4 5 (i.toNat * 5+1) (Zc (Xw rs)) [.i f.result] 3 (.i f.result) (UJ Wi hf 1 rfl (Vj rfl))) (ZY 5 6 [12] [0] (Z9 1 (YI 1 [] [0,4,2,2] [b4,gb,b1,b1] (Qk w) (Z9 11 (dc 11 [3,3] [0] [b4] (QZ rd bs p6 g gb rs f.params f.result 4 (ZK:=ob) (hv:=(by first|omega|(simp only [Yr,Yp,YZ];omega)))) ?_)))))))))
 rintro _ _ ⟨e3,p23,rfl,rfl,UM⟩
 have Xp:=UM.1
 have K0:=UM.2
 try rw [Yr] at Xp
 rw [hbv.2.1] at Xp
 exact Z9 13 (WL 13 [] [] [Y9 (Z2.mk 12 w []),Y9 e3,Y9 eQ] (Yz [Z2.mk 12 w [],e3,eQ]) (XW [Z2.mk 12 w [],e3,eQ]).symm 3 3 fun v15=>Yw 2 2 [] [(134,XH [Z2.mk 12 w [],e3,eQ])] (Z9 14 (YI 14 [] [] [] (XY 8 1 [Z2.mk 12 w [],e3,eQ]) (Z9 15 (X5 15 4 [] [] b2 (X1 (Z2.mk 8 1 [Z2.mk 12 w [],e3,eQ])) (de (ZU (r3 [2,2] [Y9 (Z2.mk 8 1 [Z2.mk 12 w [],e3,eQ])] [0] [(b2,b2)] ⟨(Z2.mk 8 1 [Z2.mk 12 w [],e3,eQ]),p23,rfl,rfl,⟨GE.matchL hg (s1:=1) (s2:=30) (s3:=41) (GE.var om om om) Xp J2 om,by omega⟩⟩ (lr _)))))))))
theorem Z90 (rd:Nat) (bs:LI) (p:Nat) (g:Wd) (gb:Nat) (rs:List Func) (f:Func) (i:Int) (ZK:∀z∈bs,0<=z/\z<=255) (hp:p+1000<=1000000000:=by exact ob) (hg:GP g:=by exact ob) (Wi:g.funcs <+: rs:=by exact ob) (hi:0<=i:=by exact ob) (hf:g.funcs[i.toNat]? = some f:=by exact ob) (h0:0<f.params.length:=by exact ob):Zp 212 [.p rd 0,.agg (Wy g gb),.i i] [YD rd bs p,XX gb rs] (fun r h=>∃(e:Z2) (p2:Nat),r=Y9 e/\h=[YD rd bs p2,XX gb rs]/\GE g f.params.length 200 e/\p<=p2/\p2<=p+1000):=by
 obtain ⟨hil,_⟩:=X9.1 hf
 have hgl:=hg.len
 have hso:=(hg.sigs f (Y3 hf)).bd
 have hbv:=Ep
 refine ZG 96 Tryz.func212 (ar (iA (Wy g gb) fun b1=>iA [.i 0,.i 0,nl] fun b2=>ie (Zq 3 [1] (Zm (XD gb g.funcs.length 4 i.toNat 5 i) (Z0 1 (Vz (WE 3 gb 4 4 5 (i.toNat * 5+0) (Zc (Xw rs)) [Z4 f.params] 28 (Z4 f.params) (UJ Wi hf 0 rfl (Vj rfl))) (Z1 (Ye 1 (iw (Yb f.params) (Z1 (Ye 1 (Zt [] (Qk (f.params.length:Int)) (UN [Y9 (Z2.mk 12 (f.params.length:Int) [])] (Yz [(Z2.mk 12 (f.params.length:Int) [])]) (XW [(Z2.mk 12 (f.params.length:Int) [])]).symm 1 3 fun v1=>Z1 (Ye 1 (ia (((f.params.length+2:Nat):Int)) (((f.params.length:Int))+(2)) (Zt [] (Qk ((f.params.length+2:Nat):Int)) (UN [Y9 (Z2.mk 12 ((f.params.length+2:Nat):Int) [])] (Yz [(Z2.mk 12 ((f.params.length+2:Nat):Int) [])]) (XW [(Z2.mk 12 ((f.params.length+2:Nat):Int) [])]).symm 1 3 fun v2=>?_)))))))))))))))))
 refine Z1 (Y4 (ab 0 (Y5 (fun fz gz m F h=>∃(k:Nat) (ys:List Z2) (u:Value) (zs:List Z2) (w:Value),(1<=k/\k<=f.params.length)/\(ys.length=k)/\(zs.length=k)/\(∀e∈ys,GE g (f.params.length+3) 1 e)/\(∀e∈zs,GE g (f.params.length+3) 1 e)/\F=sF [0,2,4,6,7,8] fz [(9,QF ys u),(10,QF zs w),(11,.i k)]/\h=[Zj gz 2,Zj gz 3,Zj gz 4,Zj gz 5,.tail u 3,.tail w 3]/\m=f.params.length-k) _ _ _ ⟨1,[(Z2.mk 12 (f.params.length:Int) [])],v1,[(Z2.mk 12 ((f.params.length+2:Nat):Int) [])],v2,ob,ob,ob,(I9 (GE.var om om om)),(I9 (GE.var om om om)),rfl,rfl,rfl⟩ (wk [2,2,2,2,1,0] (fw (fc (x:=.i 1) li fl))) ?_)))
 rintro m F h ⟨k,ys,u,zs,w,Yi,Zk,ZA,YO,Wp,rfl,rfl,rfl⟩
 refine Xe (Y0 ((k:Int)<(f.params.length:Int)) (fun Za=>?_) (fun Za=>?_))
 ·exact ak (aq (ab 1 (Ye 2 (Zt [] (Qk (k:Int)) (UN [Y9 (Z2.mk 12 (k:Int) [])] (Yz [(Z2.mk 12 (k:Int) [])]) (XW [(Z2.mk 12 (k:Int) [])]).symm 1 3 fun v3=>ZT 0 [(38,XH [(Z2.mk 12 (k:Int) [])])] (ip 5 (Yz (ys++[(Z2.mk 12 (k:Int) [])])) (Yz ys) (Yz [(Z2.mk 12 (k:Int) [])]) u none 3 (Td _) (Td _) (A9 _) (by simp<;>omega) (by simp [A8,Yz]) fun v4=>Z1 (az (Z0 2 (Zt [] (Qk (k:Int)) (UN [Y9 (Z2.mk 12 (k:Int) [])] (Yz [(Z2.mk 12 (k:Int) [])]) (XW [(Z2.mk 12 (k:Int) [])]).symm 1 3 fun v5=>ZT 0 [(43,XH [(Z2.mk 12 (k:Int) [])])] (ip 7 (Yz (zs++[(Z2.mk 12 (k:Int) [])])) (Yz zs) (Yz [(Z2.mk 12 (k:Int) [])]) w none 3 (Td _) (Td _) (A9 _) (by simp<;>omega) (by simp [A8,Yz]) fun v6=>Z1 (az (Z0 1 (ZE k (Z1 (ZH ⟨k+1,(ys++[(Z2.mk 12 (k:Int) [])]),v4,(zs++[(Z2.mk 12 (k:Int) [])]),v6,ob,ob,ob,(XI YO (GE.var om om om)),(XI Wp (GE.var om om om)),rfl,rfl,rfl⟩ (wk [4,4,4,4,2,0] (fw (ZL k fl)))))))))))))))))))
 refine ax 0 (ar (ZT 2 [(46,XH ys)] (Zt [] (XY 9 i ys) (iA [.i 0,.i 0,nl] fun b3=>ZB 0 b3 (X1 (Z2.mk 9 i ys)) (ie (ar (ZT 2 [(49,XH zs)] (Zt [] (XY 9 i zs) (iA [.i 0,.i 0,nl] fun b4=>?_)))))))))
 refine ZB 0 b4 (X1 (Z2.mk 9 i zs)) (ie (aD 14 (ZY 9 14 [0,1,2,3,7] [1,3,0] (Bu (fun fz gz F h=>∃(e1:Z2) (p21:Nat) (b5:Nat),(GE g (f.params++[3,0,3]).length (bS 4) e1/\p<=p21/\p21<=p+bC 4)/\F=sF [0,2,4,6,7,8,12] fz [(14,.p b5 0)]/\h=[.obj b5 (X1 (Z2.mk 1 0 [Z2.mk 9 i ys,Z2.mk 1 0 [e1,Z2.mk 9 i zs]])),YD rd bs p21,Zj gz 5,Zj gz 0,Zj gz 1,Zj gz 2,Zj gz 3,Zj gz 6,Zj gz 7]) ?_ ?_))))
 ·refine Uo 4 12 ?_ ?_
  ·refine dL 4 [0,3,1] [b4,b1,b3] (Z7 [3,0,3]) 3 1 fun v7=>Yw 8 8 [] [(55,Z4 [3,0,3])] (Uo 5 12 ?_ ?_)
   ·refine dc 5 [] [0,3,1] [b4,b1,b3] (TF f.params [3,0,3]) ?_
    rintro _ _ ⟨v8,rfl,rfl⟩
    refine Yw 7 7 [] [(56,Z4 (f.params++[3,0,3]))] (Uo 6 12 ?_ ?_)
    ·refine dc 6 [6,6] [0,1] [b4,b3] (QZ rd bs p g gb rs (f.params++[3,0,3]) 0 4 (ZK:=ob) (hv:=(by first|omega|(simp only [Yr,Yp,YZ];omega)))) ?_
     rintro _ _ ⟨e1,p21,rfl,rfl,Y7⟩
     have Xp:=Y7.1
     have K0:=Y7.2
     try rw [Yr] at Xp
     rw [hbv.2.1] at Xp
     refine Uo 8 12 ?_ ?_
     ·refine WL 8 [3] [b3] [Y9 e1,Y9 (Z2.mk 9 i zs)] (Yz [e1,Z2.mk 9 i zs]) (XW [e1,Z2.mk 9 i zs]).symm 2 3 fun v9=>Yw 5 5 [] [(59,XH [e1,Z2.mk 9 i zs])] (Uo 9 12 ?_ ?_)
      ·refine YI 9 [] [3] [b3] (XY 1 0 [e1,Z2.mk 9 i zs]) (Uo 10 12 ?_ ?_)
       ·refine WL 10 [] [] [Y9 (Z2.mk 9 i ys),Y9 (Z2.mk 1 0 [e1,Z2.mk 9 i zs])] (Yz [Z2.mk 9 i ys,Z2.mk 1 0 [e1,Z2.mk 9 i zs]]) (XW [Z2.mk 9 i ys,Z2.mk 1 0 [e1,Z2.mk 9 i zs]]).symm 2 3 fun v10=>Yw 3 3 [] [(61,XH [Z2.mk 9 i ys,Z2.mk 1 0 [e1,Z2.mk 9 i zs]])] (Uo 11 12 ?_ ?_)
        ·exact YI 11 [] [] [] (XY 1 0 [Z2.mk 9 i ys,Z2.mk 1 0 [e1,Z2.mk 9 i zs]]) (Z9 12 (dA 12 [] [] [.i 0,.i 0,nl] fun b5=>Z9 13 (X5 13 0 [] [] b5 (X1 (Z2.mk 1 0 [Z2.mk 9 i ys,Z2.mk 1 0 [e1,Z2.mk 9 i zs]])) (de (ZI ⟨e1,p21,b5,(by assumption),rfl,rfl⟩ (wk [0,2,2,4,4,4,4,4,4] fl))))))
        exact dA 12 [] [] [.i 0,.i 0,nl] fun b6=>Z9 11 (YI 11 [] [] [] (XY 1 0 [Z2.mk 9 i ys,Z2.mk 1 0 [e1,Z2.mk 9 i zs]]) (Z9 13 (X5 13 0 [] [] b6 (X1 (Z2.mk 1 0 [Z2.mk 9 i ys,Z2.mk 1 0 [e1,Z2.mk 9 i zs]])) (de (ZI ⟨e1,p21,b6,(by assumption),rfl,rfl⟩ (wk [0,2,2,4,4,4,4,4,4] fl))))))
       exact dA 12 [3] [b3] [.i 0,.i 0,nl] fun b7=>Z9 10 (WL 10 [] [] [Y9 (Z2.mk 9 i ys),Y9 (Z2.mk 1 0 [e1,Z2.mk 9 i zs])] (Yz [Z2.mk 9 i ys,Z2.mk 1 0 [e1,Z2.mk 9 i zs]]) (XW [Z2.mk 9 i ys,Z2.mk 1 0 [e1,Z2.mk 9 i zs]]).symm 2 3 fun v11=>Yw 2 2 [] [(61,XH [Z2.mk 9 i ys,Z2.mk 1 0 [e1,Z2.mk 9 i zs]])] (Z9 11 (YI 11 [] [] [] (XY 1 0 [Z2.mk 9 i ys,Z2.mk 1 0 [e1,Z2.mk 9 i zs]]) (Z9 13 (X5 13 1 [] [] b7 (X1 (Z2.mk 1 0 [Z2.mk 9 i ys,Z2.mk 1 0 [e1,Z2.mk 9 i zs]])) (de (ZI ⟨e1,p21,b7,(by assumption),rfl,rfl⟩ (wk [0,2,2,4,4,4,4,4,4] fl))))))))
      exact dA 12 [3] [b3] [.i 0,.i 0,nl] fun b8=>Z9 9 (YI 9 [] [4] [b3] (XY 1 0 [e1,Z2.mk 9 i zs]) (Z9 10 (WL 10 [] [] [Y9 (Z2.mk 9 i ys),Y9 (Z2.mk 1 0 [e1,Z2.mk 9 i zs])] (Yz [Z2.mk 9 i ys,Z2.mk 1 0 [e1,Z2.mk 9 i zs]]) (XW [Z2.mk 9 i ys,Z2.mk 1 0 [e1,Z2.mk 9 i zs]]).symm 2 3 fun v12=>Yw 2 2 [] [(61,XH [Z2.mk 9 i ys,Z2.mk 1 0 [e1,Z2.mk 9 i zs]])] (Z9 11 (YI 11 [] [] [] (XY 1 0 [Z2.mk 9 i ys,Z2.mk 1 0 [e1,Z2.mk 9 i zs]]) (Z9 13 (X5 13 1 [] [] b8 (X1 (Z2.mk 1 0 [Z2.mk 9 i ys,Z2.mk 1 0 [e1,Z2.mk 9 i zs]])) (de (ZI ⟨e1,p21,b8,(by assumption),rfl,rfl⟩ (wk [0,2,2,4,4,4,4,4,4] fl))))))))))
     exact dA 12 [2,3] [b4,b3] [.i 0,.i 0,nl] fun b9=>Z9 8 (WL 8 [4] [b3] [Y9 e1,Y9 (Z2.mk 9 i zs)] (Yz [e1,Z2.mk 9 i zs]) (XW [e1,Z2.mk 9 i zs]).symm 2 3 fun v13=>Yw 4 4 [] [(59,XH [e1,Z2.mk 9 i zs])] (Z9 9 (YI 9 [] [4] [b3] (XY 1 0 [e1,Z2.mk 9 i zs]) (Z9 10 (WL 10 [] [] [Y9 (Z2.mk 9 i ys),Y9 (Z2.mk 1 0 [e1,Z2.mk 9 i zs])] (Yz [Z2.mk 9 i ys,Z2.mk 1 0 [e1,Z2.mk 9 i zs]]) (XW [Z2.mk 9 i ys,Z2.mk 1 0 [e1,Z2.mk 9 i zs]]).symm 2 3 fun v14=>Yw 2 2 [] [(61,XH [Z2.mk 9 i ys,Z2.mk 1 0 [e1,Z2.mk 9 i zs]])] (Z9 11 (YI 11 [] [] [] (XY 1 0 [Z2.mk 9 i ys,Z2.mk 1 0 [e1,Z2.mk 9 i zs]]) (Z9 13 (X5 13 2 [] [] b9 (X1 (Z2.mk 1 0 [Z2.mk 9 i ys,Z2.mk 1 0 [e1,Z2.mk 9 i zs]])) (de (ZI ⟨e1,p21,b9,(by assumption),rfl,rfl⟩ (wk [0,2,2,4,4,4,4,4,4] fl))))))))))))
    refine dA 12 [0,3,1] [b4,b1,b3] [.i 0,.i 0,nl] fun b10=>Z9 6 (dc 6 [7,7] [1,2] [b4,b3] (QZ rd bs p g gb rs (f.params++[3,0,3]) 0 4 (ZK:=ob) (hv:=(by first|omega|(simp only [Yr,Yp,YZ];omega)))) ?_)
    rintro _ _ ⟨e2,p22,rfl,rfl,Ym⟩
    have Xp:=Ym.1
    have K0:=Ym.2
    try rw [Yr] at Xp
    rw [hbv.2.1] at Xp
    exact Z9 8 (WL 8 [4] [b3] [Y9 e2,Y9 (Z2.mk 9 i zs)] (Yz [e2,Z2.mk 9 i zs]) (XW [e2,Z2.mk 9 i zs]).symm 2 3 fun v15=>Yw 4 4 [] [(59,XH [e2,Z2.mk 9 i zs])] (Z9 9 (YI 9 [] [4] [b3] (XY 1 0 [e2,Z2.mk 9 i zs]) (Z9 10 (WL 10 [] [] [Y9 (Z2.mk 9 i ys),Y9 (Z2.mk 1 0 [e2,Z2.mk 9 i zs])] (Yz [Z2.mk 9 i ys,Z2.mk 1 0 [e2,Z2.mk 9 i zs]]) (XW [Z2.mk 9 i ys,Z2.mk 1 0 [e2,Z2.mk 9 i zs]]).symm 2 3 fun v16=>Yw 2 2 [] [(61,XH [Z2.mk 9 i ys,Z2.mk 1 0 [e2,Z2.mk 9 i zs]])] (Z9 11 (YI 11 [] [] [] (XY 1 0 [Z2.mk 9 i ys,Z2.mk 1 0 [e2,Z2.mk 9 i zs]]) (Z9 13 (X5 13 4 [] [] b10 (X1 (Z2.mk 1 0 [Z2.mk 9 i ys,Z2.mk 1 0 [e2,Z2.mk 9 i zs]])) (de (ZI ⟨e2,p22,b10,(by assumption),rfl,rfl⟩ (wk [0,2,2,4,4,4,4,4,4] fl))))))))))))
   refine dA 12 [0,3,1] [b4,b1,b3] [.i 0,.i 0,nl] fun b11=>Z9 5 (dc 5 [] [1,4,2] [b4,b1,b3] (TF f.params [3,0,3]) ?_)
   rintro _ _ ⟨v17,rfl,rfl⟩
   refine Yw 6 6 [] [(56,Z4 (f.params++[3,0,3]))] (Z9 6 (dc 6 [7,7] [1,2] [b4,b3] (QZ rd bs p g gb rs (f.params++[3,0,3]) 0 4 (ZK:=ob) (hv:=(by first|omega|(simp only [Yr,Yp,YZ];omega)))) ?_))
   rintro _ _ ⟨e3,p23,rfl,rfl,YL⟩
   have Xp:=YL.1
   have K0:=YL.2
   try rw [Yr] at Xp
   rw [hbv.2.1] at Xp
   exact Z9 8 (WL 8 [4] [b3] [Y9 e3,Y9 (Z2.mk 9 i zs)] (Yz [e3,Z2.mk 9 i zs]) (XW [e3,Z2.mk 9 i zs]).symm 2 3 fun v18=>Yw 4 4 [] [(59,XH [e3,Z2.mk 9 i zs])] (Z9 9 (YI 9 [] [4] [b3] (XY 1 0 [e3,Z2.mk 9 i zs]) (Z9 10 (WL 10 [] [] [Y9 (Z2.mk 9 i ys),Y9 (Z2.mk 1 0 [e3,Z2.mk 9 i zs])] (Yz [Z2.mk 9 i ys,Z2.mk 1 0 [e3,Z2.mk 9 i zs]]) (XW [Z2.mk 9 i ys,Z2.mk 1 0 [e3,Z2.mk 9 i zs]]).symm 2 3 fun v19=>Yw 2 2 [] [(61,XH [Z2.mk 9 i ys,Z2.mk 1 0 [e3,Z2.mk 9 i zs]])] (Z9 11 (YI 11 [] [] [] (XY 1 0 [Z2.mk 9 i ys,Z2.mk 1 0 [e3,Z2.mk 9 i zs]]) (Z9 13 (X5 13 5 [] [] b11 (X1 (Z2.mk 1 0 [Z2.mk 9 i ys,Z2.mk 1 0 [e3,Z2.mk 9 i zs]])) (de (ZI ⟨e3,p23,b11,(by assumption),rfl,rfl⟩ (wk [0,2,2,4,4,4,4,4,4] fl))))))))))))
  refine dA 12 [0,3,1] [b4,b1,b3] [.i 0,.i 0,nl] fun b12=>Z9 4 (dL 4 [1,4,2] [b4,b1,b3] (Z7 [3,0,3]) 3 1 fun v20=>Yw 7 7 [] [(55,Z4 [3,0,3])] (Z9 5 (dc 5 [] [1,4,2] [b4,b1,b3] (TF f.params [3,0,3]) ?_)))
  rintro _ _ ⟨v21,rfl,rfl⟩
  refine Yw 6 6 [] [(56,Z4 (f.params++[3,0,3]))] (Z9 6 (dc 6 [7,7] [1,2] [b4,b3] (QZ rd bs p g gb rs (f.params++[3,0,3]) 0 4 (ZK:=ob) (hv:=(by first|omega|(simp only [Yr,Yp,YZ];omega)))) ?_))
  rintro _ _ ⟨e4,p24,rfl,rfl,X3⟩
  have Xp:=X3.1
  have K0:=X3.2
  try rw [Yr] at Xp
  rw [hbv.2.1] at Xp
  exact Z9 8 (WL 8 [4] [b3] [Y9 e4,Y9 (Z2.mk 9 i zs)] (Yz [e4,Z2.mk 9 i zs]) (XW [e4,Z2.mk 9 i zs]).symm 2 3 fun v22=>Yw 4 4 [] [(59,XH [e4,Z2.mk 9 i zs])] (Z9 9 (YI 9 [] [4] [b3] (XY 1 0 [e4,Z2.mk 9 i zs]) (Z9 10 (WL 10 [] [] [Y9 (Z2.mk 9 i ys),Y9 (Z2.mk 1 0 [e4,Z2.mk 9 i zs])] (Yz [Z2.mk 9 i ys,Z2.mk 1 0 [e4,Z2.mk 9 i zs]]) (XW [Z2.mk 9 i ys,Z2.mk 1 0 [e4,Z2.mk 9 i zs]]).symm 2 3 fun v23=>Yw 2 2 [] [(61,XH [Z2.mk 9 i ys,Z2.mk 1 0 [e4,Z2.mk 9 i zs]])] (Z9 11 (YI 11 [] [] [] (XY 1 0 [Z2.mk 9 i ys,Z2.mk 1 0 [e4,Z2.mk 9 i zs]]) (Z9 13 (X5 13 6 [] [] b12 (X1 (Z2.mk 1 0 [Z2.mk 9 i ys,Z2.mk 1 0 [e4,Z2.mk 9 i zs]])) (de (ZI ⟨e4,p24,b12,(by assumption),rfl,rfl⟩ (wk [0,2,2,4,4,4,4,4,4] fl))))))))))))
 rintro F h ⟨e1,p21,b5,Y7,rfl,rfl⟩
 have Xp:=Y7.1
 have K0:=Y7.2
 try rw [Yr] at Xp
 rw [hbv.2.1] at Xp
 refine Yt 3 [6] (Zm (XD gb g.funcs.length 4 i.toNat 5 i) (Z0 1 (Vz (WE 2 gb 4 4 5 (i.toNat * 5+1) (Zc (Xw rs)) [.i f.result] 3 (.i f.result) (UJ Wi hf 1 rfl (Vj rfl))) (Z1 (Xv (fun fz gz F h=>∃(eQ:Z2) (p6:Nat),(GE g (f.params.length+3) 52 eQ)/\(p<=p6/\p6<=p+650)/\F=sF [0,2,4,6,7,14] fz []/\h=[.obj b5 (X1 eQ),YD rd bs p6,Zj gz 2,Zj gz 5,Zj gz 6]) ?_ ?_)))))
 ·refine ac (f.result==3) Zg (fun Zh=>?_) (fun Zh=>?_)
  ·refine aE 13 (ZY 8 13 [0,1,2,3,7] [4,6] (da 8 (((f.params.length+2:Nat):Int)) (((f.params.length:Int))+(2)) (Z9 4 (dL 4 [6,4] [b1,b3] (Z7 [3,0,3]) 3 1 fun v24=>Yw 6 6 [] [(74,Z4 [3,0,3])] (Z9 5 (dc 5 [] [6,4] [b1,b3] (TF f.params [3,0,3]) ?_))))))
   rintro _ _ ⟨v25,rfl,rfl⟩
   refine Yw 5 5 [] [(75,Z4 (f.params++[3,0,3]))] (Z9 6 (dc 6 [3,3] [2] [b3] (QZ rd bs p21 g gb rs (f.params++[3,0,3]) 0 4 (ZK:=ob) (hv:=(by first|omega|(simp only [Yr,Yp,YZ];omega)))) ?_))
   rintro _ _ ⟨e5,p25,rfl,rfl,Xf⟩
   have Xp:=Xf.1
   have K0:=Xf.2
   try rw [Yr] at Xp
   rw [hbv.2.1] at Xp
   exact Z9 9 (YI 9 [] [4] [b3] (Qk ((f.params.length+2:Nat):Int)) (Z9 10 (WL 10 [] [] [Y9 (Z2.mk 9 i ys),Y9 e5,Y9 (Z2.mk 12 ((f.params.length+2:Nat):Int) [])] (Yz [Z2.mk 9 i ys,e5,(Z2.mk 12 ((f.params.length+2:Nat):Int) [])]) (XW [Z2.mk 9 i ys,e5,(Z2.mk 12 ((f.params.length+2:Nat):Int) [])]).symm 3 3 fun v26=>Yw 2 2 [] [(80,XH [Z2.mk 9 i ys,e5,(Z2.mk 12 ((f.params.length+2:Nat):Int) [])])] (Z9 11 (YI 11 [] [] [] (XY 6 3 [Z2.mk 9 i ys,e5,(Z2.mk 12 ((f.params.length+2:Nat):Int) [])]) (Z9 12 (X5 12 5 [] [] b5 (X1 (Z2.mk 6 3 [Z2.mk 9 i ys,e5,(Z2.mk 12 ((f.params.length+2:Nat):Int) [])])) (de (ZI ⟨(Z2.mk 6 3 [Z2.mk 9 i ys,e5,(Z2.mk 12 ((f.params.length+2:Nat):Int) [])]),p25,(GE.three (s1:=10) (s2:=30) (s3:=1) om om (GE.node (L:=f.params.length) (s:=1) (q:=10) om (fun _=>by omega) om YO om om om) Xp (GE.var om om om) om),ob,rfl,rfl⟩ (wk [0,1,1,5,5] fl))))))))))
  exact ak (ZI ⟨(Z2.mk 1 0 [Z2.mk 9 i ys,Z2.mk 1 0 [e1,Z2.mk 9 i zs]]),p21,(GE.two (s1:=10) (s2:=41) om om (GE.node (L:=f.params.length) (s:=1) (q:=10) om (fun _=>by omega) om YO om om om) (GE.two (s1:=30) (s2:=10) om om Xp (GE.node (L:=f.params.length) (s:=1) (q:=10) om (fun _=>by omega) om Wp om om om) om) om),ob,rfl,rfl⟩ (wk [0,0,0,2,2] fl))
 rintro F h ⟨eQ,p6,VI,B3,rfl,rfl⟩
 refine aD 15 (ZY 9 15 [1,2,3,4,5,6] [4,4] (dx 7 (XD gb g.funcs.length 4 i.toNat 5 i) (Zs 7 8 [8] (Ua 9 (WE 2 gb 4 4 5 (i.toNat * 5+1) (Zc (Xw rs)) [.i f.result] 3 (.i f.result) (UJ Wi hf 1 rfl (Vj rfl))) (ZY 5 6 [11] [0] (Z9 0 (YI 0 [] [0,2,4,4] [b5,gb,b1,b1] (Qk 0) (Z9 10 (dc 10 [1,1] [0] [b5] (QZ rd bs p6 g gb rs f.params f.result 4 (ZK:=ob) (hv:=(by first|omega|(simp only [Yr,Yp,YZ];omega)))) ?_)))))))))
 rintro _ _ ⟨e6,p26,rfl,rfl,XS⟩
 have Xp:=XS.1
 have K0:=XS.2
 try rw [Yr] at Xp
 rw [hbv.2.1] at Xp
 exact Z9 12 (WL 12 [] [] [Y9 (Z2.mk 12 0 []),Y9 e6,Y9 eQ] (Yz [Z2.mk 12 0 [],e6,eQ]) (XW [Z2.mk 12 0 [],e6,eQ]).symm 3 3 fun v27=>Yw 2 2 [] [(94,XH [Z2.mk 12 0 [],e6,eQ])] (Z9 13 (YI 13 [] [] [] (XY 8 3 [Z2.mk 12 0 [],e6,eQ]) (Z9 14 (X5 14 4 [] [] b2 (X1 (Z2.mk 8 3 [Z2.mk 12 0 [],e6,eQ])) (de (ZU (r3 [2,2] [Y9 (Z2.mk 8 3 [Z2.mk 12 0 [],e6,eQ])] [0] [(b2,b2)] ⟨(Z2.mk 8 3 [Z2.mk 12 0 [],e6,eQ]),p26,rfl,rfl,⟨GE.matchT hg (s1:=1) (s2:=30) (s3:=52) (GE.var om om om) Xp VI om,by omega⟩⟩ (lr _)))))))))
theorem Z85 (rd:Nat) (bs:LI) (p:Nat) (g:Wd) (gb:Nat) (rs:List Func) (f:Func) (i:Int) (ZK:∀z∈bs,0<=z/\z<=255) (hp:p+1000<=1000000000:=by exact ob) (hg:GP g:=by exact ob) (Wi:g.funcs <+: rs:=by exact ob) (hi:0<=i:=by exact ob) (hf:g.funcs[i.toNat]? = some f:=by exact ob) (h0:0<f.params.length:=by exact ob):Zp 213 [.p rd 0,.agg (Wy g gb),.i i] [YD rd bs p,XX gb rs] (fun r h=>∃(e:Z2) (p2:Nat),r=Y9 e/\h=[YD rd bs p2,XX gb rs]/\GE g f.params.length 200 e/\p<=p2/\p2<=p+1000):=by
 obtain ⟨hil,_⟩:=X9.1 hf
 have hgl:=hg.len
 have hso:=(hg.sigs f (Y3 hf)).bd
 have hbv:=Ep
 refine ZG 75 Tryz.func213 (ar (iA (Wy g gb) fun b1=>iA [.i 0,.i 0,nl] fun b2=>ie (Zq 3 [1] (Zm (XD gb g.funcs.length 4 i.toNat 5 i) (Z0 1 (Vz (WE 3 gb 4 4 5 (i.toNat * 5+0) (Zc (Xw rs)) [Z4 f.params] 28 (Z4 f.params) (UJ Wi hf 0 rfl (Vj rfl))) (Z1 (ar (Zt [] (Qk 0) (Zt [] (AU 1) (UN [Y9 (Z2.mk 12 0 []),Y9 (Z2.mk 0 1 [])] (Yz [Z2.mk 12 0 [],Z2.mk 0 1 []]) (XW [Z2.mk 12 0 [],Z2.mk 0 1 []]).symm 2 3 fun v1=>ZT 0 [(20,XH [Z2.mk 12 0 [],Z2.mk 0 1 []])] (Zt [] (XY 2 0 [Z2.mk 12 0 [],Z2.mk 0 1 []]) (UN [Y9 (Z2.mk 2 0 [Z2.mk 12 0 [],Z2.mk 0 1 []])] (Yz [Z2.mk 2 0 [Z2.mk 12 0 [],Z2.mk 0 1 []]]) (XW [Z2.mk 2 0 [Z2.mk 12 0 [],Z2.mk 0 1 []]]).symm 1 3 fun v2=>?_)))))))))))))
 refine Z1 (Y4 (ab 0 (Y5 (fun fz gz m F h=>∃(k:Nat) (ys:List Z2) (u:Value) (pq:Nat),(1<=k/\k<=f.params.length)/\(ys.length=k)/\(∀e∈ys,GE g f.params.length 4 e)/\(p<=pq/\pq<=p+30*k)/\F=sF [0,2,4,6,7] fz [(8,QF ys u),(9,.i k)]/\h=[Zj gz 2,Zj gz 3,YD rd bs pq,Zj gz 5,.tail u 3]/\m=f.params.length-k) _ _ _ ⟨1,[Z2.mk 2 0 [Z2.mk 12 0 [],Z2.mk 0 1 []]],v2,p,ob,ob,(I9 (GE.two (s1:=1) (s2:=1) om om (GE.var om om om) (GE.int om om) om)),ob,rfl,rfl,rfl⟩ (wk [2,2,2,2,0] (fr (fc (x:=.i 1) li fl))) ?_)))
 rintro m F h ⟨k,ys,u,pq,Yi,Zk,ZA,YO,rfl,rfl,rfl⟩
 refine YP 2 (iw (Yb f.params) (Y0 ((k:Int)<(f.params.length:Int)) (fun Za=>?_) (fun Za=>?_)))
 ·refine ak (aq (ab 1 (aE 12 (ZY 6 12 [0,1,2,3,4,5] [1] ?_))))
  obtain ⟨x1,Z3⟩:=Zu f.params k om
  refine dx 6 (Zi none (k:Int) 1 (Y6 Z3)) (Zs 4 5 [7] (Z9 8 (dc 8 [2,2] [] [] (DC rd bs pq g gb rs f.params x1 (ZK:=ob)) ?_)))
  rintro _ _ ⟨e1,p21,rfl,rfl,Y7⟩
  have hle:=Y7.1
  exact Z9 9 (WL 9 [] [] [Y9 e1] (Yz [e1]) (XW [e1]).symm 1 3 fun v3=>Yw 2 2 [] [(38,XH [e1])] (Z9 10 (dp 10 5 [] [] (Yz (ys++[e1])) (Yz ys) (Yz [e1]) u none 3 (Td _) (Td _) (A9 _) (by simp<;>omega) (by simp [A8,Yz]) fun v4=>Zs 0 1 [11] (de (az (Z0 1 (ZE k (Z1 (ZH ⟨k+1,(ys++[e1]),v4,p21,ob,ob,(XI ZA hle),ob,rfl,rfl,rfl⟩ (wk [4,4,2,2,0] (fr (ZL k fl))))))))))))
 refine ax 0 (ar (ZT 2 [(41,XH ys)] (Zt [] (XY 9 i ys) (iA [.i 0,.i 0,nl] fun b3=>?_))))
 refine ZB 0 b3 (X1 (Z2.mk 9 i ys)) (ie (Yt 3 [2] (Zm (XD gb g.funcs.length 4 i.toNat 5 i) (Z0 1 (Vz (WE 4 gb 4 4 5 (i.toNat * 5+1) (Zc (Xw rs)) [.i f.result] 3 (.i f.result) (UJ Wi hf 1 rfl (Vj rfl))) (Z1 (Xv (fun fz gz F h=>∃(eQ:Z2) (p6:Nat),(GE g f.params.length 34 eQ)/\(p<=p6/\p6<=p+350)/\F=sF [0,2,4,6,7,10] fz []/\h=[.obj b3 (X1 eQ),Zj gz 1,Zj gz 2,YD rd bs p6,Zj gz 4]) ?_ ?_)))))))
 ·refine ac (f.result==1) Zg (fun Zh=>?_) (fun Zh=>?_)
  ·refine aE 8 (ZY 4 8 [0,1,2,4] [2,0] (Z9 3 (dc 3 [3,3] [0] [b3] (QZ rd bs pq g gb rs f.params 0 3 (ZK:=ob)) ?_)))
   rintro _ _ ⟨e2,p22,rfl,rfl,Ym⟩
   have Xp:=Ym.1
   have K0:=Ym.2
   try rw [Yr] at Xp
   first|rw [hbv.2.1] at Xp|rw [hbv.1] at Xp
   exact Z9 5 (WL 5 [] [] [Y9 e2,Y9 (Z2.mk 9 i ys)] (Yz [e2,Z2.mk 9 i ys]) (XW [e2,Z2.mk 9 i ys]).symm 2 3 fun v5=>Yw 2 2 [] [(55,XH [e2,Z2.mk 9 i ys])] (Z9 6 (YI 6 [] [] [] (XY 6 1 [e2,Z2.mk 9 i ys]) (Z9 7 (X5 7 3 [] [] b3 (X1 (Z2.mk 6 1 [e2,Z2.mk 9 i ys])) (de (ZI ⟨(Z2.mk 6 1 [e2,Z2.mk 9 i ys]),p22,(GE.two (s1:=20) (s2:=13) om om Xp (GE.node (L:=f.params.length) (s:=4) (q:=13) om (fun _=>by omega) om ZA om om om) om),ob,rfl,rfl⟩ (wk [0,3,3,1,1] fl))))))))
  exact ak (ZI ⟨(Z2.mk 9 i ys),pq,(GE.le (GE.node (L:=f.params.length) (s:=4) (q:=13) om (fun _=>by omega) om ZA om om om) om),ob,rfl,rfl⟩ (Zx 5 fl))
 rintro F h ⟨eQ,p6,VI,B3,rfl,rfl⟩
 refine ar (Zt [] (AU 0) (Zt [] (Qk 0) (UN [Y9 (Z2.mk 0 0 []),Y9 (Z2.mk 12 0 [])] (Yz [Z2.mk 0 0 [],Z2.mk 12 0 []]) (XW [Z2.mk 0 0 [],Z2.mk 12 0 []]).symm 2 3 fun v6=>ZT 0 [(59,XH [Z2.mk 0 0 [],Z2.mk 12 0 []])] (Zt [] (XY 4 0 [Z2.mk 0 0 [],Z2.mk 12 0 []]) (iA [.i 0,.i 0,nl] fun b4=>ZB 0 b4 (X1 (Z2.mk 4 0 [Z2.mk 0 0 [],Z2.mk 12 0 []])) (ie (aD 15 (ZY 7 15 [0,1,2,3,4,5,6,7] [0,2,4,4] (dx 8 (XD gb g.funcs.length 4 i.toNat 5 i) (Zs 5 6 [9] (Ua 10 (WE 6 gb 4 4 5 (i.toNat * 5+1) (Zc (Xw rs)) [.i f.result] 3 (.i f.result) (UJ Wi hf 1 rfl (Vj rfl))) (Z9 11 (dc 11 [5,5] [1,0] [b3,b4] (QZ rd bs p6 g gb rs f.params f.result 4 (ZK:=ob)) ?_)))))))))))))
 rintro _ _ ⟨e3,p23,rfl,rfl,YL⟩
 have Xp:=YL.1
 have K0:=YL.2
 try rw [Yr] at Xp
 first|rw [hbv.2.1] at Xp|rw [hbv.1] at Xp
 exact Z9 12 (WL 12 [] [] [Y9 (Z2.mk 4 0 [Z2.mk 0 0 [],Z2.mk 12 0 []]),Y9 eQ,Y9 e3] (Yz [Z2.mk 4 0 [Z2.mk 0 0 [],Z2.mk 12 0 []],eQ,e3]) (XW [Z2.mk 4 0 [Z2.mk 0 0 [],Z2.mk 12 0 []],eQ,e3]).symm 3 3 fun v7=>Yw 2 2 [] [(73,XH [Z2.mk 4 0 [Z2.mk 0 0 [],Z2.mk 12 0 []],eQ,e3])] (Z9 13 (YI 13 [] [] [] (XY 7 0 [Z2.mk 4 0 [Z2.mk 0 0 [],Z2.mk 12 0 []],eQ,e3]) (Z9 14 (X5 14 6 [] [] b2 (X1 (Z2.mk 7 0 [Z2.mk 4 0 [Z2.mk 0 0 [],Z2.mk 12 0 []],eQ,e3])) (de (ZU (r3 [2,2] [Y9 (Z2.mk 7 0 [Z2.mk 4 0 [Z2.mk 0 0 [],Z2.mk 12 0 []],eQ,e3])] [0] [(b2,b2)] ⟨(Z2.mk 7 0 [Z2.mk 4 0 [Z2.mk 0 0 [],Z2.mk 12 0 []],eQ,e3]),p23,rfl,rfl,⟨GE.three (s1:=3) (s2:=34) (s3:=30) om om (GE.two (s1:=1) (s2:=1) om om (GE.int om om) (GE.var om om om) om) VI Xp om,by omega⟩⟩ (lr _)))))))))
theorem Z92 (xs:LI) (t:Int) (hl:xs.length<=1000:=by exact ob):Zp 208 [Z4 xs,.i t] [] (fun r h=>∃(w:Int),r=.i w/\h=[]/\-1<=w/\w<xs.length):=by
 refine ZG 19 Tryz.func208 (Y8 (Y4 (ab 0 (Y5 (fun fz gz m F h=>∃(k:Nat),(k<=xs.length)/\F=sF [0,1] fz [(5,.i k)]/\h=gz/\m=xs.length-k) _ _ _ ⟨0,ob,rfl,rfl,rfl⟩ (wk [] (Yg fl)) ?_))))
 rintro m F h ⟨k,Yi,rfl,rfl,rfl⟩
 refine YP 2 (iw (Yb xs) (Y0 ((k:Int)<(xs.length:Int)) (fun Za=>?_) (fun Za=>?_)))
 ·refine ak (aq (ab 1 (Ye 2 ?_)))
  obtain ⟨x1,Z3⟩:=Zu xs k om
  refine Zm (Zi none (k:Int) 1 (Y6 Z3)) (Yy (x1==t) Zg (fun Zh=>?_) (fun Zh=>?_))
  ·exact ar (Zl (r1 [] ⟨(k:Int),rfl,rfl,ob⟩))
  exact ak (az (Z0 1 (ZE k (Z1 (ZH ⟨k+1,ob,rfl,rfl,rfl⟩ (wk [] (ZL k fl)))))))
 exact ax 0 (ar (Zl (r1 [] ⟨(-1),rfl,rfl,ob⟩)))
theorem Z7n (rd:Nat) (bs:LI) (p:Nat) (g:Wd) (gb:Nat) (rs:List Func) (f:Func) (i:Int) (ZK:∀z∈bs,0<=z/\z<=255) (hp:p+90000<=1000000000) (hg:GP g) (Wi:g.funcs <+: rs) (hi:0<=i) (hf:g.funcs[i.toNat]? = some f) (h0:i=0->f.params.length=0):Zp 181 [.p rd 0,.agg (Wy g gb),.i i] [YD rd bs p,XX gb rs] (fun r h=>∃(e:Z2) (p2:Nat),r=Y9 e/\h=[YD rd bs p2,XX gb rs]/\GE g f.params.length 30 e/\p<=p2/\p2<=p+90000):=by
 obtain ⟨hil,_⟩:=X9.1 hf
 have hgl:=hg.len
 have hso:=(hg.sigs f (Y3 hf)).bd
 have hbv:=Ep
 refine ZG 121 Tryz.func181 (ar (iA (Wy g gb) fun b1=>iA [.i 0,.i 0,nl] fun b2=>ie (Zq 3 [1] (Zm (XD gb g.funcs.length 4 i.toNat 5 i) (Z0 1 (Vz (WE 3 gb 4 4 5 (i.toNat * 5+0) (Zc (Xw rs)) [Z4 f.params] 28 (Z4 f.params) (UJ Wi hf 0 rfl (Vj rfl))) (Z1 (Zq 3 [1] (Zm (XD gb g.funcs.length 4 i.toNat 5 i) (Z0 1 (Vz (WE 3 gb 4 4 5 (i.toNat * 5+1) (Zc (Xw rs)) [.i f.result] 3 (.i f.result) (UJ Wi hf 1 rfl (Vj rfl))) (Z1 (Ye 1 (ic [] (Z92 f.params 1) ?_))))))))))))))
 rintro _ _ ⟨w1,rfl,rfl,Y7⟩
 have hpl:=Y7
 refine Z1 (ar (Zt [] (AU 0) (iA [.i 0,.i 0,nl] fun b3=>ZB 0 b3 (X1 (Z2.mk 0 0 [])) (ie (Ye 1 (ic [3] (W1 rd bs p 4 (ZK:=ob)) ?_))))))
 rintro _ _ ⟨k1,rfl,rfl,Ym⟩
 have qhp2:=Ym.lt om
 refine Z1 (aq (aq (Xv (fun fz gz F h=>∃(wb:Bool),(wb=true->i=0)/\F=sF [0,2,4,6,7,8,9,10,11] fz [(34,.b wb)]/\h=gz) ?_ ?_)))
 ·refine az (Z0 3 (ib (b:=(decide (k1<3))) 31 (fun Zd=>?_) (fun Zd=>?_)))
  ·have YL:k1<3:=(dq).1 Zd
   exact Z1 (ZI ⟨(i==0),(by first|exact (fun h=>Bool.noConfusion h)|(intro h;omega)|(intro h;simp at h;omega)),rfl,rfl⟩ (Zx 5 fl))
  have X3:¬(k1<3):=Y2 dq Zd
  exact Z1 (ZI ⟨false,(by first|exact (fun h=>Bool.noConfusion h)|(intro h;omega)|(intro h;simp at h;omega)),rfl,rfl⟩ (Zx 5 fl))
 rintro F h ⟨wb,kR6_0,rfl,rfl⟩
 refine Xv (fun fz gz F h=>∃(eQ:Z2) (p6:Nat),(GE g f.params.length 200 eQ)/\(p<=p6/\p6<=p+42000)/\F=sF [0,4,6,7,8,10] fz []/\h=[YD rd bs p6,.obj b3 (X1 eQ),Zj gz 2,Zj gz 3,Zj gz 4]) ?_ ?_
 ·refine ac wb Iff.rfl (fun Za=>?_) (fun Za=>?_)
  ·refine az (Zy 2 [3] (ic [0,3] (Z8r rd bs (p+1) g gb rs (ZK:=ob)) ?_))
   rintro _ _ ⟨e1,p21,rfl,rfl,Xf⟩
   have hbd:=Xf.1
   have hbp:=Xf.2
   exact ZB 2 b3 (X1 e1) (ie (ZI ⟨e1,p21,(by rw [h0 (kR6_0 (by assumption))];exact hbd),ob,rfl,rfl⟩ (wk [1,0,1,1,0] fl)))
  refine aq (Xv (fun fz gz F h=>∃(wb:Bool),(wb=true->0<=w1)/\F=sF [0,2,4,6,7,8,9,10,11] fz [(51,.b wb)]/\h=gz) ?_ ?_)
  ·refine az (Z0 3 (ib (b:=(decide (k1<3))) 40 (fun ZD=>?_) (fun ZD=>?_)))
   ·have XS:k1<3:=(dq).1 ZD
    refine Z0 4 (ib (b:=(decide (w1>=0))) 44 (fun Yk=>?_) (fun Yk=>?_))
    ·have Wh:w1>=0:=(dq).1 Yk
     refine Z0 3 (ib (b:=(f.result==0)) 47 (fun YT=>?_) (fun YT=>?_))
     ·have WZ:f.result=0:=(Zg).1 YT
      exact Z1 (ZI ⟨true,(by first|exact (fun h=>Bool.noConfusion h)|(intro h;omega)|(intro h;simp at h;omega)),rfl,rfl⟩ (Zx 5 fl))
     have Vs:¬(f.result=0):=Y2 Zg YT
     exact Z1 (ZI ⟨(f.result==1),(by first|exact (fun h=>Bool.noConfusion h)|(intro h;omega)|(intro h;simp at h;omega)),rfl,rfl⟩ (Zx 5 fl))
    have UL:¬(w1>=0):=Y2 dq Yk
    exact Z1 (ZI ⟨false,(by first|exact (fun h=>Bool.noConfusion h)|(intro h;omega)|(intro h;simp at h;omega)),rfl,rfl⟩ (Zx 5 fl))
   have Tl:¬(k1<3):=Y2 dq ZD
   exact Z1 (ZI ⟨false,(by first|exact (fun h=>Bool.noConfusion h)|(intro h;omega)|(intro h;simp at h;omega)),rfl,rfl⟩ (Zx 5 fl))
  rintro F h ⟨wb,kR8_0,rfl,rfl⟩
  refine ac wb Iff.rfl (fun Zh=>?_) (fun Zh=>?_)
  ·refine az (Zy 4 [3] (ic [0,3] (Z8z rd bs (p+1) g gb rs _ i w1 (ZK:=ob) (hw:=(by have:=kR8_0 (by assumption);omega))) ?_))
   rintro _ _ ⟨e2,p22,rfl,rfl,UM⟩
   have hbd:=UM.1
   have hbp:=UM.2
   exact ZB 2 b3 (X1 e2) (ie (ZI ⟨e2,p22,(GE.le hbd om),ob,rfl,rfl⟩ (wk [1,0,1,1,0] fl)))
  refine aq (Xv (fun fz gz F h=>∃(wb:Bool),(wb=true->0<f.params.length)/\F=sF [0,2,4,6,7,8,10,11] fz [(77,.b wb)]/\h=gz) ?_ ?_)
  ·refine az (Z0 3 (ib (b:=(decide (k1<3))) 59 (fun XK=>?_) (fun XK=>?_)))
   ·have Qn:k1<3:=(dq).1 XK
    refine Z0 1 (iw (Yb f.params) (Z0 3 (ib (b:=(decide ((f.params.length:Int)>0))) 64 (fun W0=>?_) (fun W0=>?_))))
    ·have TQ:(f.params.length:Int)>0:=(dq).1 W0
     refine Z0 1 ?_
     obtain ⟨x1,Z3⟩:=Zu f.params 0 om
     refine Zm (Zi none 0 1 (Y6 Z3)) (Z0 4 (ib (b:=(x1==3)) 70 (fun W5=>?_) (fun W5=>?_)))
     ·have Kw:x1=3:=(Zg).1 W5
      refine Z0 3 (ib (b:=(f.result==0)) 73 (fun Wq=>?_) (fun Wq=>?_))
      ·have Kx:f.result=0:=(Zg).1 Wq
       exact Z1 (ZI ⟨true,(by first|exact (fun h=>Bool.noConfusion h)|(intro h;omega)|(intro h;simp at h;omega)),rfl,rfl⟩ (Zx 5 fl))
      have AZ:¬(f.result=0):=Y2 Zg Wq
      exact Z1 (ZI ⟨(f.result==3),(by first|exact (fun h=>Bool.noConfusion h)|(intro h;omega)|(intro h;simp at h;omega)),rfl,rfl⟩ (Zx 5 fl))
     have Ad:¬(x1=3):=Y2 Zg W5
     exact Z1 (ZI ⟨false,(by first|exact (fun h=>Bool.noConfusion h)|(intro h;omega)|(intro h;simp at h;omega)),rfl,rfl⟩ (Zx 5 fl))
    have Gs:¬((f.params.length:Int)>0):=Y2 dq W0
    exact Z1 (ZI ⟨false,(by first|exact (fun h=>Bool.noConfusion h)|(intro h;omega)|(intro h;simp at h;omega)),rfl,rfl⟩ (Zx 5 fl))
   have Gt:¬(k1<3):=Y2 dq XK
   exact Z1 (ZI ⟨false,(by first|exact (fun h=>Bool.noConfusion h)|(intro h;omega)|(intro h;simp at h;omega)),rfl,rfl⟩ (Zx 5 fl))
  rintro F h ⟨wb,kR10_0,rfl,rfl⟩
  refine ac wb Iff.rfl (fun ZC=>?_) (fun ZC=>?_)
  ·refine az (Zy 3 [3] (ic [0,3] (Z90 rd bs (p+1) g gb rs _ i (ZK:=ob) (h0:=(kR10_0 (by assumption)))) ?_))
   rintro _ _ ⟨e3,p23,rfl,rfl,EJ⟩
   have hbd:=EJ.1
   have hbp:=EJ.2
   exact ZB 2 b3 (X1 e3) (ie (ZI ⟨e3,p23,(GE.le hbd om),ob,rfl,rfl⟩ (wk [1,0,1,1,0] fl)))
  refine aq (Xv (fun fz gz F h=>∃(wb:Bool),(wb=true->0<f.params.length)/\F=sF [0,2,4,6,7,8,10] fz [(102,.b wb)]/\h=gz) ?_ ?_)
  ·refine az (Z0 3 (ib (b:=(decide (k1<3))) 84 (fun WH=>?_) (fun WH=>?_)))
   ·have Ll:k1<3:=(dq).1 WH
    refine Z0 1 (iw (Yb f.params) (Z0 3 (ib (b:=(decide ((f.params.length:Int)>0))) 89 (fun VO=>?_) (fun VO=>?_))))
    ·have Lm:(f.params.length:Int)>0:=(dq).1 VO
     refine Z0 1 ?_
     obtain ⟨x2,Zv⟩:=Zu f.params 0 om
     refine Zm (Zi none 0 1 (Y6 Zv)) (Z0 4 (ib (b:=(x2==0)) 95 (fun UZ=>?_) (fun UZ=>?_)))
     ·have Ln:x2=0:=(Zg).1 UZ
      refine Z0 3 (ib (b:=(f.result==0)) 98 (fun T0=>?_) (fun T0=>?_))
      ·have Lo:f.result=0:=(Zg).1 T0
       exact Z1 (ZI ⟨true,(by first|exact (fun h=>Bool.noConfusion h)|(intro h;omega)|(intro h;simp at h;omega)),rfl,rfl⟩ (Zx 5 fl))
      have Pf:¬(f.result=0):=Y2 Zg T0
      exact Z1 (ZI ⟨(f.result==1),(by first|exact (fun h=>Bool.noConfusion h)|(intro h;omega)|(intro h;simp at h;omega)),rfl,rfl⟩ (Zx 5 fl))
     have Pg:¬(x2=0):=Y2 Zg UZ
     exact Z1 (ZI ⟨false,(by first|exact (fun h=>Bool.noConfusion h)|(intro h;omega)|(intro h;simp at h;omega)),rfl,rfl⟩ (Zx 5 fl))
    have Ph:¬((f.params.length:Int)>0):=Y2 dq VO
    exact Z1 (ZI ⟨false,(by first|exact (fun h=>Bool.noConfusion h)|(intro h;omega)|(intro h;simp at h;omega)),rfl,rfl⟩ (Zx 5 fl))
   have Pi:¬(k1<3):=Y2 dq WH
   exact Z1 (ZI ⟨false,(by first|exact (fun h=>Bool.noConfusion h)|(intro h;omega)|(intro h;simp at h;omega)),rfl,rfl⟩ (Zx 5 fl))
  rintro F h ⟨wb,kR12_0,rfl,rfl⟩
  refine ac wb Iff.rfl (fun Yc=>?_) (fun Yc=>?_)
  ·refine az (Zy 3 [3] (ic [0,3] (Z85 rd bs (p+1) g gb rs _ i (ZK:=ob) (h0:=(kR12_0 (by assumption)))) ?_))
   rintro _ _ ⟨e4,p24,rfl,rfl,Gu⟩
   have hbd:=Gu.1
   have hbp:=Gu.2
   exact ZB 2 b3 (X1 e4) (ie (ZI ⟨e4,p24,(GE.le hbd om),ob,rfl,rfl⟩ (wk [1,0,1,1,0] fl)))
  refine az (Zy 4 [3] (ic [0,3] (OZ rd bs (p+1) g gb rs f.params f.result 18 (ZK:=ob)) ?_))
  rintro _ _ ⟨e5,p25,rfl,rfl,Gv⟩
  have hbd:=Gv.1
  have hbp:=Gv.2
  exact ZB 2 b3 (X1 e5) (ie (ZI ⟨e5,p25,(GE.le hbd om),ob,rfl,rfl⟩ (wk [1,0,1,1,0] fl)))
 rintro F h ⟨eQ,p6,J1,LE,rfl,rfl⟩
 refine Yt 1 [1] (ic [] (P6 eQ (hz:=(by have:=J1.2;omega))) ?_)
 rintro _ _ ⟨w2,rfl,rfl,Lp⟩
 have Lk:=Lp
 have XT:=J1.2
 refine Y0 (w2<0) (fun YB=>?_) (fun YB=>?_)
 ·refine Zq 4 [3] (ic [0,3] (OZ rd bs p6 g gb rs f.params f.result 12 (ZK:=ob)) ?_)
  rintro _ _ ⟨e6,p26,rfl,rfl,Lq⟩
  have hbd:=Lq.1
  have hbp:=Lq.2
  exact ZB 3 b2 (X1 e6) (ie (ZU (r3 [1,1] [Y9 e6] [0] [(b2,b2)] ⟨e6,p26,rfl,rfl,⟨hbd,by omega⟩⟩ (lr _))))
 exact ak (Zq 1 [1] (ZB 2 b2 (X1 eQ) (ie (ZU (r3 [1,3] [Y9 eQ] [0] [(b2,b2)] ⟨eQ,p6,rfl,rfl,⟨⟨J1.1,by omega⟩,by omega⟩⟩ (lr _))))))
theorem Q3 (ps:LI) (rt:Int) :Zp 180 [Z4 ps,.i rt] [] (Yu (Em (Func.mk ps rt (Z2.mk 0 0 [])))):=by
 exact ZG 8 Tryz.func180 (ar (iA [nl,.i 0,.i 0,.i 0,nl] fun b1=>ie (Ye 3 (ZB 0 b1 [Z4 ps,.i rt,.i 0,.i 0,nl] (ie (ZU (r3 [] [.agg [Z4 ps,.i rt,.i 0,.i 0,nl]] [0] [(b1,b1)] ⟨rfl,rfl⟩ (Ze.agg (.cons (Ze.sl _ (Yj Z7 ob)) (.cons li (.cons li (.cons li (.cons (Ze.sl _ rfl) .nil)))))))))))))
theorem Z8y (rd:Nat) (bs:LI) (p:Nat) (xs:LI) (ZK:∀z∈bs,0<=z/\z<=255) (hp:p+1<=1000000000:=by exact ob) (hx:0<xs.length/\xs.length<=1000000:=by exact ob) (hy:xs.all (fun x=>decide (0<=x))=true:=by exact ob):Zp 41 [.p rd 0,Z4 xs] [YD rd bs p] (fun r h=>∃(nn:Nat),r=.i nn/\h=[.obj rd [Ul bs,.i (p+1:Nat)]]/\(nn:Int)∈xs):=(Ux rd bs p xs ZK hp hx).mono fun r h ⟨z,hr,hh,hz⟩=>by
  have h0:0<=z:=of_decide_eq_true (At.1 hy z hz)
  exact ⟨z.toNat,by rw [hr,Int.toNat_of_nonneg h0],hh,by rw [Int.toNat_of_nonneg h0];exact hz⟩
theorem Z7o (rd:Nat) (bs:LI) (p:Nat) (g:Wd) (gb:Nat) (rs:List Func) (f:Func) (i:Int) (nl:Nat) (ZK:∀z∈bs,0<=z/\z<=255) (hp:p+90000<=1000000000:=by exact ob) (hg:GP g:=by exact ob) (Wi:g.funcs <+: rs:=by exact ob) (hi:0<=i:=by exact ob) (hf:g.funcs[i.toNat]? = some f:=by exact ob) (h0:i=0->f.params.length=0:=by exact ob) (hn:g.funcs.length=nl:=by exact ob):Zp 181 [.p rd 0,.agg [Yf g.decls,.ms gb 0 nl 4],.i i] [YD rd bs p,XX gb rs] (fun r h=>∃(e:Z2) (p2:Nat),r=Y9 e/\h=[YD rd bs p2,XX gb rs]/\GE g f.params.length 30 e/\p<=p2/\p2<=p+90000):=(by subst hn;exact Z7n rd bs p g gb rs f i ZK hp hg Wi hi hf h0)
theorem Z8d (rd:Nat) (bs:LI) (p:Nat) (ZK:∀z∈bs,0<=z/\z<=255) (hp:p+400000<=1000000000):Zp 166 [.p rd 0] [YD rd bs p] (fun r h=>∃(rs:List Func) (ds:List Zf) (m:Nat) (gb:Nat) (p2:Nat),r=.agg [Yf ds,.ms gb 0 m 4]/\h=[XX gb rs,YD rd bs p2]/\(GL ds m 0 rs/\GD ds/\1<=m/\m<=4)/\p<=p2/\p2<=p+400000):=by
 refine ZG 110 Tryz.func166 (ar (iA [nl,nl] fun b1=>ie (Ye 1 (ic [1] (Z8a rd bs p (ZK:=ob)) ?_))))
 rintro _ _ ⟨ds1,v1,rfl,rfl,Y7⟩
 have hgd:=Y7
 refine Z0 1 (iA [nl,nl] fun b2=>ZB 0 b2 [KD ds1 v1,nl] (ie (ar (iL (Z7 [1]) 1 1 fun v2=>ZT 0 [(13,Z4 [1])] (Zt [] (Q3 [1] 0) (iL (Z7 [1,1]) 2 1 fun v3=>ZT 0 [(15,Z4 [1,1])] (Zt [] (Q3 [1,1] 1) (iL (Z7 [1]) 1 1 fun v4=>ZT 0 [(17,Z4 [1])] (Zt [] (Q3 [1] 1) (iL (Z7 [1,0]) 2 1 fun v5=>ZT 0 [(19,Z4 [1,0])] (Zt [] (Q3 [1,0] 1) (iL (Z7 [2,1]) 2 1 fun v6=>ZT 0 [(21,Z4 [2,1])] (Zt [] (Q3 [2,1] 1) (iL (Z7 [1,1]) 2 1 fun v7=>ZT 0 [(23,Z4 [1,1])] (Zt [] (Q3 [1,1] 0) (iL (Xw [Func.mk [1] 0 (Z2.mk 0 0 []),Func.mk [1,1] 1 (Z2.mk 0 0 []),Func.mk [1] 1 (Z2.mk 0 0 []),Func.mk [1,0] 1 (Z2.mk 0 0 []),Func.mk [2,1] 1 (Z2.mk 0 0 []),Func.mk [1,1] 0 (Z2.mk 0 0 [])]) 6 5 fun v8=>Z1 (ar (iL (Z7 [3]) 1 1 fun v9=>ZT 0 [(26,Z4 [3])] (Zt [] (Q3 [3] 0) (iL (Z7 [0]) 1 1 fun v10=>ZT 0 [(28,Z4 [0])] (Zt [] (Q3 [0] 1) (iL (Z7 [0,1]) 2 1 fun v11=>ZT 0 [(30,Z4 [0,1])] (Zt [] (Q3 [0,1] 1) (iL (Z7 [3,0]) 2 1 fun v12=>ZT 0 [(32,Z4 [3,0])] (Zt [] (Q3 [3,0] 3) (iL (Z7 [3]) 1 1 fun v13=>ZT 0 [(34,Z4 [3])] (Zt [] (Q3 [3] 1) (iL (Z7 [1,3,0]) 3 1 fun v14=>ZT 0 [(36,Z4 [1,3,0])] (Zt [] (Q3 [1,3,0] 0) (iL (Xw [Func.mk [3] 0 (Z2.mk 0 0 []),Func.mk [0] 1 (Z2.mk 0 0 []),Func.mk [0,1] 1 (Z2.mk 0 0 []),Func.mk [3,0] 3 (Z2.mk 0 0 []),Func.mk [3] 1 (Z2.mk 0 0 []),Func.mk [1,3,0] 0 (Z2.mk 0 0 [])]) 6 5 fun v15=>Z1 (ar (iL (Z7 [0]) 1 1 fun v16=>ZT 0 [(39,Z4 [0])] (Zt [] (Q3 [0] 0) (iL (Z7 [0,0]) 2 1 fun v17=>ZT 0 [(41,Z4 [0,0])] (Zt [] (Q3 [0,0] 0) (iL (Z7 [1,0]) 2 1 fun v18=>ZT 0 [(43,Z4 [1,0])] (Zt [] (Q3 [1,0] 0) (iL (Z7 [0]) 1 1 fun v19=>ZT 0 [(45,Z4 [0])] (Zt [] (Q3 [0] 1) (iL (Xw [Func.mk [0] 0 (Z2.mk 0 0 []),Func.mk [0,0] 0 (Z2.mk 0 0 []),Func.mk [1,0] 0 (Z2.mk 0 0 []),Func.mk [0] 1 (Z2.mk 0 0 [])]) 4 5 fun v20=>Z1 (aD 26 (Zs 23 26 [2,3,4] (dn 5 (.i (([Func.mk [1] 0 (Z2.mk 0 0 []),Func.mk [1,1] 1 (Z2.mk 0 0 []),Func.mk [1] 1 (Z2.mk 0 0 []),Func.mk [1,0] 1 (Z2.mk 0 0 []),Func.mk [2,1] 1 (Z2.mk 0 0 []),Func.mk [1,1] 0 (Z2.mk 0 0 [])].length:Nat):Int)) (.i (((Xw [Func.mk [1] 0 (Z2.mk 0 0 []),Func.mk [1,1] 1 (Z2.mk 0 0 []),Func.mk [1] 1 (Z2.mk 0 0 []),Func.mk [1,0] 1 (Z2.mk 0 0 []),Func.mk [2,1] 1 (Z2.mk 0 0 []),Func.mk [1,1] 0 (Z2.mk 0 0 [])]).length:Nat):Int)) (li (by rw [Do])) (Zs 19 22 [9,10,11] (dn 12 (.i (([Func.mk [3] 0 (Z2.mk 0 0 []),Func.mk [0] 1 (Z2.mk 0 0 []),Func.mk [0,1] 1 (Z2.mk 0 0 []),Func.mk [3,0] 3 (Z2.mk 0 0 []),Func.mk [3] 1 (Z2.mk 0 0 []),Func.mk [1,3,0] 0 (Z2.mk 0 0 [])].length:Nat):Int)) (.i (((Xw [Func.mk [3] 0 (Z2.mk 0 0 []),Func.mk [0] 1 (Z2.mk 0 0 []),Func.mk [0,1] 1 (Z2.mk 0 0 []),Func.mk [3,0] 3 (Z2.mk 0 0 []),Func.mk [3] 1 (Z2.mk 0 0 []),Func.mk [1,3,0] 0 (Z2.mk 0 0 [])]).length:Nat):Int)) (li (by rw [Do])) (Zs 15 18 [16,17,18] (dn 19 (.i (([Func.mk [0] 0 (Z2.mk 0 0 []),Func.mk [0,0] 0 (Z2.mk 0 0 []),Func.mk [1,0] 0 (Z2.mk 0 0 []),Func.mk [0] 1 (Z2.mk 0 0 [])].length:Nat):Int)) (.i (((Xw [Func.mk [0] 0 (Z2.mk 0 0 []),Func.mk [0,0] 0 (Z2.mk 0 0 []),Func.mk [1,0] 0 (Z2.mk 0 0 []),Func.mk [0] 1 (Z2.mk 0 0 [])]).length:Nat):Int)) (li (by rw [Do])) (Z9 0 (dL 0 [] [] (Z7 []) 0 1 fun v21=>Yw 13 13 [] [(48,Z4 [])] (Z9 1 (YI 1 [] [] [] (Q3 [] 0) (Z9 6 (dc 6 [22] [] [] (W1 rd bs (p+1) (([Func.mk [1] 0 (Z2.mk 0 0 []),Func.mk [1,1] 1 (Z2.mk 0 0 []),Func.mk [1] 1 (Z2.mk 0 0 []),Func.mk [1,0] 1 (Z2.mk 0 0 []),Func.mk [2,1] 1 (Z2.mk 0 0 []),Func.mk [1,1] 0 (Z2.mk 0 0 [])].length:Nat):Int) (ZK:=ob)) ?_)))))))))))))))))))))))))))))))))))))))))))))))))))))
 rintro _ _ ⟨k1,rfl,rfl,Ym⟩
 have qhp2:=Ym.lt (by simp)
 simp only [Yp,YZ] at qhp2
 obtain ⟨x1,Z3⟩:=Zu [Func.mk [1] 0 (Z2.mk 0 0 []),Func.mk [1,1] 1 (Z2.mk 0 0 []),Func.mk [1] 1 (Z2.mk 0 0 []),Func.mk [1,0] 1 (Z2.mk 0 0 []),Func.mk [2,1] 1 (Z2.mk 0 0 []),Func.mk [1,1] 0 (Z2.mk 0 0 [])] k1.toNat (by simp only [Yp,YZ];omega)
 refine dx 7 (Zi (some v8) k1 5 (G4 Z3)) (Zs 9 10 [8] (Z9 13 (dc 13 [0] [] [] (W1 rd bs ((p+1)+1) (([Func.mk [3] 0 (Z2.mk 0 0 []),Func.mk [0] 1 (Z2.mk 0 0 []),Func.mk [0,1] 1 (Z2.mk 0 0 []),Func.mk [3,0] 3 (Z2.mk 0 0 []),Func.mk [3] 1 (Z2.mk 0 0 []),Func.mk [1,3,0] 0 (Z2.mk 0 0 [])].length:Nat):Int) (ZK:=ob)) ?_)))
 rintro _ _ ⟨k2,rfl,rfl,YL⟩
 have qhp3:=YL.lt (by simp)
 simp only [Yp,YZ] at qhp3
 obtain ⟨x2,Zv⟩:=Zu [Func.mk [3] 0 (Z2.mk 0 0 []),Func.mk [0] 1 (Z2.mk 0 0 []),Func.mk [0,1] 1 (Z2.mk 0 0 []),Func.mk [3,0] 3 (Z2.mk 0 0 []),Func.mk [3] 1 (Z2.mk 0 0 []),Func.mk [1,3,0] 0 (Z2.mk 0 0 [])] k2.toNat (by simp only [Yp,YZ];omega)
 refine dx 14 (Zi (some v15) k2 5 (G4 Zv)) (Zs 6 7 [15] (Z9 20 (dc 20 [0] [] [] (W1 rd bs (((p+1)+1)+1) (([Func.mk [0] 0 (Z2.mk 0 0 []),Func.mk [0,0] 0 (Z2.mk 0 0 []),Func.mk [1,0] 0 (Z2.mk 0 0 []),Func.mk [0] 1 (Z2.mk 0 0 [])].length:Nat):Int) (ZK:=ob)) ?_)))
 rintro _ _ ⟨k3,rfl,rfl,X3⟩
 have qhp4:=X3.lt (by simp)
 simp only [Yp,YZ] at qhp4
 obtain ⟨x3,YU⟩:=Zu [Func.mk [0] 0 (Z2.mk 0 0 []),Func.mk [0,0] 0 (Z2.mk 0 0 []),Func.mk [1,0] 0 (Z2.mk 0 0 []),Func.mk [0] 1 (Z2.mk 0 0 [])] k3.toNat (by simp only [Yp,YZ];omega)
 refine dx 21 (Zi (some v20) k3 5 (G4 YU)) (Zs 3 4 [22] (Z9 23 (dKN 23 [] [] (Zc (Xw [Func.mk [] 0 (Z2.mk 0 0 []),x1,x2,x3])) 4 5 fun g1=>Zs 1 2 [24] (Z9 25 (X5 25 22 [] [] b2 [KD ds1 v1,.ms g1 0 4 4] (de (Ye 1 (iL (Z7 [4,4,3,2,4]) 5 1 fun v22=>ZT 0 [(74,Z4 [4,4,3,2,4])] (ic [3] (Z8y rd bs ((((p+1)+1)+1)+1) [4,4,3,2,4] (ZK:=ob) (hy:=(by decide))) ?_)))))))))
 rintro _ _ ⟨nn1,rfl,rfl,Xf⟩
 have hnn:=Zct (a:=2) (b:=4) Xf (by decide)
 refine Z1 (Zq 3 [2] (Zm (PM 3 g1 4 4 nn1 5 (Zc (Xw [Func.mk [] 0 (Z2.mk 0 0 []),x1,x2,x3]))) (Z0 1 (ZB 2 b2 [KD ds1 v1,.ms g1 0 nn1 4] (ie (YP 1 (ia (((nn1:Int)-1)) (((nn1:Int))-(1)) (Z1 (ab 0 (Y5 (fun fz gz m F h=>∃(j:Nat) (rq:List Func) (pq:Nat),(j<=nn1)/\(GL ds1 nn1 j rq)/\(p<=pq/\pq+90000*j<=p+10+90000*nn1)/\F=sF [0,2,3] fz [(8,.i ((j:Int)-1))]/\h=[Zj gz 0,YD rd bs pq,Zj gz 25,Zj gz 24,XX g1 rq]/\m=j+1) _ _ _ ⟨nn1,[Func.mk [] 0 (Z2.mk 0 0 []),x1,x2,x3],((((p+1)+1)+1)+1)+1,ob,(GL.start (Mz Z3 (by decide)) (Mz Zv (by decide)) (Mz YU (by decide))),ob,rfl,rfl,rfl⟩ (wk [0,0,23,22,1] fl) ?_))))))))))
 rintro m F h ⟨j,rq,pq,Yi,Zk,ZA,rfl,rfl,rfl⟩
 refine Xe (Y0 (((j:Int)-1)>=0) (fun Za=>?_) (fun Za=>?_))
 ·obtain ⟨f1,hf1⟩:=Zu (rq.take nn1) (((j:Int)-1).toNat) (by rw [Zk.len_take om];omega)
  have hfq:rq[j-1]? = some f1:=by have h:=hf1;rw [show ((j:Int)-1).toNat=j-1 by omega,List.getElem?_take_of_lt om] at h;exact h
  refine ak (aq (ab 1 (ar (Kd 3 [(88,.agg [Yf ds1,.ms g1 0 nn1 4])] [0] (ic [1,3] (Z7o rd bs pq (Wd.mk ds1 (rq.take nn1)) g1 rq f1 ((j:Int)-1) nn1 (ZK:=ob) (hg:=(Zk.gp hgd om)) (Wi:=(List.take_prefix nn1 rq)) (hf:=hf1) (h0:=(fun h=>Zk.zero f1 (by rw [<-hfq,show j-1=0 by omega]))) (hn:=(Zk.len_take om))) ?_)))))
  rintro _ _ ⟨e1,p21,rfl,rfl,XS⟩
  have hbw:eW ds1 nn1 f1.params.length e1/\(e1).sz<=30:=by have h:=XS.1;unfold GE at h;rw [show (Wd.mk ds1 (rq.take nn1)).funcs.length=nn1 from Zk.len_take om] at h;exact h
  exact iA [.i 0,.i 0,nl] fun b3=>ZB 0 b3 (X1 e1) (ie (aE 19 (ZY 13 19 [0,1,2,3,4,5] [3,3] (dx 6 (XD g1 nn1 4 (((j:Int)-1).toNat) 5 ((j:Int)-1)) (Zs 11 12 [7] (Ua 8 (WE 2 g1 4 4 5 ((((j:Int)-1).toNat)*5+0) (Zc (Xw rq)) [Z4 f1.params] 28 (Z4 f1.params) (UJ (List.take_prefix nn1 rq) hf1 0 rfl (Vj rfl))) (ZY 7 10 [9,10,11] [3] (dx 12 (XD g1 nn1 4 (((j:Int)-1).toNat) 5 ((j:Int)-1)) (Zs 5 6 [13] (Ua 14 (WE 2 g1 4 4 5 ((((j:Int)-1).toNat)*5+1) (Zc (Xw rq)) [.i f1.result] 3 (.i f1.result) (UJ (List.take_prefix nn1 rq) hf1 1 rfl (Vj rfl))) (ZY 2 4 [15,16] [0] (dx 17 (XD g1 nn1 4 (((j:Int)-1).toNat) 5 ((j:Int)-1)) (Z9 18 (Ko 18 2 [] [] g1 4 4 5 ((((j:Int)-1).toNat)*5) [Z4 f1.params,.i f1.result,.i e1.op,.i e1.num,XH e1.kids] (Zc (Xw rq)) (Zc (Xw (rq.set ((j:Int)-1).toNat ⟨f1.params,f1.result,e1⟩))) (by rw [IY,Zk.len];simp only [Yp,YZ];omega) (Z76 ⟨f1.params,f1.result,e1⟩ (by rw [Zk.len];omega)) (de (az (Z0 1 (ia ((((j:Int)-1)-1)) (((j:Int)-1)-(1)) (Z1 (ZH ⟨(j-1),(rq.set ((j:Int)-1).toNat ⟨f1.params,f1.result,e1⟩),p21,ob,(by rw [show ((j:Int)-1).toNat=j-1 by omega];exact Zk.set om hfq hbw),ob,rfl,rfl,rfl⟩ (wk [3,2,2,2,0] (fc (x:=.i (((j:Int)-1)-1)) li fl))))))))))))))))))))))
 exact ax 0 (Zq 1 [0] (ZB 2 b1 [KD ds1 v1,.ms g1 0 nn1 4] (ie (ZU (r3 [4,2] [.agg [KD ds1 v1,.ms g1 0 nn1 4]] [0] [(b1,b1)] ⟨rq,ds1,nn1,g1,pq,rfl,rfl,⟨⟨by rw [show j=0 by omega] at Zk;exact Zk,hgd,by omega,by omega⟩,by omega⟩⟩ (Ze.agg (.cons (Ze.forget _ _) (.cons (lr _) .nil))))))))
theorem Z8c (rd:Nat) (bs:LI) (p:Nat) (ZK:∀z∈bs,0<=z/\z<=255) (hp:p+400000<=1000000000:=by exact ob):Zp 166 [.p rd 0] [YD rd bs p] (fun r h=>∃(g:Wd) (p2:Nat),r=AE g/\h=[YD rd bs p2]/\HW g/\p<=p2/\p2<=p+400000):=(V7.frzP (E:=List Func × List Zf × Nat × Nat) (ds:=fun e=>e.2.1) (rs:=fun e=>e.1) (m:=fun e=>e.2.2.1) (hs:=fun e=>[.obj rd [Ul bs,.i (e.2.2.2:Nat)]]) (Q:=fun e=>(GL e.2.1 e.2.2.1 0 e.1/\GD e.2.1/\1<=e.2.2.1/\e.2.2.1<=4)/\p<=e.2.2.2/\e.2.2.2<=p+400000)
  ((Z8d rd bs p ZK hp).mono fun r h ⟨rs,ds,m,gb,p2,hr,hh,hq⟩=>⟨(rs,ds,m,p2),gb,hr,hh,hq⟩) fun e hq=>⟨hq.1.2.2.2,hq.1.1.len⟩).mono
  fun r h ⟨e,hr,hh,hq⟩=>⟨⟨e.2.1,e.1.take e.2.2.1⟩,e.2.2.2,hr,hh,hq.1.1.done hq.1.2.1 hq.1.2.2,hq.2⟩
theorem Lc (a:Nat) (n:Nat) (ha:a<=1000000:=by exact ob) (hn:n<=1000000:=by exact ob):Zp 109 [.i a,.i n] [] (fun r h=>∃(xs:LI),r=Z4 xs/\h=[]/\xs.length=n/\∀i∈xs,(a:Int)<=i/\i<(a:Int)+n):=by
 refine ZG 20 Tryz.func109 (Y8 (ar (iL (Z7 []) 0 1 fun v1=>?_)))
 refine Z1 (Y4 (ab 0 (Y5 (fun fz gz m F h=>∃(k:Nat) (ys:LI) (u:Value),(k<=n)/\(ys.length=k)/\(∀i∈ys,(a:Int)<=i/\i<(a:Int)+n)/\F=sF [0,1] fz [(5,ZP ys u),(6,.i k)]/\h=[.tail u 1]/\m=n-k) _ _ _ ⟨0,[],v1,ob,ob,(fun i hi=>by cases hi),rfl,rfl,rfl⟩ (wk [0] (fr (Yg fl))) ?_)))
 rintro m F h ⟨k,ys,u,Yi,Zk,ZA,rfl,rfl,rfl⟩
 refine Xe (Y0 ((k:Int)<(n:Int)) (fun Za=>?_) (fun Za=>?_))
 ·exact ak (aq (ab 1 (az (Z0 3 (ia (((a+k:Nat):Int)) (((a:Int))+((k:Int))) (iL (Z7 [((a+k:Nat):Int)]) 1 1 fun v2=>ZT 0 [(17,Z4 [((a+k:Nat):Int)])] (ip 1 (Z7 (ys++[((a+k:Nat):Int)])) (Z7 ys) (Z7 [((a+k:Nat):Int)]) u none 1 (YH _) (YH _) (Wb _) (by simp<;>omega) (by simp [Wa,Z7]) fun v3=>Z1 (az (Z0 1 (ZE k (Z1 (ZH ⟨k+1,(ys++[((a+k:Nat):Int)]),v3,ob,ob,(XI ZA om),rfl,rfl,rfl⟩ (wk [0] (fr (ZL k fl)))))))))))))))
 exact ax 0 (ar (Zl (r2 [] [ZP ys u] ⟨ys,rfl,rfl,⟨by omega,ZA⟩⟩ (Ze.forget _ _))))
theorem OV (l:Nat) (xs:List Z6) (w:Value) (q:Nat) (s:Z6) (hl:xs.length<=4000000000:=by exact ob) (hq:q<=1000000:=by exact ob):Zp 239 [.p l 0,X6 s] [.obj l [Xl xs w,.i q],.tail w 5] (fun r h=>∃(w2:Value),r=.i q/\h=[.obj l [Xl (xs++[s]) w2,.i (((q+1):Nat):Int)],.tail w2 5]):=by
 exact ZG 28 Tryz.func239 (ar (iA (Wk s) fun b1=>Z1 (aD 11 (ZY 5 11 [0,1,2,3,4,5] [1,0] (Z9 6 (WL 6 [1] [l] [X6 s] (ZQ [s]) (Ub [s]).symm 1 5 fun v1=>Yw 4 4 [] [(11,Vt [s])] (Z9 7 (dp 7 3 [] [] (ZQ (xs++[s])) (ZQ xs) (ZQ [s]) w none 5 (XJ _) (XJ _) (Up _) (by simp<;>omega) (by simp [Vx,ZQ]) fun v2=>Zs 1 3 [8,9] (Z9 10 (X5 10 3 [] [] l [Xl (xs++[s]) v2,.i q] (de (Zq 5 [0] (ZE q (Z0 2 (ZB 0 l [Xl (xs++[s]) v2,.i (q+1:Nat)] (ie (Zq 4 [0] (ia ((((q+1:Nat):Int)-1)) ((((q+1:Nat):Int))-(1)) (Zl (r2 [0,0] [.i (((q+1:Nat):Int)-1)] ⟨v2,rfl,rfl⟩ li))))))))))))))))))))
theorem P5 (g:Wd) (e:Z2) (us:LI) (q:Nat) (bb:Nat) (he:eW g.decls g.funcs.length us.length e:=by exact ob) (hu:∀a∈us,0<=a/\a<(q:Int)) (hul:us.length+4*e.sz<=100000:=by exact ob) (hql:q+6*e.sz<=100000:=by exact ob) (hb:e.sz<bb:=by exact ob) (ih:∀(l:Nat) (e2:Z2) (us2:LI) (xs2:List Z6) (w2:Value) (q2:Nat),(eW g.decls g.funcs.length us2.length e2)->(∀a∈us2,0<=a/\a<(q2:Int))->(us2.length+4*e2.sz<=100000)->(xs2.length+6*e2.sz<=100000)->(q2+6*e2.sz<=100000)->(e2.sz<bb)->Zp 207 [.p l 0,AE g,Y9 e2,Z4 us2] [.obj l [Xl xs2 w2,.i q2],.tail w2 5] (fun r h=>∃(ys:List Z6) (v:Int) (w2:Value),r=.i v/\h=[.obj l [Xl (xs2++ys) w2,.i (((q2+Yv ys):Nat):Int)],.tail w2 5]/\LW g.decls g.funcs.length q2 e2 ys v)):Zp 179 [AE g,Y9 e,Z4 us,.i q] [] (fun r h=>∃(b:Z8),r=Yn b/\h=[]/\LB g.decls g.funcs.length q e b):=by
 refine ZG 26 Tryz.func179 (ar (iA (LM g) fun b1=>iA (X1 e) fun b2=>iA [nl,.i 0] fun b3=>ie (ar (iL (ZQ []) 0 5 fun v1=>Z0 2 (iA [Xl [] v1,.i q] fun b4=>Z1 (Zq 4 [4,3] (ic [0,0] (ih b4 e us [] v1 q he hu ob ob ob ob) ?_)))))))
 rintro _ _ ⟨ys1,v2,w21,rfl,rfl,Y7⟩
 have hlw:=Y7
 exact Z1 (Zq 6 [0] (ZB 2 b3 [Xl ([]++ys1) w21,.i v2] (ie (ZU (r3 [] [.agg [Xl ([]++ys1) w21,.i v2]] [0] [(b3,b3)] ⟨(Z8.mk ([]++ys1) v2),rfl,rfl,(by rw [D9];exact hlw.block)⟩ (Ze.agg (.cons (Ze.forget _ _) (.cons (lr _) .nil))))))))
theorem Z8q (l:Nat) (g:Wd) (e:Z2) (us:LI) (xs:List Z6) (w:Value) (q:Nat) (hd:GD g.decls) (he:eW g.decls g.funcs.length us.length e) (hu:∀a∈us,0<=a/\a<(q:Int)) (hul:us.length+4*e.sz<=100000) (hxl:xs.length+6*e.sz<=100000) (hql:q+6*e.sz<=100000) (ih:∀(l:Nat) (e2:Z2) (us2:LI) (xs2:List Z6) (w2:Value) (q2:Nat),(eW g.decls g.funcs.length us2.length e2)->(∀a∈us2,0<=a/\a<(q2:Int))->(us2.length+4*e2.sz<=100000)->(xs2.length+6*e2.sz<=100000)->(q2+6*e2.sz<=100000)->(e2.sz<e.sz)->Zp 207 [.p l 0,AE g,Y9 e2,Z4 us2] [.obj l [Xl xs2 w2,.i q2],.tail w2 5] (fun r h=>∃(ys:List Z6) (v:Int) (w2:Value),r=.i v/\h=[.obj l [Xl (xs2++ys) w2,.i (((q2+Yv ys):Nat):Int)],.tail w2 5]/\LW g.decls g.funcs.length q2 e2 ys v)):Zp 207 [.p l 0,AE g,Y9 e,Z4 us] [.obj l [Xl xs w,.i q],.tail w 5] (fun r h=>∃(ys:List Z6) (v:Int) (w2:Value),r=.i v/\h=[.obj l [Xl (xs++ys) w2,.i (((q+Yv ys):Nat):Int)],.tail w2 5]/\LW g.decls g.funcs.length q e ys v):=by
 have Xu:=hd.ok
 obtain ⟨ho,h12,h13,h7,h8,h9,hnum,hkl,hks⟩:=(Z5q e).1 he
 have hez:=e.sz_eq
 refine ZG 148 Tryz.func207 (ar (iA (LM g) fun b1=>iA (X1 e) fun b2=>Z1 (Xe (WJ [0] (ab 0 (ar (Yy (e.op==12) Zg (fun Za=>?_) (fun Za=>?_))))))))
 ·refine Zq 3 [0] ?_
  obtain ⟨x1,Z3⟩:=Zu us e.num.toNat (by have:=h12 om;omega)
  have huv:=hu _ (Y3 Z3)
  exact Zm (Zi none e.num 1 (Y6 Z3)) (Zl (r1 [2,2] ⟨[],x1,w,rfl,rfl,(LW.var huv)⟩ (eq:=(ro (ls:=[Xl xs w,.i q]) (by simp [Yv]) (rc rz)))))
 refine ar (Yy (e.op==13) Zg (fun Zh=>?_) (fun Zh=>?_))
 ·refine aD 9 (ZY 5 9 [0,1,2,3] [1,0] ?_)
  obtain ⟨x2,Zv⟩:=Zu e.kids 0 (by have:=h13 om;omega)
  have hekx2:=Dt hks Zv
  have hszx2:=Cw Zv
  have htzx2:=By Zv
  rw [Wr] at hekx2
  rw [Z06 om] at hekx2
  refine dx 4 (Zi none 0 3 (Dn Zv)) (Zs 2 4 [5,6] (Z9 7 (dc 7 [2,2] [] [] (ih l x2 us xs w q (by first|assumption|(rw [Yr];assumption)) (by first|assumption|exact Fp hu hlwhp1.v|exact HL hu) (by first|omega|(simp only [Yr,Yp,YZ];omega)) (by first|omega|(simp only [Yr,Yp,YZ];omega)) ob ob) ?_)))
  rintro _ _ ⟨ys1,v1,w21,rfl,rfl,Y7⟩
  have hlwhp1:=Y7
  have hldhp1:=Y7.dn
  refine Zs 0 1 [8] (de (aD 12 (ZY 8 12 [0,1,2,3] [3,2] ?_)))
  obtain ⟨x3,YU⟩:=Zu e.kids 1 (by have:=h13 om;omega)
  have hz2:=Oh Zv YU
  have hz3:=x2.sz_eq
  have hekx3:=Dt hks YU
  have hszx3:=Cw YU
  have htzx3:=By YU
  rw [Wr] at hekx3
  rw [Z06 om] at hekx3
  refine dx 4 (Zi none 1 3 (Dn YU)) (Zs 4 7 [5,6,7] (Z9 8 (dL 8 [1,2] [b2,b1] (Z7 [v1]) 1 1 fun v2=>Yw 3 3 [] [(45,Z4 [v1])] (Z9 9 (dc 9 [] [1,2] [b2,b1] (TF us [v1]) ?_)))))
  rintro _ _ ⟨v3,rfl,rfl⟩
  refine Yw 2 2 [] [(46,Z4 (us++[v1]))] (Z9 10 (dc 10 [2,2] [] [] (ih l x3 (us++[v1]) (xs++ys1) w21 (q+Yv ys1) (by first|assumption|(rw [Yr];assumption)) (by first|assumption|exact Fp hu hlwhp1.v|exact HL hu) (by first|omega|(simp only [Yr,Yp,YZ];omega)) (by first|omega|(simp only [Yr,Yp,YZ];omega)) ob ob) ?_))
  rintro _ _ ⟨ys2,v4,w22,rfl,rfl,Ym⟩
  have hlwhp2:=Ym
  have hldhp2:=Ym.dn
  exact Zs 0 1 [11] (de (ZU (r1 [0,0] ⟨(ys1++ys2),v4,w22,rfl,rfl,(LW.let_ hlwhp1 hlwhp2 (by have:=Oh Zv YU;omega))⟩ (eq:=(ro (ls:=[Xl ((xs++ys1)++ys2) w22,.i ((((q+Yv ys1)+Yv ys2):Nat):Int)]) (by rw [Tb,<-Aw,U3]) (rc rz))))))
 refine Y4 (Xv (fun fz gz F h=>F=sF [0,3,5,6] fz [(48,.b ((e.op==7)||(e.op==8)))]/\h=gz) ?_ ?_)
 ·refine ac (e.op==7) Zg (fun ZC=>?_) (fun ZC=>?_)
  ·exact ak (ZI ⟨rfl,rfl⟩ (Zx 4 (fc (x:=.b (e.op==7)) (lb (by first|rfl|(rw [Zb ZC])|(rw [Z5 ZC])|(simp [ZC];done)|(rw [Yd];simp [ZC];done)|omega)) fl)))
  exact Vl (ZI ⟨rfl,rfl⟩ (Zx 4 (fc (x:=.b (e.op==8)) (lb (by first|rfl|(rw [Zb ZC])|(rw [Z5 ZC])|(simp [ZC];done)|(rw [Yd];simp [ZC];done)|omega)) fl)))
 rintro F h ⟨rfl,rfl⟩
 refine ac ((e.op==7)||(e.op==8)) (p:=(e.op=7)∨(e.op=8)) (Zz Zg Zg) (fun Yc=>?_) (fun Yc=>?_)
 ·refine aD 9 (ZY 5 9 [0,1,2,3] [1,0] ?_)
  obtain ⟨x4,Ue⟩:=Zu e.kids 0 om
  have hekx4:=Dt hks Ue
  have hszx4:=Cw Ue
  have htzx4:=By Ue
  rw [Wr] at hekx4
  rw [Zew om] at hekx4
  refine dx 4 (Zi none 0 3 (Dn Ue)) (Zs 2 4 [5,6] (Z9 7 (dc 7 [2,2] [] [] (ih l x4 us xs w q (by first|assumption|(rw [Yr];assumption)) (by first|assumption|exact Fp hu hlwhp1.v|exact HL hu) (by first|omega|(simp only [Yr,Yp,YZ];omega)) (by first|omega|(simp only [Yr,Yp,YZ];omega)) ob ob) ?_)))
  rintro _ _ ⟨ys3,v5,w23,rfl,rfl,YL⟩
  have hlwhp3:=YL
  have hldhp3:=YL.dn
  refine Zs 0 1 [8] (de (ar (iL (XU []) 0 2 fun v6=>Z1 (Zq 4 [4,3] (ic [] (Jb g.decls e.num) ?_)))))
  rintro _ _ ⟨v7,rfl,rfl⟩
  refine Z1 (Y4 (ab 1 (Y5 (fun fz gz m F h=>∃(k:Nat) (cs:List Z8) (u:Value),(1<=k/\k<=e.kids.length)/\(cs.length+1=k)/\(Uc g.decls g.funcs.length (V3 g.decls e.op e.num (q+Yv ys3)) 0 cs)/\(YX cs+6*x4.sz<=cs.length+6*XG (e.kids.take k))/\(K8 WW cs)/\F=sF [0,3,5,6,10] fz [(11,Qt cs u),(12,Z4 (ZW g.decls e.num)),(13,.i k)]/\h=[Zj gz 2,Zj gz 4,Zj gz 5,.tail u 2,Zj gz 3]/\m=e.kids.length-k) _ _ _ ⟨1,[],v6,ob,ob,True.intro,(by have h:XG (e.kids.take 1)=XG (e.kids.take 0)+x4.sz:=By Ue;simp only [YX,YZ];omega),True.intro,rfl,rfl,rfl⟩ (wk [2,3,3,1,1] (fr (fc (x:=ZP (ZW g.decls e.num) v7) (Ze.forget _ _) (fc (x:=.i 1) li fl)))) ?_)))
  rintro m F h ⟨k,cs,u,Yi,Zk,ZA,YO,Wp,rfl,rfl,rfl⟩
  refine Yt 3 [1] (iw (IF e.kids) (Y0 ((k:Int)<(e.kids.length:Int)) (fun YB=>?_) (fun YB=>?_)))
  ·refine ak (aq (ab 2 (Y8 (Xe (WJ [1] (Xv (fun fz gz F h=>∃(mf:Nat),(V3 g.decls e.op e.num (q+Yv ys3) cs.length=(q+Yv ys3)+mf)/\(mf<=3)/\(Q8 g.decls e.op e.num us.length k=us.length+mf)/\F=sF [0,3,5,6,10,11,12,13] fz [(14,.i mf)]/\h=gz) ?_ ?_))))))
   ·refine ac (e.op==8) Zg (fun YY=>?_) (fun YY=>?_)
    ·refine aE 10 (ZY 6 10 [0,1,2,3] [2] (da 4 (((k-1:Nat):Int)) (((k:Int))-(1)) ?_))
     obtain ⟨x5,Uy⟩:=Zu (ZW g.decls e.num) (k-1) (by have:=h8 om;omega)
     exact dx 5 (Zi none ((k-1:Nat):Int) 1 (Y6 Uy)) (Zs 3 4 [6] (Z9 7 (YI 7 [] [] [] (Qu g.decls x5) (dn 8 (.i (((ZO g.decls x5).length:Nat):Int)) (.i (((Z7 (ZO g.decls x5)).length:Nat):Int)) (li (by rw [Yb])) (Zs 0 1 [9] (de (ZI ⟨(ZO g.decls x5).length,(Mv om (by rw [show cs.length=k-1 by omega];exact Uy)),(by have:=Vp Xu x5;omega),(Zex om (show k=(k-1)+1 by omega) Uy),rfl,rfl⟩ (Zx 5 (fc (x:=.i (((ZO g.decls x5).length:Nat):Int)) (li (by first|rfl|(rw [Zb YY])|(rw [Z5 YY])|(simp [YY];done)|(rw [Yd];simp [YY];done)|omega)) fl)))))))))
    exact ak (ZI ⟨0,(Mw om),om,(Z07 om),rfl,rfl⟩ (Zx 5 (fc (x:=.i 0) (li (by first|rfl|(rw [Zb YY])|(rw [Z5 YY])|(simp [YY];done)|(rw [Yd];simp [YY];done)|omega)) fl)))
   rintro F h ⟨mf,Zav,Zir,Zaw,rfl,rfl⟩
   refine aE 25 (ZY 20 25 [0,1,2,3,4] [2,1] ?_)
   obtain ⟨x6,CH⟩:=Zu e.kids k om
   have hekx6:=Dt hks CH
   have hszx6:=Cw CH
   have htzx6:=By CH
   rw [Wr] at hekx6
   rw [Zaw] at hekx6
   have htk:=AQ (xs:=e.kids) (k+1)
   have hbl:=FM cs
   refine dx 5 (Zi none (k:Int) 3 (Dn CH)) (ZY 7 19 [6,7,8,9,10,11,12,15,16,17,18,19] [0,0] (da 20 ((((q+Yv ys3)+mf:Nat):Int)) (((((q+Yv ys3):Nat):Int))+((mf:Int))) (Z9 13 (dc 13 [] [0,1,2] [l,b2,b1] (Lc (q+Yv ys3) mf) ?_))))
   rintro _ _ ⟨xs1,rfl,rfl,X3⟩
   have hnx:=X3
   refine Z9 14 (dc 14 [] [0,1,2] [l,b2,b1] (TF us xs1) ?_)
   rintro _ _ ⟨v8,rfl,rfl⟩
   refine Yw 4 4 [] [(98,Z4 (us++xs1))] (Z9 21 (dc 21 [] [] [] (P5 g x6 (us++xs1) ((q+Yv ys3)+mf) e.sz (he:=(by rw [Yr,hnx.1];exact hekx6)) (hu:=(Zhr hu hnx.2)) (hul:=(by rw [Yr,hnx.1];omega)) (hql:=om) (ih:=ih)) ?_))
   rintro _ _ ⟨b3,rfl,rfl,Xf⟩
   have hlb:=Xf
   exact Z9 22 (WL 22 [] [] [Yn b3] (XU [b3]) (QV [b3]).symm 1 2 fun v9=>Yw 2 2 [] [(106,JF [b3])] (Z9 23 (dp 23 5 [] [] (XU (cs++[b3])) (XU cs) (XU [b3]) u none 2 (KU _) (KU _) (G3 _) (by simp<;>omega) (by simp [Cr,XU]) fun v10=>Zs 0 1 [24] (de (az (Z0 1 (ZE k (Z1 (ZH ⟨k+1,(cs++[b3]),v10,ob,ob,(Ok ZA (by rw [Zav];exact hlb.1)),(by have:=hlb.2;rw [FL,Yr];simp only [YX,Yp,YZ];omega),(RC Wp hlb.op),rfl,rfl,rfl⟩ (wk [3,3,3,0,2] (fw (ZL k fl))))))))))))
  refine ax 1 (Zq 6 [1,1] (iL (Z7 [v5]) 1 1 fun v11=>ZT 2 [(116,.agg [.i e.op,.i e.num,.i 0,Z4 [v5],JF cs])] (ic [1,4] (OV l (xs++ys3) w23 (q+Yv ys3) (Z6.mk e.op e.num 0 [v5] cs) (hl:=(by first|(have h1:=Jd zs;have h2:=AQ (xs:=e.kids) k;have h3:=AL zs;(try simp only [Yr]);omega)|((try simp only [Yr]);omega))) (hq:=(by first|(have h1:=Jd zs;have h2:=AQ (xs:=e.kids) k;have h3:=AL zs;(try simp only [Yr]);omega)|((try simp only [Yr]);omega)))) ?_)))
  rintro _ _ ⟨w24,rfl,rfl⟩
  refine Z1 ?_
  have hcb:YQ e.op=false:=by simp [YQ];omega
  exact ZU (r1 [0,0] ⟨(ys3++[Z6.mk e.op e.num 0 [v5] cs]),(((q+Yv ys3):Nat):Int),w24,rfl,rfl,(LW.branch (s0:=x4.sz) (sr:=XG (e.kids.take k)-x4.sz) om (fun h=>by have:=h7 h;omega) (fun h=>by have:=h8 h;omega) hnum hlwhp3.fs hlwhp3.v ZA om hlwhp3.sz (by have:=FM cs;omega) (by have:=AQ (xs:=e.kids) k;omega) hlwhp3.op Wp)⟩ (eq:=(ro (ls:=[Xl ((xs++ys3)++[(Z6.mk e.op e.num 0 [v5] cs)]) w24,.i ((((q+Yv ys3)+1):Nat):Int)]) (by rw [Eu (s:=Z6.mk e.op e.num 0 [v5] cs) hcb,<-Aw,U3]) (rc rz))))
 refine ak (ar (iL (Z7 []) 0 1 fun v12=>?_))
 refine Z1 (Y4 (ab 3 (Y5 (fun fz gz m F h=>∃(k:Nat) (asl:LI) (u:Value) (zs:List Z6) (w3:Value),(k<=e.kids.length)/\(asl.length=k)/\(Wg g.decls g.funcs.length q zs)/\(∀a∈asl,0<=a/\a<((q+Yv zs:Nat):Int))/\(Yx zs<=6*XG (e.kids.take k))/\(Q5 WW zs)/\F=sF [0,3,5,6] fz [(15,ZP asl u),(16,.i k)]/\h=[Zj gz 1,Zj gz 2,.obj l [Xl (xs++zs) w3,.i (((q+Yv zs):Nat):Int)],.tail u 1,.tail w3 5]/\m=e.kids.length-k) _ _ _ ⟨0,[],v12,[],w,ob,ob,True.intro,(fun a ha=>by cases ha),(by simp [Yx]),True.intro,rfl,rfl,rfl⟩ (wk [1,1,1,0,0] (fr (Yg fl)) (e:=(rc (rc (ro (ls:=[Xl xs w,.i q]) (by simp [Yv]) (rc (rc rz))))))) ?_)))
 rintro m F h ⟨k,asl,u,zs,w3,Ui,W4,XV,Ij,Zif,NI,rfl,rfl,rfl⟩
 refine Yt 3 [0] (iw (IF e.kids) (Y0 ((k:Int)<(e.kids.length:Int)) (fun WI=>?_) (fun WI=>?_)))
 ·refine ak (aq (ab 4 (aD 10 (ZY 5 10 [0,1,2,3,4] [1,0] ?_))))
  obtain ⟨x7,Gw⟩:=Zu e.kids k om
  have hzl:=Jd zs
  have hzd:=AL zs
  have htk:=AQ (xs:=e.kids) (k+1)
  have hekx7:=Dt hks Gw
  have hszx7:=Cw Gw
  have htzx7:=By Gw
  rw [Wr] at hekx7
  rw [Z07 om] at hekx7
  refine dx 5 (Zi none (k:Int) 3 (Dn Gw)) (Zs 2 4 [6,7] (Z9 8 (dc 8 [2,3] [] [] (ih l x7 us (xs++zs) w3 (q+Yv zs) (by first|assumption|(rw [Yr];assumption)) (by first|assumption|exact Fp hu hlwhp1.v|exact HL hu) (by first|omega|(simp only [Yr,Yp,YZ];omega)) (by first|omega|(simp only [Yr,Yp,YZ];omega)) ob ob) ?_)))
  rintro _ _ ⟨ys4,v13,w25,rfl,rfl,XS⟩
  have hlwhp6:=XS
  have hldhp6:=XS.dn
  exact Zs 0 1 [9] (de (az (Z0 2 (iL (Z7 [v13]) 1 1 fun v14=>ZT 0 [(137,Z4 [v13])] (ip 5 (Z7 (asl++[v13])) (Z7 asl) (Z7 [v13]) u none 1 (YH _) (YH _) (Wb _) (by simp<;>omega) (by simp [Wa,Z7]) fun v15=>Z1 (az (Z0 1 (ZE k (Z1 (ZH ⟨k+1,(asl++[v13]),v15,(zs++ys4),w25,ob,ob,(Ab.2 ⟨XV,hlwhp6.fs⟩),(by rw [Tb,<-Aw];exact Fp Ij hlwhp6.v),(by have:=hlwhp6.sz;rw [Qa];omega),(H7.2 ⟨NI,hlwhp6.op⟩),rfl,rfl,rfl⟩ (wk [4,4,2,0,1] (fr (ZL k fl)) (e:=(rc (rc (ro (ls:=[Xl ((xs++zs)++ys4) w25,.i ((((q+Yv zs)+Yv ys4):Nat):Int)]) (by rw [Tb,<-Aw,U3]) (rc (rc rz)))))))))))))))))
 refine ax 3 (Zq 6 [0,0] (iL (XU []) 0 2 fun v16=>ZT 1 [(146,.agg [.i e.op,.i e.num,.i 0,Z4 asl,JF []])] (ic [3,4] (OV l (xs++zs) w3 (q+Yv zs) (Z6.mk e.op e.num 0 asl []) (hl:=(by first|(have h1:=Jd zs;have h2:=AQ (xs:=e.kids) k;have h3:=AL zs;(try simp only [Yr]);omega)|((try simp only [Yr]);omega))) (hq:=(by first|(have h1:=Jd zs;have h2:=AQ (xs:=e.kids) k;have h3:=AL zs;(try simp only [Yr]);omega)|((try simp only [Yr]);omega)))) ?_)))
 rintro _ _ ⟨w26,rfl,rfl⟩
 refine Z1 ?_
 have hcb:YQ e.op=false:=by simp [YQ];omega
 exact ZU (r1 [0,0] ⟨(zs++[Z6.mk e.op e.num 0 asl []]),(((q+Yv zs):Nat):Int),w26,rfl,rfl,(LW.node om h9 hnum XV Ij om (by have:=AQ (xs:=e.kids) k;omega) NI)⟩ (eq:=(ro (ls:=[Xl ((xs++zs)++[(Z6.mk e.op e.num 0 asl [])]) w26,.i ((((q+Yv zs)+1):Nat):Int)]) (by rw [Eu (s:=Z6.mk e.op e.num 0 asl []) hcb,<-Aw,<-U3]) (rc rz))))
theorem Z8p (l:Nat) (g:Wd) (e:Z2) (us:LI) (xs:List Z6) (w:Value) (q:Nat) (hd:GD g.decls) (he:eW g.decls g.funcs.length us.length e) (hu:∀a∈us,0<=a/\a<(q:Int)) (hul:us.length+4*e.sz<=100000) (hxl:xs.length+6*e.sz<=100000) (hql:q+6*e.sz<=100000):Zp 207 [.p l 0,AE g,Y9 e,Z4 us] [.obj l [Xl xs w,.i q],.tail w 5] (fun r h=>∃(ys:List Z6) (v:Int) (w2:Value),r=.i v/\h=[.obj l [Xl (xs++ys) w2,.i (((q+Yv ys):Nat):Int)],.tail w2 5]/\LW g.decls g.funcs.length q e ys v):=by
 have key:∀k:Nat,∀(l:Nat) (e2:Z2) (us2:LI) (xs2:List Z6) (w2:Value) (q2:Nat),(eW g.decls g.funcs.length us2.length e2)->(∀a∈us2,0<=a/\a<(q2:Int))->(us2.length+4*e2.sz<=100000)->(xs2.length+6*e2.sz<=100000)->(q2+6*e2.sz<=100000)->(e2.sz<k)->Zp 207 [.p l 0,AE g,Y9 e2,Z4 us2] [.obj l [Xl xs2 w2,.i q2],.tail w2 5] (fun r h=>∃(ys:List Z6) (v:Int) (w2:Value),r=.i v/\h=[.obj l [Xl (xs2++ys) w2,.i (((q2+Yv ys):Nat):Int)],.tail w2 5]/\LW g.decls g.funcs.length q2 e2 ys v):=by
  intro k
  induction k with
  | zero=>intro l e2 us2 xs2 w2 q2 h1 h2 h3 h4 h5 h6;omega
  | succ k ih=>intro l e2 us2 xs2 w2 q2 h1 h2 h3 h4 h5 h6;exact Z8q l g e2 us2 xs2 w2 q2 hd h1 h2 h3 h4 h5 fun l e3 us3 xs3 w3 q3 a1 a2 a3 a4 a5 a6=>ih l e3 us3 xs3 w3 q3 a1 a2 a3 a4 a5 om
 exact key (e.sz+1) l e us xs w q he hu hul hxl hql om
theorem Lb (g:Wd) (e:Z2) (us:LI) (q:Nat) (hd:GD g.decls:=by exact ob) (he:eW g.decls g.funcs.length us.length e:=by exact ob) (hu:∀a∈us,0<=a/\a<(q:Int)) (hul:us.length+4*e.sz<=100000:=by exact ob) (hql:q+6*e.sz<=100000:=by exact ob):Zp 179 [AE g,Y9 e,Z4 us,.i q] [] (fun r h=>∃(b:Z8),r=Yn b/\h=[]/\LB g.decls g.funcs.length q e b):=(P5 g e us q (e.sz+1) he hu hul hql om (fun l e2 us2 xs2 w2 q2 h1 h2 h3 h4 h5 _=>Z8p l g e2 us2 xs2 w2 q2 hd h1 h2 h3 h4 h5))
theorem Bb (ds:List Zf) (hd:XF ds:=by exact ob):Zp 108 [Yf ds] [] (Yu (Yf ds)):=by
 have hdl:=hd.len
 refine ZG 55 Tryz.func108 (Y8 (ar (iL (YW []) 0 3 fun v1=>?_)))
 refine Z1 (Y4 (ab 0 (Y5 (fun fz gz m F h=>∃(k:Nat) (v:Value),(k<=ds.length)/\F=sF [0] fz [(3,KD (ds.take k) v),(4,.i k)]/\h=[.tail v 3]/\m=ds.length-k) _ _ _ ⟨0,v1,ob,rfl,rfl,rfl⟩ (wk [0] (fc (x:=KD [] v1) (Ze.slh _ (Yj YW rfl)) (Yg fl))) ?_)))
 rintro m F h ⟨k,v,Yi,rfl,rfl,rfl⟩
 refine YP 2 (iw (UF ds) (Y0 ((k:Int)<(ds.length:Int)) (fun Za=>?_) (fun Za=>?_)))
 ·obtain ⟨xd,hxd⟩:=Zu ds k om
  have hcl:=hd.cons_at hxd
  refine ak (aq (ab 1 (ar (iL (Ww []) 0 1 fun v2=>?_))))
  refine Z1 (Y4 (ab 2 (Y5 (fun fz gz m F h=>∃(j:Nat) (u:Value),(j<=xd.cons.length)/\F=sF [0,3,4] fz [(5,DS (xd.cons.take j) u),(6,.i j)]/\h=[.tail u 1,Zj gz 1]/\m=xd.cons.length-j) _ _ _ ⟨0,v2,ob,rfl,rfl,rfl⟩ (wk [0,0] (fc (x:=DS [] v2) (Ze.slh _ (Yj Ww rfl)) (Yg fl))) ?_)))
  rintro m F h ⟨j,u,Ui,rfl,rfl,rfl⟩
  refine YP 3 (Zm (Zi none (k:Int) 3 (VG hxd)) (Z0 2 (iw (Tc xd.cons) (Y0 ((j:Int)<(xd.cons.length:Int)) (fun Zh=>?_) (fun Zh=>?_)))))
  ·refine ak (aq (ab 3 (az (Z0 3 (Zm (Zi none (k:Int) 3 (VG hxd)) (Z0 3 ?_))))))
   obtain ⟨x1,Z3⟩:=Zu xd.cons j om
   have hfl:=hd.fields_at hxd Z3
   refine Zm (Zi none (j:Int) 1 (Cs Z3)) (Z0 2 (ic [] (WQ x1.fields) ?_))
   rintro _ _ ⟨v3,rfl,rfl⟩
   exact ZT 1 [(36,Da x1)] (iL (Ww [x1]) 1 1 fun v4=>ZT 0 [(37,K5 [x1])] (ip 2 (Ww (xd.cons.take (j+1))) (Ww (xd.cons.take j)) (Ww [x1]) u none 1 (Ev _) (Ev _) (O5 _) (by simp<;>omega) (by rw [Vg Z3];simp [Ww]) fun v5=>Z1 (az (Z0 1 (ZE j (Z1 (ZH ⟨j+1,v5,ob,rfl,rfl,rfl⟩ (wk [0,2] (fr (ZL j fl))))))))))
  exact ax 2 (aE 16 (Zs 13 16 [0,1,2] (dx 3 (Zi none (k:Int) 3 (VG hxd)) (Zs 8 12 [4,5,6,7] (dx 8 (Zi none (k:Int) 3 (VG hxd)) (Yw 3 7 [9,10,11,12] [(51,.agg [.i xd.frm,.i xd.to_,K5 (xd.cons.take j)])] (Z9 13 (dL 13 [] [] (YW [Zf.mk xd.frm xd.to_ (xd.cons.take j)]) 1 3 fun v6=>Yw 2 2 [] [(52,Yf [Zf.mk xd.frm xd.to_ (xd.cons.take j)])] (Z9 14 (dp 14 2 [] [] (YW (ds.take (k+1))) (YW (ds.take k)) (YW [Zf.mk xd.frm xd.to_ (xd.cons.take j)]) v none 3 (Kr _) (Kr _) (Ew _) (by simp<;>omega) (by rw [Vg hxd];simp [YW,WR (show xd.cons.length<=j by omega)]) fun v7=>Zs 0 1 [15] (de (az (Z0 1 (ZE k (Z1 (ZH ⟨k+1,v7,ob,rfl,rfl,rfl⟩ (wk [0] (fr (ZL k fl)))))))))))))))))))
 exact ax 0 (ar (Zl (ZJ (KD (ds.take k) v) (Ze.sl _ (Yj YW (by rw [WR om]))))))
theorem Z8x (g:Wd) (hg:HW g:=by exact ob):Zp 165 [AE g] [] (fun r h=>∃(n:ZF),r=YF n/\h=[]/\FO n 181 WW):=by
 have hgl:=hg.gp.len
 have Xu:=hg.gp.decls.ok
 refine ZG 49 Tryz.func165 (ar (iA (LM g) fun b1=>iA [nl,nl] fun b2=>ie (Zq 2 [1] (Zt [] (Bb g.decls) (iL (Xd []) 0 5 fun v1=>Z0 1 (iA [nl,nl] fun b3=>?_))))))
 refine ZB 0 b3 [Yf g.decls,V1 [] v1] (ie (Y4 (ab 0 (Y5 (fun fz gz m F h=>∃(k:Nat) (rs:List YC) (u:Value),(k<=g.funcs.length)/\(rs.length=k)/\(∀r∈rs,RN g.decls g.funcs.length r)/\F=sF [1,2,3] fz [(4,.i k)]/\h=[.obj b3 [Yf g.decls,V1 rs u],Zj gz 2,Zj gz 3,.tail u 5]/\m=g.funcs.length-k) _ _ _ ⟨0,[],v1,ob,ob,(fun r hr=>by cases hr),rfl,rfl,rfl⟩ (wk [0,1,1,0] (Yg fl)) ?_))))
 rintro m F h ⟨k,rs,u,Yi,Zk,ZA,rfl,rfl,rfl⟩
 refine Yt 3 [2] (iw (Do g.funcs) (Y0 ((k:Int)<(g.funcs.length:Int)) (fun Za=>?_) (fun Za=>?_)))
 ·refine ak (aq (ab 1 (Zq 3 [2] ?_)))
  obtain ⟨x1,Z3⟩:=Zu g.funcs k om
  have hso:=(hg.gp.sigs _ (Y3 Z3)).bd
  have hsi:=hg.gp.sigs _ (Y3 Z3)
  have hbo:=hg.body _ (Y3 Z3)
  refine Zm (Zi none (k:Int) 5 (G4 Z3)) (Z0 1 (iA [nl,.i 0,.i 0,.i 0,nl] fun b4=>?_))
  refine ZB 0 b4 (GN x1) (ie (Zq 2 [0] (iw (Yb x1.params) (Z1 (aD 9 (ZY 4 9 [0,1,2,3,5] [3,0] (Bu (fun fz gz F h=>∃(b5:Z8) (b6:Nat) (xs1:LI),(xs1.length=x1.params.length/\∀i∈xs1,(0:Int)<=i/\i<(0:Int)+x1.params.length)/\(LB g.decls g.funcs.length x1.params.length x1.body b5)/\F=sF [1,2,3,4,5] fz [(7,.p b6 0)]/\h=[.obj b6 (W3 b5),Zj gz 0,Zj gz 1,Zj gz 2,Zj gz 3,Zj gz 4]) ?_ ?_)))))))
  ·refine Uo 4 7 ?_ ?_
   ·refine dc 4 [] [0,3] [b4,b1] (Lc 0 x1.params.length) ?_
    rintro _ _ ⟨xs1,rfl,rfl,Y7⟩
    have hnx:=Y7
    refine Uo 6 7 ?_ ?_
    ·refine dc 6 [] [] [] (Lb g x1.body xs1 x1.params.length (hd:=hg.gp.decls) (he:=(by rw [hnx.1];exact hbo.1)) (hu:=(fun a ha=>by have:=hnx.2 a ha;omega))) ?_
     rintro _ _ ⟨b5,rfl,rfl,Ym⟩
     have hlb:=Ym
     exact Z9 7 (dA 7 [] [] [nl,.i 0] fun b6=>Z9 8 (X5 8 0 [] [] b6 (W3 b5) (de (ZI ⟨_,b6,_,(by assumption),(by assumption),rfl,rfl⟩ (Zx 6 fl)))))
    refine dA 7 [0,3] [b4,b1] [nl,.i 0] fun b7=>Z9 6 (dc 6 [] [] [] (Lb g x1.body xs1 x1.params.length (hd:=hg.gp.decls) (he:=(by rw [hnx.1];exact hbo.1)) (hu:=(fun a ha=>by have:=hnx.2 a ha;omega))) ?_)
    rintro _ _ ⟨b8,rfl,rfl,YL⟩
    have hlb:=YL
    exact Z9 8 (X5 8 0 [] [] b7 (W3 b8) (de (ZI ⟨_,b7,_,(by assumption),(by assumption),rfl,rfl⟩ (Zx 6 fl))))
   refine dA 7 [0,3] [b4,b1] [nl,.i 0] fun b9=>Z9 4 (dc 4 [] [1,4] [b4,b1] (Lc 0 x1.params.length) ?_)
   rintro _ _ ⟨xs2,rfl,rfl,X3⟩
   have hnx:=X3
   refine Z9 6 (dc 6 [] [] [] (Lb g x1.body xs2 x1.params.length (hd:=hg.gp.decls) (he:=(by rw [hnx.1];exact hbo.1)) (hu:=(fun a ha=>by have:=hnx.2 a ha;omega))) ?_)
   rintro _ _ ⟨b10,rfl,rfl,Xf⟩
   have hlb:=Xf
   exact Z9 8 (X5 8 0 [] [] b9 (W3 b10) (de (ZI ⟨_,b9,_,(by assumption),(by assumption),rfl,rfl⟩ (Zx 6 fl))))
  rintro F h ⟨b5,b6,xs1,Y7,Ym,rfl,rfl⟩
  have hnx:=Y7
  have hlb:=Ym
  refine aE 14 (ZY 7 14 [0,1,2,3,6,7,8] [2,1,1,0] (Uo 4 5 ?_ ?_))
  ·refine dc 4 [] [0,1,2] [b6,b4,b3] (WQ x1.params) ?_
   rintro _ _ ⟨v2,rfl,rfl⟩
   exact Z9 5 (dL 5 [0,1,2] [b6,b4,b3] (Z7 []) 0 1 fun v3=>Yw 4 5 [9] [(44,.agg [Z4 x1.params,Z4 [],.i x1.result,Vt b5.steps,.i b5.result])] (Z9 10 (dL 10 [2] [b3] (Xd [YC.mk x1.params [] x1.result (Z8.mk b5.steps b5.result)]) 1 5 fun v4=>Yw 3 3 [] [(45,JH [YC.mk x1.params [] x1.result (Z8.mk b5.steps b5.result)])] (Z9 11 (dp 11 8 [] [] (Xd (rs++[YC.mk x1.params [] x1.result (Z8.mk b5.steps b5.result)])) (Xd rs) (Xd [YC.mk x1.params [] x1.result (Z8.mk b5.steps b5.result)]) u none 5 (Te _) (Te _) (Bx _) (by simp<;>omega) (by simp [Dr,Xd]) fun v5=>Zs 1 2 [12] (Z9 13 (X5 13 6 [] [] b3 [Yf g.decls,V1 (rs++[YC.mk x1.params [] x1.result (Z8.mk b5.steps b5.result)]) v5] (de (az (Z0 1 (ZE k (Z1 (ZH ⟨k+1,(rs++[YC.mk x1.params [] x1.result (Z8.mk b5.steps b5.result)]),v5,ob,ob,(XI ZA (RN.of hsi hlb hbo.2)),rfl,rfl,rfl⟩ (wk [0,6,6,0] (ZL k fl)))))))))))))))
  refine dL 5 [0,1,1,2] [b6,b4,b4,b3] (Z7 []) 0 1 fun v6=>Z9 4 (dc 4 [] [0,1,2] [b6,b4,b3] (WQ x1.params) ?_)
  rintro _ _ ⟨v7,rfl,rfl⟩
  exact Yw 4 5 [9] [(44,.agg [Z4 x1.params,Z4 [],.i x1.result,Vt b5.steps,.i b5.result])] (Z9 10 (dL 10 [2] [b3] (Xd [YC.mk x1.params [] x1.result (Z8.mk b5.steps b5.result)]) 1 5 fun v8=>Yw 3 3 [] [(45,JH [YC.mk x1.params [] x1.result (Z8.mk b5.steps b5.result)])] (Z9 11 (dp 11 8 [] [] (Xd (rs++[YC.mk x1.params [] x1.result (Z8.mk b5.steps b5.result)])) (Xd rs) (Xd [YC.mk x1.params [] x1.result (Z8.mk b5.steps b5.result)]) u none 5 (Te _) (Te _) (Bx _) (by simp<;>omega) (by simp [Dr,Xd]) fun v9=>Zs 1 2 [12] (Z9 13 (X5 13 6 [] [] b3 [Yf g.decls,V1 (rs++[YC.mk x1.params [] x1.result (Z8.mk b5.steps b5.result)]) v9] (de (az (Z0 1 (ZE k (Z1 (ZH ⟨k+1,(rs++[YC.mk x1.params [] x1.result (Z8.mk b5.steps b5.result)]),v9,ob,ob,(XI ZA (RN.of hsi hlb hbo.2)),rfl,rfl,rfl⟩ (wk [0,6,6,0] (ZL k fl))))))))))))))
 exact ax 0 (Zq 1 [0] (ZB 1 b2 [Yf g.decls,V1 rs u] (ie (ZU (r3 [] [.agg [Yf g.decls,V1 rs u]] [0] [(b2,b2)] ⟨(ZF.mk g.decls rs),rfl,rfl,(RN.all hg.gp.decls (by show 1<=rs.length/\rs.length<=4;omega) (by show ∀r∈rs,RN g.decls rs.length r;rw [show rs.length=g.funcs.length by omega];exact ZA) om)⟩ (Ze.agg (.cons (lr _) (.cons (Ze.forget _ _) .nil))))))))
theorem Zgo (n:ZF) (hz:JR n:=by exact ob):Zp 171 [YF n] [] (Yu (.b (Ki n))):=by
 have hzl:=hz.len
 refine ZG 35 Tryz.func171 (ar (iA (Xb n) fun b1=>Z1 (Yt 1 [0] (Zt [] (Zgn n (hz:=hz.decls) (hr:=(fun r hr=>⟨hz.params r hr,hz.lent r hr⟩))) (Yy (!Ai n) (p:=¬(Ai n=true)) (Y1 Iff.rfl) (fun Za=>?_) (fun Za=>?_))))))
 ·exact ar (Zl (ZJ (.b false) (lb (by first|rfl|omega|grind [Ki]))))
 have hok:=Rs hz (by simpa using Za)
 refine ak (Y4 (ab 0 (Y5 (fun fz gz m F h=>∃(k:Nat),(k<=n.routines.length)/\(Ba n (n.routines.drop k)=Ba n n.routines)/\F=sF [1] fz [(3,.i k)]/\h=gz/\m=n.routines.length-k) _ _ _ ⟨0,ob,ob,rfl,rfl,rfl⟩ (wk [0] (Yg fl)) ?_)))
 rintro m F h ⟨k,Yi,Zk,rfl,rfl,rfl⟩
 refine Yt 3 [0] (iw (Q2 n.routines) (Y0 ((k:Int)<(n.routines.length:Int)) (fun Zh=>?_) (fun Zh=>?_)))
 ·refine ak (aq (ab 1 (Zq 3 [0] ?_)))
  obtain ⟨x1,Z3⟩:=Zu n.routines k om
  have ZK:=hz.body _ (Y3 Z3)
  have hps:=hok.params_at Z3
  refine Zm (Zi none (k:Int) 5 (VN Z3)) (Z0 1 (iA [nl,nl,.i 0,nl,.i 0] fun b2=>ZB 0 b2 (JB x1) (ie (aD 15 (ZY 13 15 [0,1] [0] (Z9 2 (YI 2 [] [] [] (Zge x1.body) (Bt [1,3] [(34,.b ((decide ((Be x1.body)<0))||((W9 n x1.params x1.body) != x1.result)))] (fun gz=>gz) ?_ ?_))))))))
  ·refine Zs 10 12 [3,4] (db (b:=(decide ((Be x1.body)<0))) 24 (fun Zd=>?_) (fun Zd=>?_))
   ·exact Zs 0 10 [5,6,7,8,9,10,11,12,13,14] (de (wk [0,0] (Zo true Zd fl)))
   exact ZY 3 10 [5,6,7,8,9,11,12] [1,0,0,0] (Z9 10 (YI 10 [] [0] [b2] (Z0q n x1.params x1.body ob ob) (Zs 0 2 [13,14] (de (wk [0,0] (Zo ((W9 n x1.params x1.body) != x1.result) Zd fl))))))
  refine ac ((decide ((Be x1.body)<0))||((W9 n x1.params x1.body) != x1.result)) (p:=((Be x1.body)<0)∨((W9 n x1.params x1.body)≠x1.result)) (Zz dq Ys) (fun ZC=>?_) (fun ZC=>?_)
  ·refine Y8 ?_
   rw [Yh Z3] at Zk
   exact ZU (ZJ (.b false) (lb (by clear Z3;first|rfl|omega|grind [Ba,Ki])))
  refine ak (az (Z0 1 (ZE k (Z1 ?_))))
  have hdr:=Yh Z3
  exact ZH ⟨k+1,ob,(by rw [hdr] at Zk;clear hdr Z3;grind [Ba]),rfl,rfl,rfl⟩ (wk [1] (ZL k fl))
 refine ax 0 (Y8 ?_)
 try rw [Xt (xs:=n.routines) (k:=k) om] at Zk
 exact ZU (ZJ (.b true) (lb (by first|rfl|omega|grind [Ba,Ki])))
theorem Z0t (op:Int) :Zp 238 [.i op] [] (Yu (.b (YQ op))):=by
 exact ZG 5 Tryz.func238 (Y8 (Ye 1 (Zt [] (Vb op 14 17) (Zl (ZJ (.b (decide (14<=op/\op<=17))) (lb (by first|rfl|omega|grind [YQ])))))))
theorem Z0r (op:Int) :Zp 248 [.i op] [] (Yu (.b (A5 op))):=by
 refine ZG 17 Tryz.func248 (Y8 (ar (YV 6 [0] [(8,.b ((op==6)||(op==9)))] (fun gz=>gz) ?_ (fun hj1=>?_))))
 ·refine YV 10 [0] [(12,.b (((op==6)||(op==9))||(op==10)))] (fun gz=>gz) ?_ (fun hj2=>?_)
  ·refine YV 14 [] [(16,.b ((((op==6)||(op==9))||(op==10))||(op==11)))] (fun gz=>gz) ?_ (fun hj3=>?_)
   ·exact Zl (ZJ (.b ((((op==6)||(op==9))||(op==10))||(op==11))) (lb (by first|rfl|omega|grind [A5])))
   refine Z0 1 (ib (b:=(((op==6)||(op==9))||(op==10))) 13 (fun Zd=>?_) (fun Zd=>?_))
   ·exact Z0 3 (ZX (wk [] (Zo true Zd fl)) hj3)
   exact Z0 3 (ZX (wk [] (Zo (op==11) Zd fl)) hj3)
  refine Z0 1 (ib (b:=((op==6)||(op==9))) 9 (fun ZD=>?_) (fun ZD=>?_))
  ·exact Z0 3 (ZX (wk [] (Zo true ZD fl)) hj2)
  exact Z0 3 (ZX (wk [] (Zo (op==10) ZD fl)) hj2)
 refine Z0 3 (ib (b:=(op==6)) 5 (fun Yk=>?_) (fun Yk=>?_))
 ·exact Z0 3 (ZX (wk [] (Zo true Yk fl)) hj1)
 exact Z0 3 (ZX (wk [] (Zo (op==9) Yk fl)) hj1)
theorem Fk (n:ZF) (s:Z6) (i:Nat) (hn:XA n:=by exact ob) (hnum:s.op=9->0<=s.num/\s.num<n.routines.length:=by exact ob):Zp 236 [YF n,X6 s,.i i] [] (Yu (.b (T2 n s.op s.num i))):=by
 refine ZG 21 Tryz.func236 (ar (iA (Xb n) fun b1=>iA (Wk s) fun b2=>Z1 (Zq 4 [0] (ib (b:=(s.op==9)) 10 (fun Zd=>?_) (fun Zd=>?_)))))
 ·have Y7:s.op=9:=(Zg).1 Zd
  refine Zy 4 [1,0] ?_
  obtain ⟨x1,Z3⟩:=Zu n.routines s.num.toNat om
  have hlt:=hn.lent_at Z3
  have hlr:=Zbo (n:=n) Y7 Z3
  exact Zm (Zi none s.num 5 (VN Z3)) (Z0 3 (Zt [] (US x1.lent (i:Int)) (Zl (ZJ (.b (decide ((i:Int)∈x1.lent))) (lb (by rw [T2,hlr]))))))
 have Ym:¬(s.op=9):=Y2 Zg Zd
 exact Zl (ZJ (.b false) (lb (by rw [T2,DN,Z5 Ym];simp)))
theorem HC (n:ZF) (us:LI) (s:Z6) (i:Nat) (a:Int) (hn:XA n:=by exact ob) (hnum:s.op=9->0<=s.num/\s.num<n.routines.length:=by exact ob) (ha:s.args[i]? = some a:=by exact ob) (hi:0<=a/\a<us.length:=by exact ob):Zp 231 [YF n,Z4 us,X6 s,.i i] [] (Yu (.b (Jp n us s.op s.num a i))):=by
 have hal:=(X9.1 ha).1
 refine ZG 30 Tryz.func231 (ar (iA (Xb n) fun b1=>iA (Wk s) fun b2=>Z1 (Zq 2 [0] (Zt [] (Z0r s.op) (Z0 1 (ib (b:=A5 s.op) 12 (fun Zd=>?_) (fun Zd=>?_)))))))
 ·refine Zy 4 [0] ?_
  obtain ⟨x1,Z3⟩:=Zu s.args i om
  have hxa:x1=a:=by rw [ha] at Z3;exact (Ax Z3).symm
  subst hxa
  refine Zm (Zi none (i:Int) 1 (Y6 Z3)) (Z0 1 ?_)
  obtain ⟨x2,Zv⟩:=Zu us x1.toNat om
  have hga:=Tj Zv
  refine Zm (Zi none x1 1 (Y6 Zv)) (Z0 4 (ib (b:=(x2 != 0)) 23 (fun ZD=>?_) (fun ZD=>?_)))
  ·exact Zy 3 [1,0] (Zt [] (Fk n s i) (Zl (ZJ (.b (!T2 n s.op s.num i)) (lb (by clear Z3 Zv;first|rfl|(rw [Jp];grind))))))
  exact Zl (ZJ (.b false) (lb (by clear Z3 Zv;first|rfl|(rw [Jp];grind))))
 exact Zl (ZJ (.b false) (lb (by  first|rfl|(rw [Jp];grind))))
theorem Z0y (xs:LI) (ys:LI) (hl_xs:xs.length<=4294967296:=by exact ob) (hl_ys:ys.length<=4294967296:=by exact ob):Zp 235 [Z4 xs,Z4 ys] [] (Yu (.b (decide (xs=ys)))):=by
 refine ZG 26 Tryz.func235 (Y8 (YP 1 (iw (Yb xs) (Z0 1 (iw (Yb ys) (Yy ((xs.length:Int) != (ys.length:Int)) Ys (fun Za=>?_) (fun Za=>?_)))))))
 ·exact ar (Zl (ZJ (.b false) (lb (eq_comm.1 (decide_eq_false (fun q=>by rw [q] at Za;exact Za rfl))))))
 refine ak (Y4 (ab 0 (Y5 (fun fz gz m F h=>∃(k:Nat),(k<=xs.length)/\(xs.take k=ys.take k)/\F=sF [0,1] fz [(5,.i k)]/\h=gz/\m=xs.length-k) _ _ _ ⟨0,ob,ob,rfl,rfl,rfl⟩ (wk [] (Yg fl)) ?_)))
 rintro m F h ⟨k,Yi,Zk,rfl,rfl,rfl⟩
 refine YP 2 (iw (Yb xs) (Y0 ((k:Int)<(xs.length:Int)) (fun Zh=>?_) (fun Zh=>?_)))
 ·refine ak (aq (ab 1 (aD 9 (Zs 7 9 [0,1] ?_))))
  obtain ⟨x1,Z3⟩:=Zu xs k om
  refine dx 2 (Zi none (k:Int) 1 (Y6 Z3)) (Zs 3 6 [3,4,5] ?_)
  obtain ⟨x2,Zv⟩:=Zu ys k om
  refine dx 6 (Zi none (k:Int) 1 (Y6 Zv)) (Zs 0 2 [7,8] (de (ac (x1 != x2) Ys (fun ZC=>?_) (fun ZC=>?_))))
  ·exact ar (Zl (ZJ (.b false) (lb (eq_comm.1 (decide_eq_false (fun q=>by subst q;rw [Z3] at Zv;cases Zv;exact ZC rfl))))))
  refine ak (az (Z0 1 (ZE k (Z1 ?_))))
  have hdr:=Yh Z3
  exact ZH ⟨k+1,ob,(by rw [Vg Z3,Vg Zv,Zk];have hxx:x1=x2:=om;rw [hxx]),rfl,rfl,rfl⟩ (wk [] (ZL k fl))
 exact ax 0 (ar (Zl (ZJ (.b true) (lb (eq_comm.1 (decide_eq_true (by rw [WR om,WR om] at Zk;exact Zk)))))))
theorem Bc (xs:LI) (hlen:xs.length<=4294967296:=by exact ob):Zp 48 [Z4 xs] [] (fun r h=>∃(v:Hd),r=.h v/\h=[rV v xs]):=by
 exact ZG 6 Tryz.func48 (Y8 (ar (iVL [] 0 fun v1=>Z0 1 (B1 0 v1 [] xs none fun v2=>Zl (r1 [0] ⟨v2,rfl,rfl⟩ (eq:=(rv (xs:=([]++xs)) ob rz)))))))
theorem Ky (b:Nat) (ga:Hd) (gb:Hd) (gc:Hd) (gd:Hd) (ge:Hd) (gf:Hd) (L:ZM) (ln:LI) (t:Int) (o:Int) (p:Int) (hlb:L.vars.length<=1000000000:=by exact ob) (hlk:Tv L:=by exact ob):Zp 194 [.p b 0,.i t,.i o,.i p] [.obj b [.h ga,.h gb,.h gc,.h gd,.h ge,.h gf,Z4 ln],rV ga L.vars,rV gb L.own,rV gc L.par,rV gd L.con,rV ge L.fst,rV gf L.tok] (fun r h=>∃(wa:Hd) (wb:Hd) (wc:Hd) (wd:Hd) (we:Hd) (wf:Hd),h=[.obj b [.h wa,.h wb,.h wc,.h wd,.h we,.h wf,Z4 ln],rV wa ((L.grow t o p).vars),rV wb ((L.grow t o p).own),rV wc ((L.grow t o p).par),rV wd ((L.grow t o p).con),rV we ((L.grow t o p).fst),rV wf ((L.grow t o p).tok)]):=by
 obtain ⟨e1,e2,e3,e4,e5⟩:=hlk
 exact ZG 65 Tryz.func194 (Zq 6 [0] (iL (Z7 [t]) 1 1 fun v1=>ZT 0 [(14,Z4 [t])] (B1 2 ga L.vars [t] none fun v2=>Z0 2 (ZB 2 b [.h v2,.h gb,.h gc,.h gd,.h ge,.h gf,Z4 ln] (ie (Zq 6 [0] (iL (Z7 [o]) 1 1 fun v3=>ZT 0 [(24,Z4 [o])] (B1 4 gb L.own [o] none fun v4=>Z0 2 (ZB 2 b [.h v2,.h v4,.h gc,.h gd,.h ge,.h gf,Z4 ln] (ie (Zq 6 [0] (iL (Z7 [p]) 1 1 fun v5=>ZT 0 [(34,Z4 [p])] (B1 6 gc L.par [p] none fun v6=>Z0 2 (ZB 2 b [.h v2,.h v4,.h v6,.h gd,.h ge,.h gf,Z4 ln] (ie (Zq 5 [0] (iL (Z7 [-1]) 1 1 fun v7=>ZT 0 [(43,Z4 [-1])] (B1 8 gd L.con [-1] none fun v8=>Z0 2 (ZB 2 b [.h v2,.h v4,.h v6,.h v8,.h ge,.h gf,Z4 ln] (ie (Zq 5 [0] (iL (Z7 [-1]) 1 1 fun v9=>ZT 0 [(52,Z4 [-1])] (B1 10 ge L.fst [-1] none fun v10=>Z0 2 (ZB 2 b [.h v2,.h v4,.h v6,.h v8,.h v10,.h gf,Z4 ln] (ie (az (Zy 5 [0] (iL (Z7 [-1]) 1 1 fun v11=>ZT 0 [(61,Z4 [-1])] (B1 12 gf L.tok [-1] none fun v12=>Z0 2 (ZB 2 b [.h v2,.h v4,.h v6,.h v8,.h v10,.h v12,Z4 ln] (ie (r2 [0,10,8,6,4,2,0] [] ⟨v2,v4,v6,v8,v10,v12,rfl⟩ (lr _) (eq:=(rc (rv (xs:=(L.vars++[t])) ob (rv (xs:=(L.own++[o])) ob (rv (xs:=(L.par++[p])) ob (rv (xs:=(L.con++[-1])) ob (rv (xs:=(L.fst++[-1])) ob (rv (xs:=(L.tok++[-1])) ob rz))))))))))))))))))))))))))))))))))))))))
theorem Zbi (b:Nat) (ga:Hd) (gb:Hd) (gc:Hd) (gd:Hd) (ge:Hd) (gf:Hd) (L:ZM) (ln:LI) (hlb:L.vars.length<=1000000000:=by exact ob) (hlk:Tv L:=by exact ob) (hln:ln.length<=4294967296:=by exact ob):Zp 254 [.p b 0] [.obj b [.h ga,.h gb,.h gc,.h gd,.h ge,.h gf,Z4 ln],rV ga L.vars,rV gb L.own,rV gc L.par,rV gd L.con,rV ge L.fst,rV gf L.tok] (fun r h=>∃(c:Nat) (wa:Hd) (wb:Hd) (wc:Hd) (wd:Hd) (we:Hd) (wf:Hd),r=.p c 0/\h=[.obj c [.h wa,.h wb,.h wc,.h wd,.h we,.h wf,Z4 ln],rV wa L.vars,rV wb L.own,rV wc L.par,rV wd L.con,rV we L.fst,rV wf L.tok,.obj b [.h ga,.h gb,.h gc,.h gd,.h ge,.h gf,Z4 ln],rV ga L.vars,rV gb L.own,rV gc L.par,rV gd L.con,rV ge L.fst,rV gf L.tok]):=by
 obtain ⟨e1,e2,e3,e4,e5⟩:=hlk
 refine ZG 40 Tryz.func254 (Y8 (aD 38 (ZY 10 38 [0,1,2,3,5,6,7,8,10,11,12,13,15,16,17,18,20,21,22,23,25,26,27,28,30,31,32,33] [0,0,0,0,0,0,0] (Z9 4 (A6 4 [1] [0,0,0,0,0,0] [b,b,b,b,b,b] [rV ga L.vars] (Bc L.vars) Df (gL (v:=ga) 0 gN) (J5 Ag) ?_)))))
 rintro _ _ ⟨v1,rfl,rfl⟩
 refine Z9 9 (A6 9 [3] [0,0,0,0,0] [b,b,b,b,b] [rV gb L.own] (Bc L.own) Df (gL (v:=gb) 0 gN) (J5 Ag) ?_)
 rintro _ _ ⟨v2,rfl,rfl⟩
 refine Z9 14 (A6 14 [5] [0,0,0,0] [b,b,b,b] [rV gc L.par] (Bc L.par) Df (gL (v:=gc) 0 gN) (J5 Ag) ?_)
 rintro _ _ ⟨v3,rfl,rfl⟩
 refine Z9 19 (A6 19 [7] [0,0,0] [b,b,b] [rV gd L.con] (Bc L.con) Df (gL (v:=gd) 0 gN) (J5 Ag) ?_)
 rintro _ _ ⟨v4,rfl,rfl⟩
 refine Z9 24 (A6 24 [9] [0,0] [b,b] [rV ge L.fst] (Bc L.fst) Df (gL (v:=ge) 0 gN) (J5 Ag) ?_)
 rintro _ _ ⟨v5,rfl,rfl⟩
 refine Z9 29 (A6 29 [11] [0] [b] [rV gf L.tok] (Bc L.tok) Df (gL (v:=gf) 0 gN) (J5 Ag) ?_)
 rintro _ _ ⟨v6,rfl,rfl⟩
 refine Z9 34 (dc 34 [] [] [] (WQ ln) ?_)
 rintro _ _ ⟨v7,rfl,rfl⟩
 exact Yw 2 3 [35] [(38,.agg [.h v1,.h v2,.h v3,.h v4,.h v5,.h v6,Z4 ln])] (Z9 36 (dA 36 [] [] [.h v1,.h v2,.h v3,.h v4,.h v5,.h v6,Z4 ln] fun b1=>Zs 0 1 [37] (de (ZU (r1 [0,11,9,7,5,3,1,7,6,5,4,3,2,1] ⟨b1,v1,v2,v3,v4,v5,v6,rfl,rfl⟩)))))
theorem GS (b:Nat) (ga:Hd) (gb:Hd) (gc:Hd) (gd:Hd) (ge:Hd) (gf:Hd) (L:ZM) (ln:LI) (i:Int) (hlk:Tv L:=by exact ob) (hi:0<=i/\i<L.vars.length:=by exact ob) (hq:∀x∈L.own,0<=x/\x<=1000000000):Zp 195 [.p b 0,.i i] [.obj b [.h ga,.h gb,.h gc,.h gd,.h ge,.h gf,Z4 ln],rV ga L.vars,rV gb L.own,rV gc L.par,rV gd L.con,rV ge L.fst,rV gf L.tok] (fun r h=>(∃(wa:Hd) (wb:Hd) (wc:Hd) (wd:Hd) (we:Hd) (wf:Hd) (L':ZM),r=.b true/\h=[.obj b [.h wa,.h wb,.h wc,.h wd,.h we,.h wf,Z4 ln],rV wa L'.vars,rV wb L'.own,rV wc L'.par,rV wd L'.con,rV we L'.fst,rV wf L'.tok]/\Qb L i=some L')∨(r=.b false/\h=[]/\Qb L i=none)):=by
 obtain ⟨e1,e2,e3,e4,e5⟩:=hlk
 refine ZG 27 Tryz.func195 (Y8 (Yt 5 [0] (Zm (Uh 2 gb L.own i i.toNat (hq:=rfl)) ?_)))
 obtain ⟨x1,Z3⟩:=Zu L.own i.toNat om
 have hxq:=hq _ (Y3 Z3)
 have hgi:=Tj Z3
 refine Vz (Qv 2 gb L.own i.toNat x1 Z3) (Y0 (x1<1) (fun Za=>?_) (fun Za=>?_))
 ·exact ar (Zl (r1 [] (.inr ⟨rfl,rfl,(by rw [Qb,hgi,Zb Za])⟩)))
 exact ak (aD 15 (ZY 5 15 [0,1,2,3,4,5,6,7,8,9] [0,0] (dx 10 (Uh 2 gb L.own i i.toNat (hq:=rfl)) (Ua 11 (Qv 2 gb L.own i.toNat x1 Z3) (da 12 ((x1-1)) ((x1)-(1)) (dx 13 (Uh 2 gb L.own i i.toNat (hq:=rfl)) (Z9 14 (Cm 14 2 [] [] gb L.own i.toNat (x1-1) (de (ar (Zl (r1 [1,1,0,0,0,0,0] (.inl ⟨ga,gb,gc,gd,ge,gf,(ZM.mk L.vars (L.own.set i.toNat (x1-1)) L.par L.con L.fst L.tok),rfl,rfl,(by rw [Qb,hgi,Z5 Za])⟩) (eq:=(rc (rv (xs:=L.vars) ob (rv (xs:=(L.own.set i.toNat (x1-1))) ob (rv (xs:=L.par) ob (rv (xs:=L.con) ob (rv (xs:=L.fst) ob (rv (xs:=L.tok) ob rz))))))))))))))))))))
theorem GR (b:Nat) (ga:Hd) (gb:Hd) (gc:Hd) (gd:Hd) (ge:Hd) (gf:Hd) (L:ZM) (ln:LI) (i:Int) (hlk:Tv L:=by exact ob) (hln:ln.length<=4294967296:=by exact ob) (hi:0<=i/\i<L.vars.length:=by exact ob) (hd:∀j:Int,0<=j->j<L.vars.length->gI L.par j<j):Zp 151 [.p b 0,.i i] [.obj b [.h ga,.h gb,.h gc,.h gd,.h ge,.h gf,Z4 ln],rV ga L.vars,rV gb L.own,rV gc L.par,rV gd L.con,rV ge L.fst,rV gf L.tok] (fun r h=>r=.b (T9 L ln i)/\h=[.obj b [.h ga,.h gb,.h gc,.h gd,.h ge,.h gf,Z4 ln],rV ga L.vars,rV gb L.own,rV gc L.par,rV gd L.con,rV ge L.fst,rV gf L.tok]):=by
 obtain ⟨e1,e2,e3,e4,e5⟩:=hlk
 refine ZG 31 Tryz.func151 (Y8 (aq (ab 0 (Y5 (fun fz gz m F h=>∃(j:Int),(0<=j/\j<L.vars.length)/\(QR L.own L.par ln (j.toNat+1) j=T9 L ln i)/\F=sF [0] fz [(1,.i j)]/\h=gz/\m=j.toNat) _ _ _ ⟨i,ob,ob,rfl,rfl,rfl⟩ (Zx 7 fl) ?_))))
 rintro m F h ⟨j,Yi,Zk,rfl,rfl,rfl⟩
 refine Yt 5 [0] (Zm (Uh 2 gb L.own j j.toNat (hq:=rfl)) ?_)
 obtain ⟨x1,Z3⟩:=Zu L.own j.toNat om
 have hg1:=Tj Z3
 refine Vz (Qv 2 gb L.own j.toNat x1 Z3) (XC [0,1] [(21,.b ((decide (x1<1))&&(!(decide (j∈ln)))))] (fun gz=>gz) ?_ ?_)
 ·refine Z0 2 (ib (b:=(decide (x1<1))) 13 (fun Zd=>?_) (fun Zd=>?_))
  ·exact Zy 5 [0] (Zt [] (US ln j) (Z1 (Zx 7 (Zo (!(decide (j∈ln))) Zd fl))))
  exact Z1 (Zx 7 (Zo false Zd fl))
 refine ac ((decide (x1<1))&&(!(decide (j∈ln)))) (p:=(x1<1)/\(¬(j∈ln))) (YG dq (Y1 dq)) (fun Za=>?_) (fun Za=>?_)
 ·refine ak (ab 1 (Zq 5 [0] (Zm (Uh 3 gc L.par j j.toNat (hq:=rfl)) ?_)))
  obtain ⟨x2,Zv⟩:=Zu L.par j.toNat om
  have hg2:=Tj Zv
  have hdj:=hd j om om
  rw [hg2] at hdj
  refine Vz (Qv 3 gc L.par j.toNat x2 Zv) (Z1 (ar (Y0 (x2<0) (fun Zh=>?_) (fun Zh=>?_))))
  ·exact ar (Zl (r2 [0,0,0,0,0,0,0] [.b false] ⟨rfl,rfl⟩ (lb (Z2y hg1 hg2 Za Zh Zk))))
  exact ak (ZH ⟨x2,om,(Z2z hg1 hg2 Yi Za Zh hd Zk),rfl,rfl,rfl⟩ (Zx 7 fl))
 exact ax 0 (ar (Zl (r2 [0,0,0,0,0,0,0] [.b true] ⟨rfl,rfl⟩ (lb (Z30 hg1 Za Zk)))))
theorem PY (b:Nat) (ga:Hd) (gb:Hd) (gc:Hd) (gd:Hd) (ge:Hd) (gf:Hd) (L:ZM) (ln:LI) (mm:Nat) (hlk:Tv L:=by exact ob) (hlb:L.vars.length<=1000000000:=by exact ob) (hm:mm<=L.vars.length:=by exact ob):Zp 267 [.p b 0,.i mm] [.obj b [.h ga,.h gb,.h gc,.h gd,.h ge,.h gf,Z4 ln],rV ga L.vars,rV gb L.own,rV gc L.par,rV gd L.con,rV ge L.fst,rV gf L.tok] (fun r h=>(∃(wa:Hd) (wb:Hd) (wc:Hd) (wd:Hd) (we:Hd) (wf:Hd) (L':ZM),r=.b true/\h=[.obj b [.h wa,.h wb,.h wc,.h wd,.h we,.h wf,Z4 ln],rV wa L'.vars,rV wb L'.own,rV wc L'.par,rV wd L'.con,rV we L'.fst,rV wf L'.tok]/\Jq L mm=some L')∨(r=.b false/\h=[]/\Jq L mm=none)):=by
 obtain ⟨e1,e2,e3,e4,e5⟩:=hlk
 refine ZG 88 Tryz.func267 (Y8 (Y4 (ab 0 (Y5 (fun fz gz m F h=>∃(k:Nat),(mm<=k/\k<=L.vars.length)/\(C4 (L.own.drop k) (L.tok.drop k)=C4 (L.own.drop mm) (L.tok.drop mm))/\F=sF [0,1] fz [(5,.i k)]/\h=gz/\m=L.vars.length-k) _ _ _ ⟨mm,ob,ob,rfl,rfl,rfl⟩ (Zx 7 fl) ?_))))
 rintro m F h ⟨k,Yi,Zk,rfl,rfl,rfl⟩
 refine Yt 5 [0] (Zm (D4 1 ga L.vars) (Y0 ((k:Int)<(L.vars.length:Int)) (fun Za=>?_) (fun Za=>?_)))
 ·refine ak (aq (ab 1 (Zq 5 [0] (Zm (Uh 2 gb L.own (k:Int) k) ?_))))
  obtain ⟨x1,Z3⟩:=Zu L.own k om
  refine Vz (Qv 2 gb L.own k x1 Z3) (Z0 2 (ib (b:=(x1 != 0)) 24 (fun Zd=>?_) (fun Zd=>?_)))
  ·have Y7:x1≠0:=(Ys).1 Zd
   refine Z1 (Vo (Y8 ?_))
   obtain ⟨y2,hy2⟩:=Zu L.tok k om
   exact ZU (r1 [] (.inr ⟨rfl,rfl,(by rw [Jq,<-Zk,Yh Z3,Yh hy2,C4,Zb (show x1≠0∨0<=y2 by omega)];rfl)⟩))
  have Ym:¬(x1≠0):=Y2 Ys Zd
  refine Zy 5 [0] (Zm (Uh 6 gf L.tok (k:Int) k) ?_)
  obtain ⟨x2,Zv⟩:=Zu L.tok k om
  refine Vz (Qv 6 gf L.tok k x2 Zv) (Y0 (x2>=0) (fun Zh=>?_) (fun Zh=>?_))
  ·exact ar (Zl (r1 [] (.inr ⟨rfl,rfl,(by rw [Jq,<-Zk,Yh Z3,Yh Zv,C4,Zb (show x1≠0∨0<=x2 by omega)];rfl)⟩)))
  exact ak (az (Z0 1 (ZE k (Z1 (ZH ⟨k+1,ob,(by rw [Yh Z3,Yh Zv,C4,Z5 om] at Zk;exact Zk),rfl,rfl,rfl⟩ (Zx 7 (ZL k fl)))))))
 exact ax 0 (Zq 6 [0] (Zm (Ef 1 ga L.vars mm) (Z0 2 (Xm (Ec 1 mm ga L.vars) (ZB 1 b [.h (ga.cut mm),.h gb,.h gc,.h gd,.h ge,.h gf,Z4 ln] (ie (Zq 6 [0] (Zm (Ef 2 gb L.own mm) (Z0 2 (Xm (Ec 2 mm gb L.own) (ZB 1 b [.h (ga.cut mm),.h (gb.cut mm),.h gc,.h gd,.h ge,.h gf,Z4 ln] (ie (Zq 6 [0] (Zm (Ef 3 gc L.par mm) (Z0 2 (Xm (Ec 3 mm gc L.par) (ZB 1 b [.h (ga.cut mm),.h (gb.cut mm),.h (gc.cut mm),.h gd,.h ge,.h gf,Z4 ln] (ie (Zq 6 [0] (Zm (Ef 4 gd L.con mm) (Z0 2 (Xm (Ec 4 mm gd L.con) (ZB 1 b [.h (ga.cut mm),.h (gb.cut mm),.h (gc.cut mm),.h (gd.cut mm),.h ge,.h gf,Z4 ln] (ie (Zq 6 [0] (Zm (Ef 5 ge L.fst mm) (Z0 2 (Xm (Ec 5 mm ge L.fst) (ZB 1 b [.h (ga.cut mm),.h (gb.cut mm),.h (gc.cut mm),.h (gd.cut mm),.h (ge.cut mm),.h gf,Z4 ln] (ie (Zq 6 [0] (Zm (Ef 6 gf L.tok mm) (Z0 2 (Xm (Ec 6 mm gf L.tok) (ZB 1 b [.h (ga.cut mm),.h (gb.cut mm),.h (gc.cut mm),.h (gd.cut mm),.h (ge.cut mm),.h (gf.cut mm),Z4 ln] (ie (ar (Zl (r1 [0,5,4,3,2,1,0] (.inl ⟨(ga.cut mm),(gb.cut mm),(gc.cut mm),(gd.cut mm),(ge.cut mm),(gf.cut mm),(ZM.mk (L.vars.take mm) (L.own.take mm) (L.par.take mm) (L.con.take mm) (L.fst.take mm) (L.tok.take mm)),rfl,rfl,(by rw [Jq,Zb (by rw [<-Zk,Xt om];rfl)];rfl)⟩) (eq:=(rc (rv (xs:=(L.vars.take mm)) ob (rv (xs:=(L.own.take mm)) ob (rv (xs:=(L.par.take mm)) ob (rv (xs:=(L.con.take mm)) ob (rv (xs:=(L.fst.take mm)) ob (rv (xs:=(L.tok.take mm)) ob rz)))))))))))))))))))))))))))))))))))))))))))))))
theorem Zbk (b:Nat) (ga:Hd) (gb:Hd) (gc:Hd) (gd:Hd) (ge:Hd) (gf:Hd) (n:ZF) (s:Z6) (L:ZM) (ln:LI) (q:Int) (x:Int) (hn:XA n:=by exact ob) (hk:XN n.decls L q:=by exact ob) (hlb:L.vars.length<=1000000000:=by exact ob) (ha:s.args[0]? = some x:=by exact ob) (hx:0<=x/\x<L.vars.length:=by exact ob) (hq:0<=q/\q<=999999990:=by exact ob):Zp 196 [.p b 0,YF n,X6 s] [.obj b [.h ga,.h gb,.h gc,.h gd,.h ge,.h gf,Z4 ln],rV ga L.vars,rV gb L.own,rV gc L.par,rV gd L.con,rV ge L.fst,rV gf L.tok] (fun r h=>(∃(wa:Hd) (wb:Hd) (wc:Hd) (wd:Hd) (we:Hd) (wf:Hd) (L':ZM),r=.b true/\h=[.obj b [.h wa,.h wb,.h wc,.h wd,.h we,.h wf,Z4 ln],rV wa L'.vars,rV wb L'.own,rV wc L'.par,rV wd L'.con,rV we L'.fst,rV wf L'.tok]/\Aj n.decls L s.op x=some L')∨(r=.b false/\h=[]/\Aj n.decls L s.op x=none)):=by
 obtain ⟨e1,e2,e3,e4,e5⟩:=hk.len
 have Xu:=hn.decls
 have hal:=(X9.1 ha).1
 obtain ⟨xcon,hxcon⟩:=Zu L.con ((x).toNat) om
 have hgcon:=Tj hxcon
 obtain ⟨xtok,hxtok⟩:=Zu L.tok ((x).toNat) om
 have hgtok:=Tj hxtok
 obtain ⟨xfst,hxfst⟩:=Zu L.fst ((x).toNat) om
 have hgfst:=Tj hxfst
 have hfl:=Vp Xu xcon
 have har:=hk.arm x om om
 rw [hgcon,hgfst] at har
 refine ZG 105 Tryz.func196 (ar (iA (Xb n) fun b1=>iA (Wk s) fun b2=>Z1 (Zq 2 [0] (Zm (Zi none 0 1 (Y6 ha)) (Z1 (Yt 5 [2] (Zm (Uh 6 gd L.con x x.toNat (hq:=rfl)) (Vz (Qv 6 gd L.con x.toNat xcon hxcon) (YV 23 [0,4,5,7] [(36,.b ((decide (xcon<0))||((s.op==17)&&(decide (xtok>=0)))))] (fun gz=>gz) ?_ (fun hj1=>?_))))))))))
 ·refine Z0 1 (ib (b:=((decide (xcon<0))||((s.op==17)&&(decide (xtok>=0))))) 37 (fun Zd=>?_) (fun Zd=>?_))
  ·have Y7:(xcon<0)∨((s.op=17)/\(xtok>=0)):=((Zz dq (YG Zg dq))).1 Zd
   exact Z1 (Vo (ar (Zl (r1 [] (.inr ⟨rfl,rfl,(by rw [Aj,hgcon,hgtok,Zb om])⟩)))))
  have Ym:¬((xcon<0)∨((s.op=17)/\(xtok>=0))):=Y2 (Zz dq (YG Zg dq)) Zd
  refine Z0 2 (ic [2,2,2,2,2,2,2] (GS b ga gb gc gd ge gf L ln x (hlk:=hk.len) (hq:=(fun y hy=>⟨hk.nn y hy,by have:=hk.bd y hy;omega⟩))) ?_)
  rintro _ _ (⟨wa1,wb1,wc1,wd1,we1,wf1,L'1,rfl,rfl,YL⟩|⟨rfl,rfl,X3⟩)
  ·obtain ⟨t1,t2,t3,t4,t5,t6,t7⟩:=JL YL
   have hk1:=hk.take YL
   obtain ⟨f1,f2,f3,f4,f5⟩:=hk1.len
   have hxcon1:L'1.con[x.toNat]? = some xcon:=by rw [t4];exact hxcon
   have hvl:L'1.vars.length=L.vars.length:=by rw [t2]
   have har2:=har om
   have hxfst1:L'1.fst[x.toNat]? = some xfst:=by rw [t5];exact hxfst
   refine Z1 (VF (ak (aD 11 (ZY 4 11 [0,1,2,3,4,5,6] [8,0] (dx 7 (Uh 4 wd1 L'1.con x x.toNat (hq:=rfl)) (Ua 8 (Qv 4 wd1 L'1.con x.toNat xcon hxcon1) (Z9 9 (YI 9 [] [] [] (Qu n.decls xcon) (Zs 0 1 [10] (de (Y4 (ab 0 (Y5 (fun fz gz m F h=>∃(k:Nat) (o:LI),(k<=(ZO n.decls xcon).length)/\(o.length=L.vars.length)/\(∀y∈o,0<=y/\y<=q+k)/\(Qy o (xfst+k) ((ZO n.decls xcon).drop k)=Qy L'1.own xfst (ZO n.decls xcon))/\F=sF [0,5,7,8] fz [(9,.i k)]/\h=[Zj gz 0,Zj gz 1,rV wb1 o,Zj gz 3,Zj gz 4,Zj gz 5,Zj gz 6,Zj gz 7]/\m=(ZO n.decls xcon).length-k) _ _ _ ⟨0,L'1.own,ob,om,(by intro y hy;have h1:=hk1.nn y hy;have h2:=hk1.bd y hy;omega),(by rw [show xfst+((0:Nat):Int)=xfst by omega,C5]),rfl,rfl,rfl⟩ (Zx 8 (Yg fl)) ?_)))))))))))))
   rintro m F h ⟨k,o,Yi,Zk,ZA,YO,rfl,rfl,rfl⟩
   refine YP 2 (io (.i (((ZO n.decls xcon).length:Nat):Int)) (.i (((Z7 (ZO n.decls xcon)).length:Nat):Int)) (li (by rw [Yb])) (Y0 ((k:Int)<(((ZO n.decls xcon).length:Nat):Int)) (fun Za=>?_) (fun Za=>?_)))
   ·refine ak (aq (ab 1 (Ye 2 ?_)))
    obtain ⟨x1,Z3⟩:=Zu (ZO n.decls xcon) k om
    refine Zm (Zi none (k:Int) 1 (Y6 Z3)) (Yy (x1 != 0) Ys (fun Zh=>?_) (fun Zh=>?_))
    ·refine aE 31 (ZY 22 31 [0,1,2,3,4,5,6,7,8] [0,0] (dx 9 (Uh 5 we1 L'1.fst x x.toNat (hq:=rfl)) (Ua 10 (Qv 5 we1 L'1.fst x.toNat xfst hxfst1) (Zs 19 20 [11] (da 12 ((xfst+(k:Int))) ((xfst)+((k:Int))) (ZY 9 18 [13,14,15,16,17,18,19,20,21] [0,0] (dx 22 (Uh 5 we1 L'1.fst x x.toNat (hq:=rfl)) (Ua 23 (Qv 5 we1 L'1.fst x.toNat xfst hxfst1) (Zs 6 7 [24] (da 25 ((xfst+(k:Int))) ((xfst)+((k:Int))) (dx 26 (Uh 2 wb1 o (xfst+(k:Int)) ((xfst+(k:Int)).toNat) (hq:=rfl)) ?_)))))))))))
     obtain ⟨x2,Zv⟩:=Zu o ((xfst+(k:Int)).toNat) om
     have hy2:=ZA _ (Y3 Zv)
     exact Ua 27 (Qv 2 wb1 o ((xfst+(k:Int)).toNat) x2 Zv) (da 28 ((x2+1)) ((x2)+(1)) (dx 29 (Uh 2 wb1 o (xfst+(k:Int)) ((xfst+(k:Int)).toNat) (hq:=rfl)) (Z9 30 (Cm 30 2 [] [] wb1 o ((xfst+(k:Int)).toNat) (x2+1) (de (az (Z0 1 (ZE k (Z1 (ZH ⟨k+1,(o.set (xfst+(k:Nat)).toNat (x2+1)),ob,ob,(by intro y hy;first|(rcases JE hy with hy|rfl<;>first|(have:=ZA y hy;omega)|omega)|(have:=ZA y hy;omega)),(by rw [Yh Z3,Qy] at YO;first|(rw [Zb Zh,Tj Zv] at YO;rw [show xfst+((k+1:Nat):Int)=xfst+k+1 by omega];exact YO)|(rw [Z5 Zh] at YO;rw [show xfst+((k+1:Nat):Int)=xfst+k+1 by omega];exact YO)),rfl,rfl,rfl⟩ (wk [1,1,0,0,0,0,0,0] (ZL k fl) (e:=(rc (rc (rv (xs:=(o.set ((xfst+(k:Int)).toNat) (x2+1))) ob (rc (rc (rc (rc (rc rz))))))))))))))))))))
    exact ak (az (Z0 1 (ZE k (Z1 (ZH ⟨k+1,o,ob,ob,(by intro y hy;first|(rcases JE hy with hy|rfl<;>first|(have:=ZA y hy;omega)|omega)|(have:=ZA y hy;omega)),(by rw [Yh Z3,Qy] at YO;first|(rw [Zb Zh,Tj Zv] at YO;rw [show xfst+((k+1:Nat):Int)=xfst+k+1 by omega];exact YO)|(rw [Z5 Zh] at YO;rw [show xfst+((k+1:Nat):Int)=xfst+k+1 by omega];exact YO)),rfl,rfl,rfl⟩ (Zx 8 (ZL k fl)))))))
   refine ax 0 (Xe (WJ [7] (ac (s.op==17) Zg (fun ZC=>?_) (fun ZC=>?_))))
   ·refine az (Zy 6 [0] (io (.i (((ZO n.decls xcon).length:Nat):Int)) (.i (((Z7 (ZO n.decls xcon)).length:Nat):Int)) (li (by rw [Yb])) (Zm (Uh 6 wf1 L'1.tok x x.toNat (hq:=rfl)) (Lr 6 wf1 L'1.tok x.toNat (((ZO n.decls xcon).length:Nat):Int) (ie (Y8 ?_))))))
    have hof:o=Qy L'1.own xfst (ZO n.decls xcon):=by rw [<-YO,Xt om];rfl
    exact ZU (r1 [1,1,1,1,1,1,0] (.inl ⟨wa1,wb1,wc1,wd1,we1,wf1,(ZM.mk L'1.vars o L'1.par L'1.con L'1.fst (L'1.tok.set x.toNat (((ZO n.decls xcon).length:Nat):Int))),rfl,rfl,(by rw [Aj,hgcon,hgfst,hgtok,Z5 om,YL,hof,t6];simp [ZC,t2,t3,t4,t5])⟩) (eq:=(rc (rv (xs:=L'1.vars) ob (rv (xs:=o) ob (rv (xs:=L'1.par) ob (rv (xs:=L'1.con) ob (rv (xs:=L'1.fst) ob (rv (xs:=(L'1.tok.set x.toNat (((ZO n.decls xcon).length:Nat):Int))) ob rz)))))))))
   refine ak (Y8 ?_)
   have hof:o=Qy L'1.own xfst (ZO n.decls xcon):=by rw [<-YO,Xt om];rfl
   exact ZU (r1 [0,0,0,0,0,0,0] (.inl ⟨wa1,wb1,wc1,wd1,we1,wf1,(ZM.mk L'1.vars o L'1.par L'1.con L'1.fst L'1.tok),rfl,rfl,(by rw [Aj,hgcon,hgfst,hgtok,Z5 om,YL,hof,t6];simp [ZC,t2,t3,t4,t5])⟩) (eq:=(rc (rv (xs:=L'1.vars) ob (rv (xs:=o) ob (rv (xs:=L'1.par) ob (rv (xs:=L'1.con) ob (rv (xs:=L'1.fst) ob (rv (xs:=L'1.tok) ob rz)))))))))
  exact Z1 (Vo (ar (Zl (r1 [] (.inr ⟨rfl,rfl,(by rw [Aj,hgcon,hgtok,Z5 om,X3])⟩)))))
 refine Z0 2 (ib (b:=(decide (xcon<0))) 22 (fun ZD=>?_) (fun ZD=>?_))
 ·have Xf:xcon<0:=(dq).1 ZD
  exact Z0 14 (ZX (Zx 9 (Zo true ZD fl)) hj1)
 have XS:¬(xcon<0):=Y2 dq ZD
 refine Zy 4 [0] (ib (b:=(s.op==17)) 26 (fun Yk=>?_) (fun Yk=>?_))
 ·have Wh:s.op=17:=(Zg).1 Yk
  exact Zy 5 [2] (Zm (Uh 8 gf L.tok x x.toNat (hq:=rfl)) (Vz (Qv 8 gf L.tok x.toNat xtok hxtok) (Z0 3 (ZX (Zx 9 (Zo (decide (xtok>=0)) (And.intro ZD Yk) fl)) hj1))))
 have WZ:¬(s.op=17):=Y2 Zg Yk
 exact Z0 10 (ZX (Zx 9 (Zo false (And.intro ZD Yk) fl)) hj1)
theorem Zbj (b:Nat) (ga:Hd) (gb:Hd) (gc:Hd) (gd:Hd) (ge:Hd) (gf:Hd) (n:ZF) (s:Z6) (L:ZM) (ln:LI) (q:Int) (hn:XA n:=by exact ob) (hnum:s.op=9->0<=s.num/\s.num<n.routines.length:=by exact ob) (hk:XN n.decls L q:=by exact ob) (hlb:L.vars.length<=1000000000:=by exact ob) (hargs:∀a∈s.args,0<=a/\a<L.vars.length) (hinto:0<s.into->s.into<=L.vars.length:=by exact ob) (hal:s.args.length<=1000000000:=by exact ob) (hln:ln.length<=4294967296:=by exact ob) (hq:0<=q/\q<=999999990:=by exact ob):Zp 198 [.p b 0,YF n,X6 s] [.obj b [.h ga,.h gb,.h gc,.h gd,.h ge,.h gf,Z4 ln],rV ga L.vars,rV gb L.own,rV gc L.par,rV gd L.con,rV ge L.fst,rV gf L.tok] (fun r h=>(∃(wa:Hd) (wb:Hd) (wc:Hd) (wd:Hd) (we:Hd) (wf:Hd) (L':ZM),r=.b true/\h=[.obj b [.h wa,.h wb,.h wc,.h wd,.h we,.h wf,Z4 ln],rV wa L'.vars,rV wb L'.own,rV wc L'.par,rV wd L'.con,rV we L'.fst,rV wf L'.tok]/\Js n ln L s.op s.num s.into s.args=some L')∨(r=.b false/\h=[]/\Js n ln L s.op s.num s.into s.args=none)):=by
 obtain ⟨e1,e2,e3,e4,e5⟩:=hk.len
 refine ZG 79 Tryz.func198 (ar (iA (Xb n) fun b1=>iA (Wk s) fun b2=>?_))
 refine Z1 (Y4 (ab 0 (Y5 (fun fz gz m F h=>∃(k:Nat) (L2:ZM) (ka:Hd) (kb:Hd) (kc:Hd) (kd:Hd) (ke:Hd) (kf:Hd),(k<=s.args.length)/\(XN n.decls L2 q)/\(L2.vars=L.vars)/\(Kt n s.op s.num (s.args.drop k) k L2=Kt n s.op s.num s.args 0 L)/\F=sF [0,4,5] fz [(7,.i k)]/\h=[Zj gz 0,Zj gz 1,.obj b [.h ka,.h kb,.h kc,.h kd,.h ke,.h kf,Z4 ln],rV ka L2.vars,rV kb L2.own,rV kc L2.par,rV kd L2.con,rV ke L2.fst,rV kf L2.tok]/\m=s.args.length-k) _ _ _ ⟨0,L,ga,gb,gc,gd,ge,gf,ob,hk,ob,ob,rfl,rfl,rfl⟩ (Zx 9 (Yg fl)) ?_)))
 rintro m F h ⟨k,L2,ka,kb,kc,kd,ke,kf,Yi,Zk,ZA,YO,rfl,rfl,rfl⟩
 refine Yt 3 [0] (iw (Yb s.args) (Y0 ((k:Int)<(s.args.length:Int)) (fun Za=>?_) (fun Za=>?_)))
 ·obtain ⟨a1,ha1⟩:=Zu s.args k om
  obtain ⟨e6,e7,e8,e9,e10⟩:=Zk.len
  have hav:=hargs a1 (Y3 ha1)
  have hvl:L2.vars.length=L.vars.length:=by rw [ZA]
  refine ak (aq (ab 1 (aD 18 (ZY 11 18 [0,1,2,3,4,5,6] [1,2,0] (Z9 7 (A6 7 [3] [] [] [rV ka L2.vars] (HC n L2.vars s k a1 (ha:=ha1)) FV (gS (gL (v:=ka) 0 (gS (gS gN)))) (J5 Ag) ?_))))))
  rintro _ _ ⟨rfl,rfl⟩
  refine Zs 9 10 [8] (db (b:=Jp n L2.vars s.op s.num a1 k) 24 (fun Zd=>?_) (fun Zd=>?_))
  ·have Y7:Jp n L2.vars s.op s.num a1 k=true:=(Iff.rfl).1 Zd
   refine ZY 5 9 [9,10,11,12] [1] (dx 13 (Zi none (k:Int) 1 (Y6 ha1)) (Zs 3 4 [14] (Z9 15 (dc 15 [3,0,2,2,2,2,2] [] [] (GS b ka kb kc kd ke kf L2 ln a1 (hlk:=Zk.len) (hq:=(fun y hy=>⟨Zk.nn y hy,by have:=Zk.bd y hy;omega⟩))) ?_))))
   rintro _ _ (⟨wa1,wb1,wc1,wd1,we1,wf1,L'1,rfl,rfl,Ym⟩|⟨rfl,rfl,YL⟩)
   ·obtain ⟨t1,t2,t3,t4,t5,t6,t7⟩:=JL Ym
    have hk2:=Zk.take Ym
    exact Zs 0 2 [16,17] (de (VF (ak (az (Z0 1 (ZE k (Z1 (ZH ⟨k+1,L'1,wa1,wb1,wc1,wd1,we1,wf1,ob,hk2,(t2.trans ZA),(by rw [Yh ha1,Kt,Zb Y7] at YO;simp only [Ym] at YO;exact YO),rfl,rfl,rfl⟩ (wk [7,7,0,0,0,0,0,0,0] (ZL k fl))))))))))
   exact Zs 0 2 [16,17] (de (Vo (ar (Zl (r1 [] (.inr ⟨rfl,rfl,(by rw [Js,<-YO,Yh ha1,Kt,Zb Y7,YL])⟩))))))
  have X3:¬(Jp n L2.vars s.op s.num a1 k=true):=Y2 Iff.rfl Zd
  exact Zs 0 9 [9,10,11,12,13,14,15,16,17] (de (VF (ak (az (Z0 1 (ZE k (Z1 (ZH ⟨k+1,L2,ka,kb,kc,kd,ke,kf,ob,Zk,ZA,(by rw [Yh ha1,Kt,Z5 X3] at YO;exact YO),rfl,rfl,rfl⟩ (wk [1,1,1,0,0,0,0,0,0] (ZL k fl))))))))))
 have hT:Kt n s.op s.num s.args 0 L=some L2:=by rw [<-YO,Xt om];rfl
 obtain ⟨e6,e7,e8,e9,e10⟩:=Zk.len
 have hvl:L2.vars.length=L.vars.length:=by rw [ZA]
 refine ax 0 (Y4 (ab 2 (Y5 (fun fz gz m F h=>∃(j:Nat),(j<=s.args.length)/\(BE n s.op s.num ln L2 (s.args.drop j) j=BE n s.op s.num ln L2 s.args 0)/\F=sF [0,4,5] fz [(8,.i j)]/\h=gz/\m=s.args.length-j) _ _ _ ⟨0,ob,ob,rfl,rfl,rfl⟩ (Zx 9 (Yg fl)) ?_)))
 rintro m F h ⟨j,Ui,W4,rfl,rfl,rfl⟩
 refine Yt 3 [0] (iw (Yb s.args) (Y0 ((j:Int)<(s.args.length:Int)) (fun Zh=>?_) (fun Zh=>?_)))
 ·obtain ⟨a2,ha2⟩:=Zu s.args j om
  have hav:=hargs a2 (Y3 ha2)
  refine ak (aq (ab 3 (Zq 3 [1,0] (Zt [] (Fk n s j) (XC [0,4,5,8] [(54,.b (T2 n s.op s.num j&&(!T9 L2 ln a2)))] (fun gz=>[Zj gz 2,Zj gz 3,Zj gz 4,Zj gz 5,Zj gz 6,Zj gz 7,Zj gz 8,Zj gz 0,Zj gz 1]) ?_ ?_)))))
  ·refine Z0 1 (ib (b:=T2 n s.op s.num j) 45 (fun ZD=>?_) (fun ZD=>?_))
   ·exact Zy 4 [0] (Zm (Zi none (j:Int) 1 (Y6 ha2)) (Z0 1 (Zt [2,2,2,2,2,2,2] (GR b ka kb kc kd ke kf L2 ln a2 (hlk:=Zk.len) (hd:=Zk.down)) (Z1 (Zx 9 (Zo (!T9 L2 ln a2) ZD fl))))))
   exact Z1 (wk [2,2,2,2,2,2,2,0,0] (Zo false ZD fl))
  refine ac (T2 n s.op s.num j&&(!T9 L2 ln a2)) (p:=(T2 n s.op s.num j=true)/\(¬(T9 L2 ln a2=true))) (YG Iff.rfl (Y1 Iff.rfl)) (fun ZC=>?_) (fun ZC=>?_)
  ·refine Y8 ?_
   have hA:BE n s.op s.num ln L2 s.args 0=false:=by rw [<-W4,Yh ha2,BE,Zb ZC]
   exact ZU (r1 [] (.inr ⟨rfl,rfl,(by rw [Js,hT];simp only [hA];rfl)⟩))
  exact ak (az (Z0 1 (ZE j (Z1 (ZH ⟨j+1,ob,(by rw [Yh ha2,BE,Z5 ZC] at W4;exact W4),rfl,rfl,rfl⟩ (wk [7,7,0,0,0,0,0,0,0] (ZL j fl)))))))
 have hA:BE n s.op s.num ln L2 s.args 0=true:=by rw [<-W4,Xt om];rfl
 refine ax 2 (Xe (WJ [0] (Vh (s.into>0) (fun Yc=>?_) (fun Yc=>?_))))
 ·obtain ⟨xt,hxt⟩:=Zu L2.tok ((s.into-1).toNat) (by have:=hinto Yc;omega)
  have hgt:=Tj hxt
  refine aq (aD 13 (ZY 7 13 [0,1,2,3,4,5] [2,0] (da 6 ((s.into-1)) ((s.into)-(1)) (dx 7 (Uh 8 kf L2.tok (s.into-1) ((s.into-1).toNat) (hq:=rfl)) (Ua 8 (Qv 8 kf L2.tok ((s.into-1).toNat) xt hxt) (ZY 2 4 [9,10] [0] (dw 11 (Yb s.args) (Zs 0 1 [12] (de (ac (xt != (s.args.length:Int)) Ys (fun YB=>?_) (fun YB=>?_)))))))))))
  ·exact ar (Zl (r1 [] (.inr ⟨rfl,rfl,(by rw [Js,hT];simp only [hA,↓reduceIte];rw [EG,Zb Yc,hgt,Zb YB])⟩)))
  exact ak (aE 9 (ZY 3 9 [0,1,2,3,4,5] [2,0] (da 6 ((s.into-1)) ((s.into)-(1)) (dx 7 (Uh 8 kf L2.tok (s.into-1) ((s.into-1).toNat) (hq:=rfl)) (Z9 8 (Cm 8 8 [] [] kf L2.tok ((s.into-1).toNat) (-1) (de (ar (Zl (r1 [3,3,3,3,3,3,0] (.inl ⟨ka,kb,kc,kd,ke,kf,(ZM.mk L2.vars L2.own L2.par L2.con L2.fst (L2.tok.set ((s.into-1).toNat) (-1))),rfl,rfl,(by rw [Js,hT];simp only [hA,↓reduceIte];rw [EG,Zb Yc,hgt,Z5 YB])⟩) (eq:=(rc (rv (xs:=L2.vars) ob (rv (xs:=L2.own) ob (rv (xs:=L2.par) ob (rv (xs:=L2.con) ob (rv (xs:=L2.fst) ob (rv (xs:=(L2.tok.set ((s.into-1).toNat) (-1))) ob rz))))))))))))))))))
 exact ak (ar (Zl (r1 [2,2,2,2,2,2,2] (.inl ⟨ka,kb,kc,kd,ke,kf,L2,rfl,rfl,(by rw [Js,hT];simp only [hA,↓reduceIte];rw [EG,Z5 Yc])⟩))))
theorem Z7u (b:Z8) (t:Int) (hz:b.sz<=1000000) (ih:∀(b2:Z8) (t:Int),(b2.sz<=1000000)->(b2.sz<b.sz)->Zp 247 [Yn b2,.i t] [] (fun r h=>∃(wr:Bool),r=.b wr/\h=[])):Zp 247 [Yn b,.i t] [] (fun r h=>∃(wr:Bool),r=.b wr/\h=[]):=by
 have ZK:=UB b
 have hbl:=Jd b.steps
 have hbe:=b.sz_eq
 refine ZG 53 Tryz.func247 (ar (iA (W3 b) fun b1=>?_))
 refine Z1 (Y4 (ab 0 (Y5 (fun fz gz m F h=>∃(k:Nat),(k<=b.steps.length)/\F=sF [1,2] fz [(5,.i k)]/\h=gz/\m=b.steps.length-k) _ _ _ ⟨0,ob,rfl,rfl,rfl⟩ (wk [0] (Yg fl)) ?_)))
 rintro m F h ⟨k,Yi,rfl,rfl,rfl⟩
 refine Yt 3 [0] (iw (UH b.steps) (Y0 ((k:Int)<(b.steps.length:Int)) (fun Za=>?_) (fun Za=>?_)))
 ·refine ak (aq (ab 1 (Yt 3 [0] ?_)))
  obtain ⟨x1,Z3⟩:=Zu b.steps k om
  have hxs:=MK (Y3 Z3)
  have hxe:=(x1).sz_eq
  have hxk:=K1 x1
  refine Zm (Zi none (k:Int) 5 (Ve Z3)) (XC [1,2,5] [(30,.b ((x1.op==10)&&(x1.num==t)))] (fun gz=>gz) ?_ ?_)
  ·refine Z0 4 (ib (b:=(x1.op==10)) 21 (fun Zd=>?_) (fun Zd=>?_))
   ·exact Zy 3 [0] (Zm (Zi none (k:Int) 5 (Ve Z3)) (Z1 (wk [0] (Zo (x1.num==t) Zd fl))))
   exact Z1 (wk [0] (Zo false Zd fl))
  refine ac ((x1.op==10)&&(x1.num==t)) (p:=(x1.op=10)/\(x1.num=t)) (YG Zg Zg) (fun Zh=>?_) (fun Zh=>?_)
  ·exact ar (Zl (r1 [] ⟨true,rfl,rfl⟩))
  refine ak (Y8 (ab 2 (Y5 (fun fz gz m F h=>∃(j:Nat),(j<=x1.kids.length)/\F=sF [1,2,5] fz [(6,.i j)]/\h=gz/\m=x1.kids.length-j) _ _ _ ⟨0,ob,rfl,rfl,rfl⟩ (wk [0] (Yg fl)) ?_)))
  rintro m F h ⟨j,Ui,rfl,rfl,rfl⟩
  refine Yt 4 [0] (Zm (Zi none (k:Int) 5 (Ve Z3)) (Z0 2 (iw (Kq x1.kids) (Y0 ((j:Int)<(x1.kids.length:Int)) (fun ZC=>?_) (fun ZC=>?_)))))
  ·refine ak (aq (ab 3 (Zq 3 [0] (Zm (Zi none (k:Int) 5 (Ve Z3)) (Z0 3 ?_)))))
   obtain ⟨x2,Zv⟩:=Zu x1.kids j om
   have hkx:=Ig (Y3 Zv)
   refine Zm (Zi none (j:Int) 2 (UX Zv)) (Z0 2 (ic [] (ih x2 t ob ob) ?_))
   rintro _ _ ⟨wr1,rfl,rfl⟩
   refine ie (ac wr1 Iff.rfl (fun Yc=>?_) (fun Yc=>?_))
   ·exact ar (Zl (r1 [] ⟨true,rfl,rfl⟩))
   exact ak (az (Z0 1 (ZE j (Z1 (ZH ⟨j+1,ob,rfl,rfl,rfl⟩ (wk [0] (ZL j fl)))))))
  exact ax 2 (az (Z0 1 (ZE k (Z1 (ZH ⟨k+1,ob,rfl,rfl,rfl⟩ (wk [0] (ZL k fl)))))))
 exact ax 0 (ar (Zl (r1 [] ⟨false,rfl,rfl⟩)))
theorem Z7t (b:Z8) (t:Int) (hz:b.sz<=1000000:=by exact ob):Zp 247 [Yn b,.i t] [] (fun r h=>∃(wr:Bool),r=.b wr/\h=[]):=by
 have key:∀k:Nat,∀(b2:Z8) (t:Int),(b2.sz<=1000000)->(b2.sz<k)->Zp 247 [Yn b2,.i t] [] (fun r h=>∃(wr:Bool),r=.b wr/\h=[]):=by
  intro k
  induction k with
  | zero=>intro b2 t h1 h2;omega
  | succ k ih=>intro b2 t h1 h2;exact Z7u b2 t h1 fun b3 t3 q1 q2=>ih b3 t3 q1 om
 exact key (b.sz+1) b t hz om
theorem Z8e (n:ZF) (t:Int) (qz:Nat) (hn:FN n qz:=by exact ob) (hqz:qz<=100000:=by exact ob):Zp 217 [YF n,.i t] [] (fun r h=>∃(wr:Bool),r=.b wr/\h=[]):=by
 have hnl:=hn.len
 refine ZG 21 Tryz.func217 (ar (iA (Xb n) fun b1=>?_))
 refine Z1 (Y4 (ab 0 (Y5 (fun fz gz m F h=>∃(k:Nat),(k<=n.routines.length)/\F=sF [1,2] fz [(5,.i k)]/\h=gz/\m=n.routines.length-k) _ _ _ ⟨0,ob,rfl,rfl,rfl⟩ (wk [0] (Yg fl)) ?_)))
 rintro m F h ⟨k,Yi,rfl,rfl,rfl⟩
 refine Yt 3 [0] (iw (Q2 n.routines) (Y0 ((k:Int)<(n.routines.length:Int)) (fun Za=>?_) (fun Za=>?_)))
 ·refine ak (aq (ab 1 (Zq 3 [0] ?_)))
  obtain ⟨x1,Z3⟩:=Zu n.routines k om
  have hbz:=(hn.body _ (Y3 Z3)).2
  refine Zm (Zi none (k:Int) 5 (VN Z3)) (Z0 3 (ic [] (Z7t x1.body t) ?_))
  rintro _ _ ⟨wr1,rfl,rfl⟩
  refine ie (ac wr1 Iff.rfl (fun Zh=>?_) (fun Zh=>?_))
  ·exact ar (Zl (r1 [] ⟨true,rfl,rfl⟩))
  exact ak (az (Z0 1 (ZE k (Z1 (ZH ⟨k+1,ob,rfl,rfl,rfl⟩ (wk [0] (ZL k fl)))))))
 exact ax 0 (ar (Zl (r1 [] ⟨false,rfl,rfl⟩)))
theorem P2 (fs:LI) (q:Nat) (hl:fs.length<=1000000:=by exact ob) (hq:q<=1000000:=by exact ob):Zp 146 [Z4 fs,.i q] [] (fun r h=>∃(xs:LI),r=Z4 xs/\h=[]/\xs.length<=fs.length/\∀i∈xs,(q:Int)<=i/\i<(q:Int)+fs.length):=by
 refine ZG 26 Tryz.func146 (Y8 (ar (iL (Z7 []) 0 1 fun v1=>?_)))
 refine Z1 (Y4 (ab 0 (Y5 (fun fz gz m F h=>∃(k:Nat) (ys:LI) (u:Value),(k<=fs.length)/\(ys.length<=k)/\(∀i∈ys,(q:Int)<=i/\i<(q:Int)+fs.length)/\F=sF [0,1] fz [(5,ZP ys u),(6,.i k)]/\h=[.tail u 1]/\m=fs.length-k) _ _ _ ⟨0,[],v1,ob,ob,(fun i hi=>by cases hi),rfl,rfl,rfl⟩ (wk [0] (fr (Yg fl))) ?_)))
 rintro m F h ⟨k,ys,u,Yi,Zk,ZA,rfl,rfl,rfl⟩
 refine YP 2 (iw (Yb fs) (Y0 ((k:Int)<(fs.length:Int)) (fun Za=>?_) (fun Za=>?_)))
 ·refine ak (aq (ab 1 (Ye 2 ?_)))
  obtain ⟨x1,Z3⟩:=Zu fs k om
  refine Zm (Zi none (k:Int) 1 (Y6 Z3)) (Yy (x1 != 0) Ys (fun Zh=>?_) (fun Zh=>?_))
  ·exact az (Z0 3 (ia (((q+k:Nat):Int)) (((q:Int))+((k:Int))) (iL (Z7 [((q+k:Nat):Int)]) 1 1 fun v2=>ZT 0 [(23,Z4 [((q+k:Nat):Int)])] (ip 1 (Z7 (ys++[((q+k:Nat):Int)])) (Z7 ys) (Z7 [((q+k:Nat):Int)]) u none 1 (YH _) (YH _) (Wb _) (by simp<;>omega) (by simp [Wa,Z7]) fun v3=>Z1 (az (Z0 1 (ZE k (Z1 (ZH ⟨k+1,(ys++[((q+k:Nat):Int)]),v3,ob,ob,(XI ZA om),rfl,rfl,rfl⟩ (wk [0] (fr (ZL k fl))))))))))))
  exact ak (az (Z0 1 (ZE k (Z1 (ZH ⟨k+1,ys,u,ob,ob,ob,rfl,rfl,rfl⟩ (wk [0] (fr (ZL k fl))))))))
 exact ax 0 (ar (Zl (r2 [] [ZP ys u] ⟨ys,rfl,rfl,⟨by omega,ZA⟩⟩ (Ze.forget _ _))))
theorem OW (n:ZF) (qz:Nat) (hn:FN n qz:=by exact ob) (hqz:qz<=100000:=by exact ob):Zp 183 [YF n] [] (fun r h=>∃(xs:List LI),r=DO xs/\h=[]/\LC n n.routines.length xs):=by
 have hnl:=hn.len
 refine ZG 31 Tryz.func183 (ar (iA (Xb n) fun b1=>Z1 (ar (iL (W2 []) 0 1 fun v1=>?_))))
 refine Z1 (Y4 (ab 0 (Y5 (fun fz gz m F h=>∃(k:Nat) (ys:List LI) (u:Value),(k<=n.routines.length)/\(ys.length=k)/\(LC n k ys)/\F=sF [1] fz [(3,M8 ys u),(4,.i k)]/\h=[Zj gz 1,.tail u 1]/\m=n.routines.length-k) _ _ _ ⟨0,[],v1,ob,ob,LC.nil,rfl,rfl,rfl⟩ (wk [1,0] (fr (Yg fl))) ?_)))
 rintro m F h ⟨k,ys,u,Yi,Zk,ZA,rfl,rfl,rfl⟩
 refine Yt 3 [0] (iw (Q2 n.routines) (Y0 ((k:Int)<(n.routines.length:Int)) (fun Za=>?_) (fun Za=>?_)))
 ·refine ak (aq (ab 1 (Zq 2 [0] (ic [] (Z8e n (k:Int) qz) ?_))))
  rintro _ _ ⟨wr1,rfl,rfl⟩
  refine ie (ac wr1 Iff.rfl (fun Zh=>?_) (fun Zh=>?_))
  ·exact az (Z0 1 (iL (Z7 []) 0 1 fun v2=>ZT 0 [(17,Z4 [])] (iL (W2 [[]]) 1 1 fun v3=>ZT 0 [(18,DO [[]])] (ip 3 (W2 (ys++[[]])) (W2 ys) (W2 [[]]) u none 1 (Dq _) (Dq _) (II _) (by simp<;>omega) (by simp [IH,W2]) fun v4=>Z1 (az (Z0 1 (ZE k (Z1 (ZH ⟨k+1,(ys++[[]]),v4,ob,ob,(ZA.snoc (by simp) (fun r hr v hv=>by cases hv)),rfl,rfl,rfl⟩ (wk [3,0] (fr (ZL k fl))))))))))))
  refine az (Zy 4 [0] ?_)
  obtain ⟨x1,Z3⟩:=Zu n.routines k om
  have hrp:=(FN.ok hn).params_at Z3
  have hss:=(Tw.bd (f:=⟨(x1).params,(x1).result,default⟩) (hn.sigs _ (Y3 Z3))).1
  refine Zm (Zi none (k:Int) 5 (VN Z3)) (Z0 2 (ic [] (P2 x1.params 0) ?_))
  rintro _ _ ⟨xs1,rfl,rfl,Y7⟩
  have hhf:=Y7
  exact iL (W2 [xs1]) 1 1 fun v5=>ZT 0 [(28,DO [xs1])] (ip 2 (W2 (ys++[xs1])) (W2 ys) (W2 [xs1]) u none 1 (Dq _) (Dq _) (II _) (by simp<;>omega) (by simp [IH,W2]) fun v6=>Z1 (az (Z0 1 (ZE k (Z1 (ZH ⟨k+1,(ys++[xs1]),v6,ob,ob,(ZA.snoc om (fun r hr v hv=>by rw [Z3] at hr;cases hr;have:=hhf.2 v hv;omega)),rfl,rfl,rfl⟩ (wk [2,0] (fr (ZL k fl)))))))))
 exact ax 0 (ar (Zl (r2 [] [M8 ys u] ⟨ys,rfl,rfl,(by rw [show n.routines.length=k by omega];exact ZA)⟩ (Ze.forget _ _))))
theorem Z7x (n:ZF) (b:Z8) (t:Int) (mq:Nat) (hn:XA n) (hf:fB n.decls n.routines.length mq b) (hz:b.sz<=1000000) (ih:∀(b2:Z8) (t:Int) (m2:Nat),(fB n.decls n.routines.length m2 b2)->(b2.sz<=1000000)->(b2.sz<b.sz)->Zp 218 [YF n,Yn b2,.i t] [] (fun r h=>∃(wr:Bool),r=.b wr/\h=[])):Zp 218 [YF n,Yn b,.i t] [] (fun r h=>∃(wr:Bool),r=.b wr/\h=[]):=by
 have hbl:=Jd b.steps
 have hbe:=b.sz_eq
 refine ZG 68 Tryz.func218 (ar (iA (Xb n) fun b1=>iA (W3 b) fun b2=>Z1 (Xe (WJ [0] (ac (b.result==t) Zg (fun Za=>?_) (fun Za=>?_))))))
 ·exact ar (Zl (r1 [] ⟨true,rfl,rfl⟩))
 refine ak (Y4 (ab 0 (Y5 (fun fz gz m F h=>∃(k:Nat),(k<=b.steps.length)/\F=sF [2,3,4] fz [(7,.i k)]/\h=gz/\m=b.steps.length-k) _ _ _ ⟨0,ob,rfl,rfl,rfl⟩ (wk [0,0] (Yg fl)) ?_)))
 rintro m F h ⟨k,Yi,rfl,rfl,rfl⟩
 refine Yt 3 [0] (iw (UH b.steps) (Y0 ((k:Int)<(b.steps.length:Int)) (fun Zh=>?_) (fun Zh=>?_)))
 ·refine ak (aq (ab 1 (Zq 3 [0] ?_)))
  obtain ⟨x1,Z3⟩:=Zu b.steps k om
  have hfs:=(AR x1).1 (Dv ((KV b).1 hf).1 Z3)
  have hxs:=MK (Y3 Z3)
  have hxe:=(x1).sz_eq
  have hxk:=K1 x1
  refine Zm (Zi none (k:Int) 5 (Ve Z3)) (Z0 1 (iA [.i 0,.i 0,.i 0,nl,nl] fun b3=>?_))
  refine ZB 0 b3 (Wk x1) (ie (Y4 (ab 2 (Y5 (fun fz gz m F h=>∃(j:Nat),(j<=x1.args.length)/\F=sF [2,3,4,7,8] fz [(9,.i j)]/\h=gz/\m=x1.args.length-j) _ _ _ ⟨0,ob,rfl,rfl,rfl⟩ (Zx 3 (Yg fl)) ?_))))
  rintro m F h ⟨j,Ui,rfl,rfl,rfl⟩
  refine Yt 3 [0] (iw (Yb x1.args) (Y0 ((j:Int)<(x1.args.length:Int)) (fun ZC=>?_) (fun ZC=>?_)))
  ·refine ak (aq (ab 3 (Zq 3 [0] ?_)))
   obtain ⟨x2,Zv⟩:=Zu x1.args j om
   refine Zm (Zi none (j:Int) 1 (Y6 Zv)) (YV 12 [2,3,4,7,8,9] [(45,.b ((x2==t)&&A5 x1.op))] (fun gz=>gz) ?_ (fun hj1=>?_))
   ·refine XC [2,3,4,7,8,9] [(52,.b (((x2==t)&&A5 x1.op)&&(!T2 n x1.op x1.num j)))] (fun gz=>gz) ?_ ?_
    ·refine Z0 1 (ib (b:=((x2==t)&&A5 x1.op)) 46 (fun Zd=>?_) (fun Zd=>?_))
     ·exact Zy 3 [2,0] (Zt [] (Fk n x1 j (hnum:=hfs.call)) (Z1 (Zx 3 (Zo (!T2 n x1.op x1.num j) Zd fl))))
     exact Z1 (Zx 3 (Zo false Zd fl))
    refine ac (((x2==t)&&A5 x1.op)&&(!T2 n x1.op x1.num j)) (p:=((x2=t)/\(A5 x1.op=true))/\(¬(T2 n x1.op x1.num j=true))) (YG (YG Zg Iff.rfl) (Y1 Iff.rfl)) (fun Yc=>?_) (fun Yc=>?_)
    ·exact ar (Zl (r1 [] ⟨true,rfl,rfl⟩))
    exact ak (az (Z0 1 (ZE j (Z1 (ZH ⟨j+1,ob,rfl,rfl,rfl⟩ (Zx 3 (ZL j fl)))))))
   refine Z0 4 (ib (b:=(x2==t)) 41 (fun ZD=>?_) (fun ZD=>?_))
   ·exact Zy 2 [0] (Zt [] (Z0r x1.op) (Z0 1 (ZX (Zx 3 (Zo (A5 x1.op) ZD fl)) hj1)))
   exact Z0 4 (ZX (Zx 3 (Zo false ZD fl)) hj1)
  refine ax 2 (Y8 (ab 4 (Y5 (fun fz gz m F h=>∃(j:Nat),(j<=x1.kids.length)/\F=sF [2,3,4,7,8] fz [(10,.i j)]/\h=gz/\m=x1.kids.length-j) _ _ _ ⟨0,ob,rfl,rfl,rfl⟩ (Zx 3 (Yg fl)) ?_)))
  rintro m F h ⟨j,FT,rfl,rfl,rfl⟩
  refine Yt 3 [0] (iw (Kq x1.kids) (Y0 ((j:Int)<(x1.kids.length:Int)) (fun YB=>?_) (fun YB=>?_)))
  ·refine ak (aq (ab 5 (aD 8 (ZY 4 8 [0,1,2,3] [2,0] ?_))))
   obtain ⟨x3,YU⟩:=Zu x1.kids j om
   have hkx:=Ig (Y3 YU)
   have hfk:=Bz hfs.kids YU
   refine dx 4 (Zi none (j:Int) 2 (UX YU)) (Zs 1 3 [5,6] (Z9 7 (dc 7 [] [] [] (ih x3 t (V3 n.decls x1.op x1.num (mq+Yv (b.steps.take k)) (0+j)) hfk ob ob) ?_)))
   rintro _ _ ⟨wr1,rfl,rfl⟩
   refine de (ac wr1 Iff.rfl (fun YY=>?_) (fun YY=>?_))
   ·exact ar (Zl (r1 [] ⟨true,rfl,rfl⟩))
   exact ak (az (Z0 1 (ZE j (Z1 (ZH ⟨j+1,ob,rfl,rfl,rfl⟩ (Zx 3 (ZL j fl)))))))
  exact ax 4 (az (Z0 1 (ZE k (Z1 (ZH ⟨k+1,ob,rfl,rfl,rfl⟩ (wk [1,1] (ZL k fl)))))))
 exact ax 0 (ar (Zl (r1 [] ⟨false,rfl,rfl⟩)))
theorem Z7w (n:ZF) (b:Z8) (t:Int) (mq:Nat) (hn:XA n:=by exact ob) (hf:fB n.decls n.routines.length mq b:=by exact ob) (hz:b.sz<=1000000:=by exact ob):Zp 218 [YF n,Yn b,.i t] [] (fun r h=>∃(wr:Bool),r=.b wr/\h=[]):=by
 have key:∀k:Nat,∀(b2:Z8) (t:Int) (m2:Nat),(fB n.decls n.routines.length m2 b2)->(b2.sz<=1000000)->(b2.sz<k)->Zp 218 [YF n,Yn b2,.i t] [] (fun r h=>∃(wr:Bool),r=.b wr/\h=[]):=by
  intro k
  induction k with
  | zero=>intro b2 t m2 h1 h2 h3;omega
  | succ k ih=>intro b2 t m2 h1 h2 h3;exact Z7x n b2 t m2 hn h1 h2 fun b3 t3 m3 q1 q2 q3=>ih b3 t3 m3 q1 q2 om
 exact key (b.sz+1) b t mq hf hz om
theorem Z8f (n:ZF) (rt:YC) (i:Nat) (qz:Nat) (hn:FN n qz:=by exact ob) (hqz:qz<=100000:=by exact ob) (hr:n.routines[i]? = some rt:=by exact ob):Zp 184 [YF n,.i i] [] (fun r h=>∃(xs:LI),r=Z4 xs/\h=[]/\xs.length<=rt.lent.length/\∀v∈xs,v∈rt.lent):=by
 have hok:=FN.ok hn
 have hrl:=hn.lent rt (Y3 hr)
 have hrb:=hn.body rt (Y3 hr)
 obtain ⟨hil,_⟩:=X9.1 hr
 have hnl:=hn.len
 refine ZG 50 Tryz.func184 (ar (iA (Xb n) fun b1=>Z1 (ar (iL (Z7 []) 0 1 fun v1=>?_))))
 refine Z1 (Y4 (ab 0 (Y5 (fun fz gz m F h=>∃(k:Nat) (ys:LI) (u:Value),(k<=rt.lent.length)/\(ys.length<=k)/\(∀v∈ys,v∈rt.lent)/\F=sF [1,2] fz [(5,ZP ys u),(6,.i k)]/\h=[Zj gz 1,.tail u 1]/\m=rt.lent.length-k) _ _ _ ⟨0,[],v1,ob,ob,(fun v hv=>by cases hv),rfl,rfl,rfl⟩ (wk [1,0] (fr (Yg fl))) ?_)))
 rintro m F h ⟨k,ys,u,Yi,Zk,ZA,rfl,rfl,rfl⟩
 refine Yt 4 [0] (Zm (Zi none (i:Int) 5 (VN hr)) (Z0 2 (iw (Yb rt.lent) (Y0 ((k:Int)<(rt.lent.length:Int)) (fun Za=>?_) (fun Za=>?_)))))
 ·refine ak (aq (ab 1 (aD 18 (ZY 14 18 [0,1,2,3] [0,0] (dx 4 (Zi none (i:Int) 5 (VN hr)) (ZY 8 13 [5,6,7,8,9] [0] (dx 10 (Zi none (i:Int) 5 (VN hr)) (Zs 4 7 [11,12,13] ?_))))))))
  obtain ⟨x1,Z3⟩:=Zu rt.lent k om
  refine dx 14 (Zi none (k:Int) 1 (Y6 Z3)) (Zs 2 3 [15] (Z9 16 (dc 16 [] [] [] (Z7w n rt.body x1 rt.params.length (hn:=hok) (hf:=hrb.1)) ?_)))
  rintro _ _ ⟨wr1,rfl,rfl⟩
  refine Zs 0 1 [17] (de (ac (!wr1) (p:=¬(wr1=true)) (Y1 Iff.rfl) (fun Zh=>?_) (fun Zh=>?_)))
  ·exact az (Zy 4 [0] (Zm (Zi none (i:Int) 5 (VN hr)) (Z0 3 (Zm (Zi none (k:Int) 1 (Y6 Z3)) (Z0 1 (iL (Z7 [x1]) 1 1 fun v2=>ZT 0 [(47,Z4 [x1])] (ip 2 (Z7 (ys++[x1])) (Z7 ys) (Z7 [x1]) u none 1 (YH _) (YH _) (Wb _) (by simp<;>omega) (by simp [Wa,Z7]) fun v3=>Z1 (az (Z0 1 (ZE k (Z1 (ZH ⟨k+1,(ys++[x1]),v3,ob,ob,(XI ZA (Y3 Z3)),rfl,rfl,rfl⟩ (wk [2,0] (fr (ZL k fl)))))))))))))))
  exact ak (az (Z0 1 (ZE k (Z1 (ZH ⟨k+1,ys,u,ob,ob,ob,rfl,rfl,rfl⟩ (wk [0,0] (fr (ZL k fl))))))))
 exact ax 0 (ar (Zl (r2 [] [ZP ys u] ⟨ys,rfl,rfl,⟨by omega,ZA⟩⟩ (Ze.forget _ _))))
theorem Zfm (s:Z6) (ih:∀(b2:Z8),(b2.sz<s.sz)->(b2.sz<=1000000000)->Zp 216 [Yn b2] [] (Yu (Yn b2))) (hz:s.sz<=1000000000):Zp 246 [X6 s] [] (Yu (X6 s)):=by
 have hkz:=K1 s
 have haz:=Jo s
 refine ZG 33 Tryz.func246 (ar (iA (Wk s) fun b1=>iA [.i 0,.i 0,.i 0,nl,nl] fun b2=>ie (ar (iL (XU []) 0 2 fun v1=>?_))))
 refine Z1 (Y4 (ab 0 (Y5 (fun fz gz m F h=>∃(k:Nat) (v:Value),(k<=s.kids.length)/\F=sF [1,2] fz [(3,Qt (s.kids.take k) v),(4,.i k)]/\h=[Zj gz 1,Zj gz 2,.tail v 2]/\m=s.kids.length-k) _ _ _ ⟨0,v1,ob,rfl,rfl,rfl⟩ (wk [1,1,0] (fc (x:=Qt [] v1) (Ze.slh _ (Yj XU rfl)) (Yg fl))) ?_)))
 rintro m F h ⟨k,v,Yi,rfl,rfl,rfl⟩
 refine Yt 3 [1] (iw (Kq s.kids) (Y0 ((k:Int)<(s.kids.length:Int)) (fun Za=>?_) (fun Za=>?_)))
 ·refine ak (aq (ab 1 (az (Zy 4 [1] ?_))))
  obtain ⟨x1,Z3⟩:=Zu s.kids k om
  have hks:=Qr Z3
  exact Zm (Zi none (k:Int) 2 (UX Z3)) (Z0 1 (Zt [] (ih x1 ob ob) (iL [Yn x1] 1 2 fun v2=>ZT 0 [(20,.sl [Yn x1] none)] (ip 3 (XU (s.kids.take (k+1))) (XU (s.kids.take k)) [Yn x1] v none 2 (KU _) (J4 rfl) rfl (by simp<;>omega) (by rw [Vg Z3];simp [QV]) fun v3=>Z1 (az (Z0 1 (ZE k (Z1 (ZH ⟨k+1,v3,ob,rfl,rfl,rfl⟩ (wk [2,2,0] (fr (ZL k fl))))))))))))
 refine ax 0 (aD 12 (ZY 3 12 [0,1,2,3,4,5,6,7,9] [1,1,1,1] (Z9 8 (dc 8 [] [1,1,1] [b1,b1,b1] (WQ s.args) ?_))))
 rintro _ _ ⟨v4,rfl,rfl⟩
 exact Zs 1 2 [10] (Z9 11 (X5 11 1 [] [] b2 [.i s.op,.i s.num,.i s.into,ZP s.args v4,Qt (s.kids.take k) v] (de (ZU (r3 [] [.agg [.i s.op,.i s.num,.i s.into,ZP s.args v4,Qt (s.kids.take k) v]] [0] [(b2,b2)] ⟨rfl,rfl⟩ (Ze.agg (.cons (lr _) (.cons (lr _) (.cons (lr _) (.cons (Ze.forget _ _) (.cons (Ze.sl _ (Yj XU (by rw [WR om]))) .nil)))))))))))
theorem Zfj (b:Z8) (ih:∀(s2:Z6),(s2.sz<b.sz)->(s2.sz<=1000000000)->Zp 246 [X6 s2] [] (Yu (X6 s2))) (hz:b.sz<=1000000000):Zp 216 [Yn b] [] (Yu (Yn b)):=by
 have hbz:=UB b
 refine ZG 28 Tryz.func216 (ar (iA (W3 b) fun b1=>iA [nl,.i 0] fun b2=>ie (ar (iL (ZQ []) 0 5 fun v1=>Zy 3 [2] (iA [nl,.i 0] fun b3=>?_)))))
 refine ZB 0 b3 [Xl [] v1,.i b.result] (ie (Y4 (ab 0 (Y5 (fun fz gz m F h=>∃(k:Nat) (v:Value),(k<=b.steps.length)/\F=sF [1,2,3] fz [(4,.i k)]/\h=[.obj b3 [Xl (b.steps.take k) v,.i b.result],Zj gz 2,Zj gz 3,.tail v 5]/\m=b.steps.length-k) _ _ _ ⟨0,v1,ob,rfl,rfl,rfl⟩ (wk [0,1,1,0] (Yg fl)) ?_))))
 rintro m F h ⟨k,v,Yi,rfl,rfl,rfl⟩
 refine Yt 3 [2] (iw (UH b.steps) (Y0 ((k:Int)<(b.steps.length:Int)) (fun Za=>?_) (fun Za=>?_)))
 ·refine ak (aq (ab 1 (aE 12 (ZY 7 12 [0,1,2,3,4] [0,2] ?_))))
  obtain ⟨x1,Z3⟩:=Zu b.steps k om
  have hss:=Ea Z3
  exact dx 5 (Zi none (k:Int) 5 (Ve Z3)) (Zs 5 6 [6] (Z9 7 (YI 7 [] [0] [b3] (ih x1 ob ob) (Z9 8 (dL 8 [0] [b3] [X6 x1] 1 5 fun v2=>Yw 3 3 [] [(24,.sl [X6 x1] none)] (Z9 9 (dp 9 4 [] [] (ZQ (b.steps.take (k+1))) (ZQ (b.steps.take k)) [X6 x1] v none 5 (XJ _) (J4 rfl) rfl (by simp<;>omega) (by rw [Vg Z3];simp [Ub]) fun v3=>Zs 1 2 [10] (Z9 11 (X5 11 2 [] [] b3 [Xl (b.steps.take (k+1)) v3,.i b.result] (de (az (Z0 1 (ZE k (Z1 (ZH ⟨k+1,v3,ob,rfl,rfl,rfl⟩ (wk [0,2,2,0] (ZL k fl)))))))))))))))))
 exact ax 0 (Zq 1 [0] (ZB 1 b2 [Xl (b.steps.take k) v,.i b.result] (ie (ZU (r3 [] [.agg [Xl (b.steps.take k) v,.i b.result]] [0] [(b2,b2)] ⟨rfl,rfl⟩ (Ze.agg (.cons (Ze.sl _ (Yj ZQ (by rw [WR om]))) (.cons (lr _) .nil))))))))
theorem Z0s (k:Nat):(∀(s:Z6),(s.sz<=k)->(s.sz<=1000000000)->Zp 246 [X6 s] [] (Yu (X6 s)))/\(∀(b:Z8),(b.sz<=k)->(b.sz<=1000000000)->Zp 216 [Yn b] [] (Yu (Yn b))):=by
 induction k with
 | zero=>exact ⟨fun s h=>by have:=s.sz_pos;omega,fun s h=>by have:=s.sz_pos;omega⟩
 | succ k ih=>exact ⟨fun s h hz=>Zfm s (fun b2 h2 h3=>ih.2 b2 om h3) hz,fun b h hz=>Zfj b (fun s2 h2 h3=>ih.1 s2 om h3) hz⟩
theorem Zfl (s:Z6) (hz:s.sz<=1000000000:=by exact ob):Zp 246 [X6 s] [] (Yu (X6 s)):=(Z0s s.sz).1 s (Xc _) hz
theorem Zfi (b:Z8) (hz:b.sz<=1000000000:=by exact ob):Zp 216 [Yn b] [] (Yu (Yn b)):=(Z0s b.sz).2 b (Xc _) hz
theorem Gn (n:ZF) (ls:List LI) (qz:Nat) (hn:FO n qz WW:=by exact ob) (hqz:qz<=100000:=by exact ob) (hls:LC n n.routines.length ls:=by exact ob):Zp 182 [YF n,DO ls] [] (fun r h=>∃(n2:ZF),r=YF n2/\h=[]/\FO n2 qz WW/\n2.routines.length=n.routines.length):=by
 have hnl:=hn.fn.len
 have Xu:=hn.fn.decls.ok
 have hll:=hls.len
 refine ZG 45 Tryz.func182 (ar (iA (Xb n) fun b1=>iA [nl,nl] fun b2=>ie (Zq 2 [1] (Zt [] (Bb n.decls) (iL (Xd []) 0 5 fun v1=>Z0 1 (iA [nl,nl] fun b3=>?_))))))
 refine ZB 0 b3 [Yf n.decls,V1 [] v1] (ie (Y4 (ab 0 (Y5 (fun fz gz m F h=>∃(k:Nat) (rs:List YC) (u:Value),(k<=n.routines.length)/\(rs.length=k)/\(∀r∈rs,RF n.decls n.routines.length qz WW r)/\F=sF [1,2,4,5] fz [(6,.i k)]/\h=[.obj b3 [Yf n.decls,V1 rs u],Zj gz 2,Zj gz 3,.tail u 5]/\m=n.routines.length-k) _ _ _ ⟨0,[],v1,ob,ob,(fun r hr=>by cases hr),rfl,rfl,rfl⟩ (wk [0,1,1,0] (Yg fl)) ?_))))
 rintro m F h ⟨k,rs,u,Yi,Zk,ZA,rfl,rfl,rfl⟩
 refine Yt 3 [2] (iw (Q2 n.routines) (Y0 ((k:Int)<(n.routines.length:Int)) (fun Za=>?_) (fun Za=>?_)))
 ·refine ak (aq (ab 1 (Zq 3 [2] ?_)))
  obtain ⟨x1,Z3⟩:=Zu n.routines k om
  have hrf:=hn.rf (Y3 Z3)
  have hrp:=hn.fn.ok.params_at Z3
  have hrz:=hrf.body.2
  refine Zm (Zi none (k:Int) 5 (VN Z3)) (Z0 1 (iA [nl,nl,.i 0,nl,.i 0] fun b4=>ZB 0 b4 (JB x1) (ie (aE 20 (ZY 14 20 [0,1,2,3,5,6] [1,0] ?_)))))
  obtain ⟨x2,Zv⟩:=Zu ls k om
  have hlc:=hls.at Zv Z3
  refine dx 7 (Zi none (k:Int) 1 (Z5l Zv)) (ZY 8 13 [8,10,11,12,13] [0,0] (Z9 4 (dc 4 [] [0,0,1] [b4,b4,b3] (WQ x1.params) ?_)))
  rintro _ _ ⟨v2,rfl,rfl⟩
  refine Z9 9 (dc 9 [] [0,0,1] [b4,b4,b3] (WQ x2) ?_)
  rintro _ _ ⟨v3,rfl,rfl⟩
  exact Z9 14 (YI 14 [] [0,1] [b4,b3] (Zfi x1.body) (Yw 4 5 [15] [(40,.agg [Z4 x1.params,Z4 x2,.i x1.result,Vt x1.body.steps,.i x1.body.result])] (Z9 16 (dL 16 [1] [b3] (Xd [YC.mk x1.params x2 x1.result (Z8.mk x1.body.steps x1.body.result)]) 1 5 fun v4=>Yw 3 3 [] [(41,JH [YC.mk x1.params x2 x1.result (Z8.mk x1.body.steps x1.body.result)])] (Z9 17 (dp 17 7 [] [] (Xd (rs++[YC.mk x1.params x2 x1.result (Z8.mk x1.body.steps x1.body.result)])) (Xd rs) (Xd [YC.mk x1.params x2 x1.result (Z8.mk x1.body.steps x1.body.result)]) u none 5 (Te _) (Te _) (Bx _) (by simp<;>omega) (by simp [Dr,Xd]) fun v5=>Zs 1 2 [18] (Z9 19 (X5 19 5 [] [] b3 [Yf n.decls,V1 (rs++[YC.mk x1.params x2 x1.result (Z8.mk x1.body.steps x1.body.result)]) v5] (de (az (Z0 1 (ZE k (Z1 (ZH ⟨k+1,(rs++[YC.mk x1.params x2 x1.result (Z8.mk x1.body.steps x1.body.result)]),v5,ob,ob,(XI ZA (by rw [Z8.eta];exact hrf.lend hlc.1 hlc.2)),rfl,rfl,rfl⟩ (wk [0,5,5,0] (ZL k fl))))))))))))))))
 exact ax 0 (Zq 1 [0] (ZB 1 b2 [Yf n.decls,V1 rs u] (ie (ZU (r3 [] [.agg [Yf n.decls,V1 rs u]] [0] [(b2,b2)] ⟨(ZF.mk n.decls rs),rfl,rfl,(FO.fin hn.fn om ZA)⟩ (Ze.agg (.cons (lr _) (.cons (Ze.forget _ _) .nil))))))))
theorem Z8n (n:ZF) (qz:Nat) (hn:FO n qz WW:=by exact ob) (hqz:qz<=100000:=by exact ob):Zp 167 [YF n] [] (fun r h=>∃(n2:ZF),r=YF n2/\h=[]/\FO n2 qz WW):=by
 refine ZG 33 Tryz.func167 (ar (iA (Xb n) fun b1=>iA [nl,nl] fun b2=>?_))
 refine ie (aD 6 (ZY 4 6 [0,1] [1,1] (Bu (fun fz gz F h=>∃(n21:ZF) (b3:Nat) (xs1:List LI),(LC n n.routines.length xs1)/\(FO n21 qz WW/\n21.routines.length=n.routines.length)/\F=sF [2] fz [(3,.p b3 0)]/\h=[.obj b3 (Xb n21),Zj gz 0,Zj gz 1]) ?_ ?_)))
 ·refine Uo 2 4 ?_ ?_
  ·refine dc 2 [] [1] [b1] (OW n qz (hn:=hn.fn)) ?_
   rintro _ _ ⟨xs1,rfl,rfl,Y7⟩
   refine Uo 3 4 ?_ ?_
   ·refine dc 3 [] [] [] (Gn n xs1 qz (hls:=(by first|assumption|(rw [<-hjl];exact W4)))) ?_
    rintro _ _ ⟨n21,rfl,rfl,Ym⟩
    have hwl:=Ym
    exact Z9 4 (dA 4 [] [] [nl,nl] fun b3=>Z9 5 (X5 5 0 [] [] b3 (Xb n21) (de (ZI ⟨_,b3,_,(by assumption),(by assumption),rfl,rfl⟩ (Zx 3 fl)))))
   refine dA 4 [1] [b1] [nl,nl] fun b4=>Z9 3 (dc 3 [] [] [] (Gn n xs1 qz (hls:=(by first|assumption|(rw [<-hjl];exact W4)))) ?_)
   rintro _ _ ⟨n22,rfl,rfl,YL⟩
   have hwl:=YL
   exact Z9 5 (X5 5 0 [] [] b4 (Xb n22) (de (ZI ⟨_,b4,_,(by assumption),(by assumption),rfl,rfl⟩ (Zx 3 fl))))
  refine dA 4 [1,1] [b1,b1] [nl,nl] fun b5=>Z9 2 (dc 2 [] [2] [b1] (OW n qz (hn:=hn.fn)) ?_)
  rintro _ _ ⟨xs2,rfl,rfl,X3⟩
  refine Z9 3 (dc 3 [] [] [] (Gn n xs2 qz (hls:=(by first|assumption|(rw [<-hjl];exact W4)))) ?_)
  rintro _ _ ⟨n23,rfl,rfl,Xf⟩
  have hwl:=Xf
  exact Z9 5 (X5 5 0 [] [] b5 (Xb n23) (de (ZI ⟨_,b5,_,(by assumption),(by assumption),rfl,rfl⟩ (Zx 3 fl))))
 rintro F h ⟨n21,b3,xs1,Y7,Ym,rfl,rfl⟩
 have hwl:=Ym
 refine Y4 (ab 0 (Y5 (fun fz gz m F h=>∃(k:Nat) (nn:ZF),(k<=13)/\(FO nn qz WW)/\F=sF [2,3] fz [(4,.i k)]/\h=[.obj b3 (Xb nn),Zj gz 1]/\m=13-k) _ _ _ ⟨0,n21,ob,hwl.1,rfl,rfl,rfl⟩ (wk [0,0] (Yg fl)) ?_))
 rintro m F h ⟨k,nn,Yi,Zk,rfl,rfl,rfl⟩
 refine Xe (Y0 ((k:Int)<=12) (fun Za=>?_) (fun Za=>?_))
 ·refine ak (aq (ab 1 (ar (iL (W2 []) 0 1 fun v1=>?_))))
  refine Z1 (Y4 (ab 2 (Y5 (fun fz gz m F h=>∃(j:Nat) (ls:List LI) (u:Value),(j<=nn.routines.length)/\(LC nn j ls)/\(ls.length=j)/\F=sF [2,3,4] fz [(5,M8 ls u),(6,.i j)]/\h=[Zj gz 1,Zj gz 2,.tail u 1]/\m=nn.routines.length-j) _ _ _ ⟨0,[],v1,ob,LC.nil,ob,rfl,rfl,rfl⟩ (wk [1,1,0] (fr (Yg fl))) ?_)))
  rintro m F h ⟨j,ls,u,Ui,W4,XV,rfl,rfl,rfl⟩
  refine Yt 3 [0] (iw (Q2 nn.routines) (Y0 ((j:Int)<(nn.routines.length:Int)) (fun Zh=>?_) (fun Zh=>?_)))
  ·obtain ⟨rt,hrt⟩:=Zu nn.routines j om
   have hrl:=(Zk.rf (Y3 hrt)).lent
   have hnl4:=Zk.fn.len
   refine ak (aq (ab 3 (az (Zy 3 [0] (ic [] (Z8f nn rt j qz (hn:=Zk.fn) (hr:=hrt)) ?_)))))
   rintro _ _ ⟨xs3,rfl,rfl,XS⟩
   have hkl:=XS
   exact iL (W2 [xs3]) 1 1 fun v2=>ZT 0 [(27,DO [xs3])] (ip 3 (W2 (ls++[xs3])) (W2 ls) (W2 [xs3]) u none 1 (Dq _) (Dq _) (II _) (by simp<;>omega) (by simp [IH,W2]) fun v3=>Z1 (az (Z0 1 (ZE j (Z1 (ZH ⟨j+1,(ls++[xs3]),v3,ob,(W4.snoc om (fun r hr v hv=>by rw [hrt] at hr;cases hr;exact hrl.2 v (hkl.2 v hv))),ob,rfl,rfl,rfl⟩ (wk [2,2,0] (fr (ZL j fl)))))))))
  have hjl:j=nn.routines.length:=by omega
  refine ax 2 (az (Kd 2 [(30,DO ls)] [0] (ic [] (Gn nn ls qz (hls:=(by first|assumption|(rw [<-hjl];exact W4)))) ?_)))
  rintro _ _ ⟨n24,rfl,rfl,Wh⟩
  have hwl:=Wh
  exact ZB 0 b3 (Xb n24) (ie (az (Z0 1 (ZE k (Z1 (ZH ⟨k+1,n24,ob,hwl.1,rfl,rfl,rfl⟩ (wk [0,0] (ZL k fl))))))))
 exact ax 0 (Zq 1 [0] (ZB 1 b2 (Xb nn) (ie (ZU (r3 [] [YF nn] [0] [(b2,b2)] ⟨nn,rfl,rfl,(by first|exact Zk|exact hwl.1)⟩ (lr _))))))
theorem AT (xs:LI) (y:Int) (hl:xs.length<=1000000000:=by exact ob):Zp 129 [Z4 xs,.i y] [] (fun r h=>∃(v:Value),r=ZP (Wz xs y) v/\h=[.tail v 1]):=by
 refine ZG 49 Tryz.func129 (Y8 (ar (iL (Z7 []) 0 1 fun v1=>?_)))
 refine Z1 (Y8 (Y4 (ab 0 (Y5 (fun fz gz m F h=>∃(k:Nat) (acc:LI) (d:Bool) (v:Value),(k<=xs.length)/\(acc.length<=k+(if d=true then 1 else 0))/\(acc++Qp d (xs.drop k) y=Wz xs y)/\F=sF [0,1] fz [(5,ZP acc v),(6,.b d),(7,.i k)]/\h=[.tail v 1]/\m=xs.length-k) _ _ _ ⟨0,[],false,v1,ob,(by simp),rfl,rfl,rfl,rfl⟩ (wk [0] (fw (Yg fl))) ?_))))
 rintro m F h ⟨k,acc,d,v,Yi,Zk,ZA,rfl,rfl,rfl⟩
 refine YP 2 (iw (Yb xs) (Y0 ((k:Int)<(xs.length:Int)) (fun Za=>?_) (fun Za=>?_)))
 ·obtain ⟨x1,Z3⟩:=Zu xs k om
  have hil:acc.length<=k+1:=Vm Zk (by split<;>omega)
  refine ak (aq (ab 1 (Xe (XC [0,1,5,6,7] [(24,.b ((!d)&&(decide (x1>=y))))] (fun gz=>gz) ?_ ?_))))
  ·refine Z0 3 (ib (b:=(!d)) 17 (fun Zd=>?_) (fun Zd=>?_))
   ·exact Z0 2 (Zm (Zi none (k:Int) 1 (Y6 Z3)) (Z1 (wk [0] (Zo (decide (x1>=y)) Zd fl))))
   exact Z1 (wk [0] (Zo false Zd fl))
  refine Xv (fun fz gz F h=>∃(acc2:LI) (d2:Bool) (w:Value),((acc2=acc/\d2=d/\(d=true∨¬x1>=y))∨(acc2=acc++[y]/\d2=true/\¬d=true/\x1>y)∨(acc2=acc/\d2=true/\¬d=true/\x1=y))/\(acc2.length<=k+(if d2=true then 1 else 0))/\(acc2.length<=k+1)/\F=sF [0,1,7] fz [(5,ZP acc2 w),(6,.b d2)]/\h=[.tail w 1]) ?_ ?_
  ·refine ac ((!d)&&(decide (x1>=y))) (p:=(¬(d=true))/\(x1>=y)) (YG (Y1 Iff.rfl) dq) (fun Zh=>?_) (fun Zh=>?_)
   ·refine YP 2 (Zm (Zi none (k:Int) 1 (Y6 Z3)) (Z1 (Xv (fun fz gz F h=>∃(w3:Value),F=sF [0,1,7] fz [(5,ZP (if x1>y then (acc++[y]) else acc) w3)]/\h=[.tail w3 1]) ?_ ?_)))
    ·refine Vh (x1>y) (fun ZC=>?_) (fun ZC=>?_)
     ·exact az (Z0 2 (iL (Z7 [y]) 1 1 fun v2=>ZT 0 [(33,Z4 [y])] (ip 1 (Z7 (acc++[y])) (Z7 acc) (Z7 [y]) v none 1 (YH _) (YH _) (Wb _) (by simp<;>omega) (by simp [Wa,Z7]) fun v3=>Z1 (ZI ⟨v3,rfl,rfl⟩ (wk [0] (fc (x:=ZP (acc++[y]) v3) (Ze.slh _ (Yj Z7 (by first|rfl|(rw [Zb ZC])|(rw [Z5 ZC])|(simp [ZC];done)|(rw [Yd];simp [ZC];done)|omega))) fl))))))
     exact ak (ZI ⟨v,rfl,rfl⟩ (wk [0] (fc (x:=ZP acc v) (Ze.slh _ (Yj Z7 (by first|rfl|(rw [Zb ZC])|(rw [Z5 ZC])|(simp [ZC];done)|(rw [Yd];simp [ZC];done)|omega))) fl)))
    rintro F h ⟨w3,rfl,rfl⟩
    exact Vl (ZI ⟨(if x1>y then (acc++[y]) else acc),true,w3,(if h:x1>y then (by rw [Zb h];exact .inr (.inl ⟨rfl,rfl,Zh.1,h⟩)) else (by rw [Z5 h];exact .inr (.inr ⟨rfl,rfl,Zh.1,by have:=Zh.2;omega⟩))),(by have h1:=Zk;rw [Z5 Zh.1] at h1;split<;>(simp<;>omega)),(by have h1:=Zk;rw [Z5 Zh.1] at h1;split<;>(simp<;>omega)),rfl,rfl⟩ (wk [0] fl))
   exact ak (ZI ⟨acc,d,v,(.inl ⟨rfl,rfl,by by_cases q:d=true;exact .inl q;exact .inr (fun z=>Zh ⟨q,z⟩)⟩),Zk,hil,rfl,rfl⟩ (wk [0] fl))
  rintro F h ⟨acc2,d2,w,VI,B3,LF,rfl,rfl⟩
  exact az (Z0 3 (Zm (Zi none (k:Int) 1 (Y6 Z3)) (Z0 1 (iL (Z7 [x1]) 1 1 fun v4=>ZT 0 [(40,Z4 [x1])] (ip 1 (Z7 (acc2++[x1])) (Z7 acc2) (Z7 [x1]) w none 1 (YH _) (YH _) (Wb _) (by simp<;>omega) (by simp [Wa,Z7]) fun v5=>Z1 (az (Z0 1 (ZE k (Z1 (ZH ⟨k+1,(acc2++[x1]),d2,v5,ob,(by simp only [Yr,Yp,YZ];omega),(Zam Z3 ZA VI),rfl,rfl,rfl⟩ (wk [0] (fw (ZL k fl)))))))))))))
 have hil:acc.length<=k+1:=Vm Zk (by split<;>omega)
 refine ax 0 (Y4 (Xv (fun fz gz F h=>∃(w4:Value),F=sF [] fz [(5,ZP (if d=true then acc else (acc++[y])) w4)]/\h=[.tail w4 1]) ?_ ?_))
 ·refine ac (!d) (p:=¬(d=true)) (Y1 Iff.rfl) (fun Yc=>?_) (fun Yc=>?_)
  ·exact az (Z0 2 (iL (Z7 [y]) 1 1 fun v6=>ZT 0 [(46,Z4 [y])] (ip 1 (Z7 (acc++[y])) (Z7 acc) (Z7 [y]) v none 1 (YH _) (YH _) (Wb _) (by simp<;>omega) (by simp [Wa,Z7]) fun v7=>Z1 (ZI ⟨v7,rfl,rfl⟩ (wk [0] (fc (x:=ZP (acc++[y]) v7) (Ze.slh _ (Yj Z7 (by first|rfl|(rw [Zb Yc])|(rw [Z5 Yc])|(simp [Yc];done)|(rw [Yd];simp [Yc];done)|omega))) fl))))))
  exact ak (ZI ⟨v,rfl,rfl⟩ (wk [0] (fc (x:=ZP acc v) (Ze.slh _ (Yj Z7 (by first|rfl|(rw [Zb Yc])|(rw [Z5 Yc])|(simp [Yc];done)|(rw [Yd];simp [Yc];done)|omega))) fl)))
 rintro F h ⟨w4,rfl,rfl⟩
 exact ar (Zl (r2 [0] [ZP (if d=true then acc else (acc++[y])) w4] ⟨w4,rfl,rfl⟩ (Ze.slh _ (Yj Z7 (Zal om ZA)))))
theorem Le (xs:LI) (y:Int) (hl:xs.length<=1000000000:=by exact ob):Zp 88 [Z4 xs,.i y] [] (fun r h=>∃(v:Value),r=ZP (VA xs y) v/\h=[.tail v 1]):=by
 refine ZG 28 Tryz.func88 (Y8 (ar (iL (Z7 []) 0 1 fun v1=>?_)))
 refine Z1 (Y4 (ab 0 (Y5 (fun fz gz m F h=>∃(k:Nat) (acc:LI) (v:Value),(k<=xs.length)/\(acc.length<=k)/\(acc++VA (xs.drop k) y=VA xs y)/\F=sF [0,1] fz [(5,ZP acc v),(6,.i k)]/\h=[.tail v 1]/\m=xs.length-k) _ _ _ ⟨0,[],v1,ob,ob,rfl,rfl,rfl,rfl⟩ (wk [0] (fr (Yg fl))) ?_)))
 rintro m F h ⟨k,acc,v,Yi,Zk,ZA,rfl,rfl,rfl⟩
 refine YP 2 (iw (Yb xs) (Y0 ((k:Int)<(xs.length:Int)) (fun Za=>?_) (fun Za=>?_)))
 ·refine ak (aq (ab 1 (Ye 2 ?_)))
  obtain ⟨x1,Z3⟩:=Zu xs k om
  refine Zm (Zi none (k:Int) 1 (Y6 Z3)) (Z1 (AI (fun fz gz F h=>∃(w:Value),F=sF [0,1,6] fz [(5,ZP (if x1≠y then (acc++[x1]) else acc) w)]/\h=[.tail w 1]) (fun _ _=>rfl) ?_ ?_))
  ·refine ac (x1 != y) Ys (fun Zh=>?_) (fun Zh=>?_)
   ·exact az (Z0 3 (Zm (Zi none (k:Int) 1 (Y6 Z3)) (Z0 1 (iL (Z7 [x1]) 1 1 fun v2=>ZT 0 [(25,Z4 [x1])] (ip 1 (Z7 (acc++[x1])) (Z7 acc) (Z7 [x1]) v none 1 (YH _) (YH _) (Wb _) (by simp<;>omega) (by simp [Wa,Z7]) fun v3=>Z1 (ZI ⟨v3,rfl,rfl⟩ (wk [0] (fc (x:=ZP (acc++[x1]) v3) (Ze.slh _ (Yj Z7 (by first|rfl|(rw [Zb Zh])|(rw [Z5 Zh])|(simp [Zh];done)|(rw [Yd];simp [Zh];done)|omega))) fl))))))))
   exact ak (ZI ⟨v,rfl,rfl⟩ (wk [0] (fc (x:=ZP acc v) (Ze.slh _ (Yj Z7 (by first|rfl|(rw [Zb Zh])|(rw [Z5 Zh])|(simp [Zh];done)|(rw [Yd];simp [Zh];done)|omega))) fl)))
  rintro F h ⟨w,rfl,rfl⟩
  exact az (Z0 1 (ZE k (Z1 (ZH ⟨k+1,(if x1≠y then (acc++[x1]) else acc),w,ob,(by split<;>(try simp)<;>omega),(Zde Z3 ZA),rfl,rfl,rfl⟩ (wk [0] (fr (ZL k fl)))))))
 exact ax 0 (ar (Zl (r2 [0] [ZP acc v] ⟨v,rfl,rfl⟩ (Ze.slh _ (Yj Z7 (Zdd om ZA))))))
theorem Zfc (s:Z6) (q:Int) (xs:LI) (ih:∀(b2:Z8) (q:Int) (k2:Nat) (xs2:LI),(b2.sz<s.sz)->(k2<=b2.steps.length)->(xs2.length+b2.sz<=1000000000)->Zp 219 [Yn b2,.i q,.i k2,Z4 xs2] [] (Yu (Z4 (UT q (T6 q (b2.steps.drop k2) xs2) b2.result)))) (hz:xs.length+s.sz<=1000000000):Zp 249 [X6 s,.i q,Z4 xs] [] (Yu (Z4 (JM q s xs))):=by
 have hkz:=K1 s
 have haz:=Jo s
 have hse:=s.sz_eq
 refine ZG 58 Tryz.func249 (ar (iA (Wk s) fun b1=>Z1 (Yt 2 [0] (Zt [] (Z0t s.op) (ie (ac (YQ s.op) Iff.rfl (fun Za=>?_) (fun Za=>?_)))))))
 ·exact ar (Zl (ZJ (Z4 xs) (Ze.sl _ (Yj Z7 (by rw [Z1x,Zb (by assumption)])))))
 refine ak (Y4 (ab 0 (Y5 (fun fz gz m F h=>∃(j:Nat) (ys:LI),(j<=s.args.length)/\(ys.length<=xs.length+j)/\(QK q (s.args.drop j) ys=QK q s.args xs)/\F=sF [1,3] fz [(2,Z4 ys),(7,.i j)]/\h=gz/\m=s.args.length-j) _ _ _ ⟨0,xs,ob,ob,rfl,rfl,rfl,rfl⟩ (wk [0] (fr (Yg fl))) ?_)))
 rintro m F h ⟨j,ys,Yi,Zk,ZA,rfl,rfl,rfl⟩
 refine Yt 3 [0] (iw (Yb s.args) (Y0 ((j:Int)<(s.args.length:Int)) (fun Zh=>?_) (fun Zh=>?_)))
 ·refine ak (aq (ab 1 (Zq 3 [0] ?_)))
  obtain ⟨x1,Z3⟩:=Zu s.args j om
  refine Zm (Zi none (j:Int) 1 (Y6 Z3)) (XC [1,2,3,7] [(34,.b ((decide (x1>=0))&&(decide (x1<q))))] (fun gz=>gz) ?_ ?_)
  ·refine Z0 3 (ib (b:=(decide (x1>=0))) 26 (fun Zd=>?_) (fun Zd=>?_))
   ·exact Zy 3 [0] (Zm (Zi none (j:Int) 1 (Y6 Z3)) (Z1 (wk [0] (Zo (decide (x1<q)) Zd fl))))
   exact Z1 (wk [0] (Zo false Zd fl))
  refine AI (fun fz gz F h=>F=sF [1,3,7] fz [(2,Z4 (UT q ys x1))]/\h=gz) (fun _ _=>rfl) ?_ ?_
  ·refine ac ((decide (x1>=0))&&(decide (x1<q))) (p:=(x1>=0)/\(x1<q)) (YG dq dq) (fun ZC=>?_) (fun ZC=>?_)
   ·refine az (Zy 4 [0] (Zm (Zi none (j:Int) 1 (Y6 Z3)) (Z0 1 (ic [] (AT ys x1) ?_))))
    rintro _ _ ⟨v1,rfl,rfl⟩
    exact Z1 (ZI ⟨rfl,rfl⟩ (wk [1] (fc (x:=ZP (Wz ys x1) v1) (Ze.sl _ (Yj Z7 (by rw [UT,Zb (by assumption)]))) fl)))
   exact ak (ZI ⟨rfl,rfl⟩ (wk [0] (fc (x:=Z4 ys) (Ze.sl _ (Yj Z7 (by rw [UT,Z5 (by assumption)]))) fl)))
  rintro F h ⟨rfl,rfl⟩
  exact az (Z0 1 (ZE j (Z1 (ZH ⟨j+1,(UT q ys x1),ob,(by have:=HK (n:=q) ys x1;omega),(Zhm Z3 ZA),rfl,rfl,rfl⟩ (wk [0] (fr (ZL j fl)))))))
 have hA:QK q s.args xs=ys:=(Zhl om ZA).symm
 refine ax 0 (Y4 (ab 2 (Y5 (fun fz gz m F h=>∃(j:Nat) (zs:LI),(j<=s.kids.length)/\(zs.length<=xs.length+s.args.length+YX (s.kids.take j))/\(Jf q (s.kids.drop j) zs=Jf q s.kids (QK q s.args xs))/\F=sF [1,3] fz [(2,Z4 zs),(8,.i j)]/\h=gz/\m=s.kids.length-j) _ _ _ ⟨0,ys,ob,(by rw [List.take_zero,YX];omega),(by rw [hA];rfl),rfl,rfl,rfl⟩ (wk [0] (fr (Yg fl))) ?_)))
 rintro m F h ⟨j,zs,Ui,W4,XV,rfl,rfl,rfl⟩
 refine Yt 3 [0] (iw (Kq s.kids) (Y0 ((j:Int)<(s.kids.length:Int)) (fun Yc=>?_) (fun Yc=>?_)))
 ·refine ak (aq (ab 3 (az (Zy 3 [0] ?_))))
  obtain ⟨x2,Zv⟩:=Zu s.kids j om
  have hks:=Qr Zv
  have hbt:=FQ Zv
  have hbx:=FP Zv
  have hul:=HJ (n:=q) x2 zs
  exact Zm (Zi none (j:Int) 2 (UX Zv)) (Z0 3 (Zt [] (ih x2 q 0 zs ob ob ob) (Z1 (az (Z0 1 (ZE j (Z1 (ZH ⟨j+1,(T5 q x2 zs),ob,om,(Zho Zv XV),rfl,rfl,rfl⟩ (wk [0] (fc (x:=Z4 (UT q (T6 q (x2.steps.drop 0) zs) x2.result)) (Ze.sl _ (Yj Z7 (by rw [Z1v];rfl))) (ZL j fl)))))))))))
 exact ax 2 (ar (Zl (ZJ (Z4 zs) (Ze.sl _ (Yj Z7 (by rw [Z1x,Z5 (by assumption)];exact (Zhn om XV)))))))
theorem Zfd (b:Z8) (q:Int) (k0:Nat) (xs:LI) (ih:∀(s2:Z6) (q:Int) (xs2:LI),(s2.sz<b.sz)->(xs2.length+s2.sz<=1000000000)->Zp 249 [X6 s2,.i q,Z4 xs2] [] (Yu (Z4 (JM q s2 xs2)))) (hk:k0<=b.steps.length) (hz:xs.length+b.sz<=1000000000):Zp 219 [Yn b,.i q,.i k0,Z4 xs] [] (Yu (Z4 (UT q (T6 q (b.steps.drop k0) xs) b.result))):=by
 have hbz:=UB b
 have hbe:=b.sz_eq
 have hsd:=Z18 b.steps k0
 refine ZG 40 Tryz.func219 (ar (iA (W3 b) fun b1=>?_))
 refine Z1 (Y4 (ab 0 (Y5 (fun fz gz m F h=>∃(k:Nat) (ys:LI),(k<=b.steps.length)/\(ys.length+Yx (b.steps.drop k)<=xs.length+Yx (b.steps.drop k0))/\(T6 q (b.steps.drop k) ys=T6 q (b.steps.drop k0) xs)/\F=sF [1,4] fz [(3,Z4 ys),(9,.i k)]/\h=gz/\m=b.steps.length-k) _ _ _ ⟨k0,xs,ob,(Xc _),rfl,rfl,rfl,rfl⟩ (wk [0] fl) ?_)))
 rintro m F h ⟨k,ys,Yi,Zk,ZA,rfl,rfl,rfl⟩
 refine Yt 3 [0] (iw (UH b.steps) (Y0 ((k:Int)<(b.steps.length:Int)) (fun Za=>?_) (fun Za=>?_)))
 ·refine ak (aq (ab 1 (az (Zy 3 [0] ?_))))
  obtain ⟨x1,Z3⟩:=Zu b.steps k om
  have hss:=Ea Z3
  have hsd1:=Z17 Z3
  have hul:=Z1y (n:=q) x1 ys
  exact Zm (Zi none (k:Int) 5 (Ve Z3)) (Z0 3 (Zt [] (ih x1 q ys ob ob) (Z1 (az (Z0 1 (ZE k (Z1 (ZH ⟨k+1,(JM q x1 ys),ob,ob,(Zhq Z3 ZA),rfl,rfl,rfl⟩ (wk [0] (fr (ZL k fl)))))))))))
 refine ax 0 (Xe (XC [3,4] [(34,.b ((decide (b.result>=0))&&(decide (b.result<q))))] (fun gz=>gz) ?_ ?_))
 ·refine Zy 4 [0] (ib (b:=(decide (b.result>=0))) 29 (fun Zd=>?_) (fun Zd=>?_))
  ·exact WJ [0] (wk [0] (Zo (decide (b.result<q)) Zd fl))
  exact Z1 (wk [0] (Zo false Zd fl))
 refine Xv (fun fz gz F h=>F=sF [] fz [(3,Z4 (UT q ys b.result))]/\h=[]) ?_ ?_
 ·refine ac ((decide (b.result>=0))&&(decide (b.result<q))) (p:=(b.result>=0)/\(b.result<q)) (YG dq dq) (fun Zh=>?_) (fun Zh=>?_)
  ·refine az (Zy 3 [0] (ic [] (AT ys b.result) ?_))
   rintro _ _ ⟨v1,rfl,rfl⟩
   exact Z1 (ZI ⟨rfl,rfl⟩ (wk [] (fc (x:=ZP (Wz ys b.result) v1) (Ze.sl _ (Yj Z7 (by rw [UT,Zb (by assumption)]))) fl)))
  exact ak (ZI ⟨rfl,rfl⟩ (wk [] (fc (x:=Z4 ys) (Ze.sl _ (Yj Z7 (by rw [UT,Z5 (by assumption)]))) fl)))
 rintro F h ⟨rfl,rfl⟩
 exact ar (Zl (ZJ (Z4 (UT q ys b.result)) (Ze.sl _ (Yj Z7 (by rw [Zhp om ZA])))))
theorem Zgh (k:Nat):(∀(s:Z6) (q:Int) (xs:LI),(s.sz<=k)->(xs.length+s.sz<=1000000000)->Zp 249 [X6 s,.i q,Z4 xs] [] (Yu (Z4 (JM q s xs))))/\(∀(b:Z8) (q:Int) (k0:Nat) (xs:LI),(b.sz<=k)->(k0<=b.steps.length)->(xs.length+b.sz<=1000000000)->Zp 219 [Yn b,.i q,.i k0,Z4 xs] [] (Yu (Z4 (UT q (T6 q (b.steps.drop k0) xs) b.result)))):=by
 induction k with
 | zero=>exact ⟨fun s q xs h=>by have:=s.sz_pos;omega,fun b q k0 xs h=>by have:=b.sz_pos;omega⟩
 | succ k ih=>exact ⟨fun s q xs h hz=>Zfc s q xs (fun b2 q k2 xs2 h2 hk h3=>ih.2 b2 q k2 xs2 om hk h3) hz,fun b q k0 xs h hk hz=>Zfd b q k0 xs (fun s2 q xs2 h2 h3=>ih.1 s2 q xs2 om h3) hk hz⟩
theorem Z0m (b:Z8) (q:Int) (k0:Nat) (xs:LI) (hk:k0<=b.steps.length:=by exact ob) (hz:xs.length+b.sz<=1000000000:=by exact ob):Zp 219 [Yn b,.i q,.i k0,Z4 xs] [] (Yu (Z4 (UT q (T6 q (b.steps.drop k0) xs) b.result))):=(Zgh b.sz).2 b q k0 xs (Xc _) hk hz
theorem Z12 (b:Z8) (q:Int) (hz:b.sz<=100000000:=by exact ob):Zp 185 [Yn b,.i q] [] (Yu (Z4 (T5 q b []))):=by
 exact ZG 9 Tryz.func185 (ar (iA (W3 b) fun b1=>Z1 (Zq 2 [0] (iL (Z7 []) 0 1 fun v1=>ZT 0 [(7,Z4 [])] (Zt [] (Z0m b q 0 [] (hk:=(Qf _))) (Zl (ZJ (Z4 (UT q (T6 q (b.steps.drop 0) []) b.result)) (Ze.sl _ (Yj Z7 (by rw [Z1v];rfl))))))))))
theorem Z9a (xs:LI) (ys:LI) (hz:xs.length+ys.length<=100000000:=by exact ob):Zp 86 [Z4 xs,Z4 ys] [] (fun r h=>∃(zs:LI),r=Z4 zs/\h=[]/\zs.length<=xs.length+ys.length):=by
 refine ZG 22 Tryz.func86 (Y8 (Ye 1 (ic [] (WQ xs) ?_)))
 rintro _ _ ⟨v1,rfl,rfl⟩
 refine Z1 (Y4 (ab 0 (Y5 (fun fz gz m F h=>∃(k:Nat) (zs:LI),(k<=ys.length)/\(zs.length<=xs.length+k)/\F=sF [1] fz [(5,Z4 zs),(6,.i k)]/\h=[]/\m=ys.length-k) _ _ _ ⟨0,xs,ob,ob,rfl,rfl,rfl⟩ (wk [] (fc (x:=ZP xs v1) (Ze.forget _ _) (Yg fl))) ?_)))
 rintro m F h ⟨k,zs,Yi,Zk,rfl,rfl,rfl⟩
 refine YP 2 (iw (Yb ys) (Y0 ((k:Int)<(ys.length:Int)) (fun Za=>?_) (fun Za=>?_)))
 ·refine ak (aq (ab 1 (az (Z0 3 ?_))))
  obtain ⟨x1,Z3⟩:=Zu ys k om
  refine Zm (Zi none (k:Int) 1 (Y6 Z3)) (Z0 1 (ic [] (AT zs x1) ?_))
  rintro _ _ ⟨v2,rfl,rfl⟩
  exact Z1 (az (Z0 1 (ZE k (Z1 (ZH ⟨k+1,(Wz zs x1),ob,(by have:=Jy zs x1;omega),rfl,rfl,rfl⟩ (wk [] (fc (x:=ZP (Wz zs x1) v2) (Ze.forget _ _) (ZL k fl))))))))
 exact ax 0 (ar (Zl (r1 [] ⟨zs,rfl,rfl,ob⟩)))
theorem OY (xs:LI) (ys:LI) (hz:xs.length<=100000000:=by exact ob) (hy:ys.length<=100000000:=by exact ob):Zp 252 [Z4 xs,Z4 ys] [] (fun r h=>∃(zs:LI) (v:Value),r=ZP zs v/\h=[.tail v 1]/\zs.length<=xs.length/\∀z∈zs,z∈xs):=by
 refine ZG 28 Tryz.func252 (Y8 (ar (iL (Z7 []) 0 1 fun v1=>?_)))
 refine Z1 (Y4 (ab 0 (Y5 (fun fz gz m F h=>∃(k:Nat) (zs:LI) (u:Value),(k<=xs.length)/\(zs.length<=k)/\(∀z∈zs,z∈xs)/\F=sF [0,1] fz [(5,ZP zs u),(6,.i k)]/\h=[.tail u 1]/\m=xs.length-k) _ _ _ ⟨0,[],v1,ob,ob,(fun z hz=>by cases hz),rfl,rfl,rfl⟩ (wk [0] (fr (Yg fl))) ?_)))
 rintro m F h ⟨k,zs,u,Yi,Zk,ZA,rfl,rfl,rfl⟩
 refine YP 2 (iw (Yb xs) (Y0 ((k:Int)<(xs.length:Int)) (fun Za=>?_) (fun Za=>?_)))
 ·refine ak (aq (ab 1 (Ye 3 ?_)))
  obtain ⟨x1,Z3⟩:=Zu xs k om
  refine Zm (Zi none (k:Int) 1 (Y6 Z3)) (Z0 1 (Zt [] (US ys x1) (ie (Vh (x1∈ys) (fun Zh=>?_) (fun Zh=>?_)))))
  ·exact az (Z0 3 (Zm (Zi none (k:Int) 1 (Y6 Z3)) (Z0 1 (iL (Z7 [x1]) 1 1 fun v2=>ZT 0 [(25,Z4 [x1])] (ip 1 (Z7 (zs++[x1])) (Z7 zs) (Z7 [x1]) u none 1 (YH _) (YH _) (Wb _) (by simp<;>omega) (by simp [Wa,Z7]) fun v3=>Z1 (az (Z0 1 (ZE k (Z1 (ZH ⟨k+1,(zs++[x1]),v3,ob,ob,(by first|exact ZA|exact XI ZA (Y3 Z3)),rfl,rfl,rfl⟩ (wk [0] (fr (ZL k fl)))))))))))))
  exact ak (az (Z0 1 (ZE k (Z1 (ZH ⟨k+1,zs,u,ob,ob,(by first|exact ZA|exact XI ZA (Y3 Z3)),rfl,rfl,rfl⟩ (wk [0] (fr (ZL k fl))))))))
 exact ax 0 (ar (Zl (r1 [0] ⟨zs,u,rfl,rfl,⟨by omega,ZA⟩⟩)))
theorem La (xs:LI) (q:Int) (hz:xs.length<=100000000:=by exact ob):Zp 266 [Z4 xs,.i q] [] (fun r h=>∃(zs:LI) (v:Value),r=ZP zs v/\h=[.tail v 1]/\zs.length<=xs.length/\∀z∈zs,z∈xs):=by
 refine ZG 28 Tryz.func266 (Y8 (ar (iL (Z7 []) 0 1 fun v1=>?_)))
 refine Z1 (Y4 (ab 0 (Y5 (fun fz gz m F h=>∃(k:Nat) (zs:LI) (u:Value),(k<=xs.length)/\(zs.length<=k)/\(∀z∈zs,z∈xs)/\F=sF [0,1] fz [(5,ZP zs u),(6,.i k)]/\h=[.tail u 1]/\m=xs.length-k) _ _ _ ⟨0,[],v1,ob,ob,(fun z hz=>by cases hz),rfl,rfl,rfl⟩ (wk [0] (fr (Yg fl))) ?_)))
 rintro m F h ⟨k,zs,u,Yi,Zk,ZA,rfl,rfl,rfl⟩
 refine YP 2 (iw (Yb xs) (Y0 ((k:Int)<(xs.length:Int)) (fun Za=>?_) (fun Za=>?_)))
 ·refine ak (aq (ab 1 (Ye 2 ?_)))
  obtain ⟨x1,Z3⟩:=Zu xs k om
  refine Zm (Zi none (k:Int) 1 (Y6 Z3)) (Y0 (x1<q) (fun Zh=>?_) (fun Zh=>?_))
  ·exact az (Z0 3 (Zm (Zi none (k:Int) 1 (Y6 Z3)) (Z0 1 (iL (Z7 [x1]) 1 1 fun v2=>ZT 0 [(25,Z4 [x1])] (ip 1 (Z7 (zs++[x1])) (Z7 zs) (Z7 [x1]) u none 1 (YH _) (YH _) (Wb _) (by simp<;>omega) (by simp [Wa,Z7]) fun v3=>Z1 (az (Z0 1 (ZE k (Z1 (ZH ⟨k+1,(zs++[x1]),v3,ob,ob,(by first|exact ZA|exact XI ZA (Y3 Z3)),rfl,rfl,rfl⟩ (wk [0] (fr (ZL k fl)))))))))))))
  exact ak (az (Z0 1 (ZE k (Z1 (ZH ⟨k+1,zs,u,ob,ob,(by first|exact ZA|exact XI ZA (Y3 Z3)),rfl,rfl,rfl⟩ (wk [0] (fr (ZL k fl))))))))
 exact ax 0 (ar (Zl (r1 [0] ⟨zs,u,rfl,rfl,⟨by omega,ZA⟩⟩)))
theorem C1 (op:Int) (v:Int) :Zp 153 [.i op,.i v] [] (Yu (X6 (Zw op v))):=by
 exact ZG 10 Tryz.func153 (ar (iA [.i 0,.i 0,.i 0,nl,nl] fun b1=>ie (Ye 2 (iL (Z7 [v]) 1 1 fun v1=>iL (XU []) 0 2 fun v2=>Z0 1 (ZB 2 b1 [.i op,.i 0,.i 0,ZP [v] v1,Qt [] v2] (ie (ZU (r3 [] [.agg [.i op,.i 0,.i 0,ZP [v] v1,Qt [] v2]] [0] [(b1,b1)] ⟨rfl,rfl⟩ (Ze.agg (.cons li (.cons li (.cons li (.cons (Ze.sl _ (Yj Z7 rfl)) (.cons (Ze.sl _ (Yj XU rfl)) .nil))))))))))))))
theorem KG (op:Int) (xs:LI) (hl:xs.length<=1000000000:=by exact ob):Zp 187 [.i op,Z4 xs] [] (fun r h=>∃(v:Value),r=Xl (xs.map (Zw op)) v/\h=[.tail v 5]):=by
 refine ZG 24 Tryz.func187 (Y8 (ar (iL (ZQ []) 0 5 fun v1=>?_)))
 refine Z1 (Y4 (ab 0 (Y5 (fun fz gz m F h=>∃(k:Nat) (v:Value),(k<=xs.length)/\F=sF [0,1] fz [(5,Xl ((xs.take k).map (Zw op)) v),(6,.i k)]/\h=[.tail v 5]/\m=xs.length-k) _ _ _ ⟨0,v1,ob,rfl,rfl,rfl⟩ (wk [0] (fc (x:=Xl [] v1) (Ze.slh _ (Yj ZQ rfl)) (Yg fl))) ?_)))
 rintro m F h ⟨k,v,Yi,rfl,rfl,rfl⟩
 refine YP 2 (iw (Yb xs) (Y0 ((k:Int)<(xs.length:Int)) (fun Za=>?_) (fun Za=>?_)))
 ·refine ak (aq (ab 1 (az (Z0 4 ?_))))
  obtain ⟨x1,Z3⟩:=Zu xs k om
  exact Zm (Zi none (k:Int) 1 (Y6 Z3)) (Z0 1 (Zt [] (C1 op x1) (iL [X6 (Zw op x1)] 1 5 fun v2=>ZT 0 [(21,.sl [X6 (Zw op x1)] none)] (ip 1 (ZQ ((xs.take (k+1)).map (Zw op))) (ZQ ((xs.take k).map (Zw op))) [X6 (Zw op x1)] v none 5 (XJ _) (J4 rfl) rfl (by simp<;>omega) (by rw [Vg Z3];simp [Ub]) fun v3=>Z1 (az (Z0 1 (ZE k (Z1 (ZH ⟨k+1,v3,ob,rfl,rfl,rfl⟩ (wk [0] (fr (ZL k fl))))))))))))
 exact ax 0 (ar (Zl (r2 [0] [Xl ((xs.take k).map (Zw op)) v] ⟨v,rfl,rfl⟩ (Ze.slh _ (Yj ZQ (by rw [WR om]))))))
theorem Z8s (n:ZF) (s:Z6) (i:Nat) (mm:Nat) (hn:XA n:=by exact ob) (hf:FS n.decls n.routines.length mm s:=by exact ob) (hi:i<s.args.length:=by exact ob):Zp 265 [YF n,X6 s,.i i] [] (fun r h=>∃(wr:Bool),r=.b wr/\h=[]):=by
 have hal:=hf.alen
 refine ZG 42 Tryz.func265 (ar (iA (Xb n) fun b1=>iA (Wk s) fun b2=>?_))
 refine Z1 (Y4 (ab 0 (Y5 (fun fz gz m F h=>∃(k:Nat),(k<=s.args.length)/\F=sF [2,3,4] fz [(7,.i k)]/\h=gz/\m=s.args.length-k) _ _ _ ⟨0,ob,rfl,rfl,rfl⟩ (wk [0,0] (Yg fl)) ?_)))
 rintro m F h ⟨k,Yi,rfl,rfl,rfl⟩
 refine Yt 3 [0] (iw (Yb s.args) (Y0 ((k:Int)<(s.args.length:Int)) (fun Za=>?_) (fun Za=>?_)))
 ·refine ak (aq (ab 1 (aD 27 (Zs 23 27 [0,1,2,3] (db (b:=((k:Int) != (i:Int))) 18 (fun Zd=>?_) (fun Zd=>?_))))))
  ·refine ZY 20 23 [4,5,6] [0] ?_
   obtain ⟨x1,Z3⟩:=Zu s.args k om
   refine dx 7 (Zi none (k:Int) 1 (Y6 Z3)) (ZY 15 19 [8,9,10,11] [0] ?_)
   obtain ⟨x2,Zv⟩:=Zu s.args i om
   refine dx 12 (Zi none (i:Int) 1 (Y6 Zv)) (Zs 10 14 [13,14,15,16] (db (b:=(x1==x2)) 31 (fun ZD=>?_) (fun ZD=>?_)))
   ·refine Zs 6 10 [17,18,19,20] (db (b:=(decide ((k:Int)>(i:Int)))) 35 (fun Yk=>?_) (fun Yk=>?_))
    ·exact Zs 0 6 [21,22,23,24,25,26] (de (Vo (ar (Zl (r1 [] ⟨true,rfl,rfl⟩)))))
    refine ZY 3 6 [21,22,23] [1,0] (Z9 24 (YI 24 [] [] [] (Fk n s k (hnum:=hf.call)) (Zs 0 2 [25,26] (de (ac (T2 n s.op s.num k) Iff.rfl (fun Zh=>?_) (fun Zh=>?_))))))
    ·exact ar (Zl (r1 [] ⟨true,rfl,rfl⟩))
    exact ak (az (Z0 1 (ZE k (Z1 (ZH ⟨k+1,ob,rfl,rfl,rfl⟩ (wk [0,0] (ZL k fl)))))))
   exact Zs 0 10 [17,18,19,20,21,22,23,24,25,26] (de (VF (ak (az (Z0 1 (ZE k (Z1 (ZH ⟨k+1,ob,rfl,rfl,rfl⟩ (wk [0,0] (ZL k fl))))))))))
  exact Zs 0 23 [4,5,6,7,8,9,10,11,12,13,14,15,16,17,18,19,20,21,22,23,24,25,26] (de (VF (ak (az (Z0 1 (ZE k (Z1 (ZH ⟨k+1,ob,rfl,rfl,rfl⟩ (wk [0,0] (ZL k fl))))))))))
 exact ax 0 (ar (Zl (r1 [] ⟨false,rfl,rfl⟩)))
theorem P4 (n:ZF) (s:Z6) (i:Nat) (mm:Nat) (os:LI) (ls:LI) (hn:XA n:=by exact ob) (hf:FS n.decls n.routines.length mm s:=by exact ob) (hi:i<s.args.length:=by exact ob) (ho:os.length<=100000000:=by exact ob) (hl:ls.length<=100000000:=by exact ob):Zp 250 [YF n,X6 s,.i i,Z4 os,Z4 ls] [] (fun r h=>∃(wr:Bool),r=.b wr/\h=[]):=by
 refine ZG 34 Tryz.func250 (ar (iA (Xb n) fun b1=>iA (Wk s) fun b2=>Z1 (Zq 4 [0] ?_)))
 obtain ⟨x1,Z3⟩:=Zu s.args i om
 refine Zm (Zi none (i:Int) 1 (Y6 Z3)) (Z0 1 (Zt [] (US ls x1) (Z0 1 (ib (b:=(decide (x1∈ls))) 18 (fun Zd=>?_) (fun Zd=>?_)))))
 ·exact Zl (r1 [] ⟨true,rfl,rfl⟩)
 refine Zy 4 [0] (Zm (Zi none (i:Int) 1 (Y6 Z3)) (Z0 1 (Zt [] (US os x1) (Z0 3 (ib (b:=(!(decide (x1∈os)))) 28 (fun ZD=>?_) (fun ZD=>?_))))))
 ·exact Zl (r1 [] ⟨true,rfl,rfl⟩)
 refine Zy 3 [1,0] (ic [] (Z8s n s i mm) ?_)
 rintro _ _ ⟨wr1,rfl,rfl⟩
 exact Zl (r1 [] ⟨wr1,rfl,rfl⟩)
theorem Z86 (n:ZF) (us:LI) (s:Z6) (os:LI) (ls:LI) (mm:Nat) (hn:XA n:=by exact ob) (hf:FS n.decls n.routines.length mm s:=by exact ob) (hvl:us.length=mm:=by exact ob) (hm:mm<=100000000:=by exact ob) (ho:os.length<=100000000:=by exact ob) (hl:ls.length<=100000000:=by exact ob):Zp 220 [YF n,Z4 us,X6 s,Z4 os,Z4 ls] [] (fun r h=>∃(zs:LI),r=Z4 zs/\h=[]/\zs.length<=s.args.length/\∀z∈zs,z∈s.args):=by
 have hal:=hf.alen
 refine ZG 43 Tryz.func220 (ar (iA (Xb n) fun b1=>iA (Wk s) fun b2=>Z1 (ar (iL (Z7 []) 0 1 fun v1=>?_))))
 refine Z1 (Y4 (ab 0 (Y5 (fun fz gz m F h=>∃(k:Nat) (zs:LI) (u:Value),(k<=s.args.length)/\(zs.length<=k)/\(∀z∈zs,z∈s.args)/\F=sF [1,3,4,5,7] fz [(11,ZP zs u),(12,.i k)]/\h=[Zj gz 1,Zj gz 2,.tail u 1]/\m=s.args.length-k) _ _ _ ⟨0,[],v1,ob,ob,(fun z hz=>by cases hz),rfl,rfl,rfl⟩ (wk [1,1,0] (fr (Yg fl))) ?_)))
 rintro m F h ⟨k,zs,u,Yi,Zk,ZA,rfl,rfl,rfl⟩
 refine Yt 3 [0] (iw (Yb s.args) (Y0 ((k:Int)<(s.args.length:Int)) (fun Za=>?_) (fun Za=>?_)))
 ·obtain ⟨a1,ha1⟩:=Zu s.args k om
  have har:=hf.args a1 (Y3 ha1)
  refine ak (aq (ab 1 (Zq 4 [1,0] (Zt [] (HC n us s k a1 (hnum:=hf.call) (ha:=ha1)) (Z0 1 (ib (b:=Jp n us s.op s.num a1 k) 26 (fun Zd=>?_) (fun Zd=>?_)))))))
  ·refine Zy 5 [1,0] (ic [] (P4 n s k mm os ls) ?_)
   rintro _ _ ⟨wr1,rfl,rfl⟩
   refine Yy wr1 Iff.rfl (fun Zh=>?_) (fun Zh=>?_)
   ·exact az (Zy 4 [0] (Zm (Zi none (k:Int) 1 (Y6 ha1)) (Z0 1 (iL (Z7 [a1]) 1 1 fun v2=>ZT 0 [(40,Z4 [a1])] (ip 3 (Z7 (zs++[a1])) (Z7 zs) (Z7 [a1]) u none 1 (YH _) (YH _) (Wb _) (by simp<;>omega) (by simp [Wa,Z7]) fun v3=>Z1 (az (Z0 1 (ZE k (Z1 (ZH ⟨k+1,(zs++[a1]),v3,ob,ob,(by first|exact ZA|exact XI ZA (Y3 ha1)),rfl,rfl,rfl⟩ (wk [2,2,0] (fr (ZL k fl)))))))))))))
   exact ak (az (Z0 1 (ZE k (Z1 (ZH ⟨k+1,zs,u,ob,ob,(by first|exact ZA|exact XI ZA (Y3 ha1)),rfl,rfl,rfl⟩ (Zx 3 (fr (ZL k fl))))))))
  exact Z1 (VF (ak (az (Z0 1 (ZE k (Z1 (ZH ⟨k+1,zs,u,ob,ob,(by first|exact ZA|exact XI ZA (Y3 ha1)),rfl,rfl,rfl⟩ (Zx 3 (fr (ZL k fl))))))))))
 exact ax 0 (ar (Zl (r2 [] [ZP zs u] ⟨zs,rfl,rfl,⟨by omega,ZA⟩⟩ (Ze.forget _ _))))
theorem Z8l (n:ZF) (us:LI) (s:Z6) (os:LI) (ls:LI) (mm:Nat) (hn:XA n:=by exact ob) (hf:FS n.decls n.routines.length mm s:=by exact ob) (hvl:us.length=mm:=by exact ob) (hm:mm<=100000000:=by exact ob) (ho:os.length<=100000000:=by exact ob) (hl:ls.length<=100000000:=by exact ob):Zp 222 [YF n,Z4 us,X6 s,Z4 os,Z4 ls] [] (fun r h=>∃(zs:LI) (v:Value),r=ZP zs v/\h=[.tail v 1]/\zs.length<=os.length/\∀z∈zs,z∈os):=by
 have hal:=hf.alen
 refine ZG 55 Tryz.func222 (ar (iA (Xb n) fun b1=>iA (Wk s) fun b2=>Z1 (Yt 4 [0] (ib (b:=(s.op==7)) 16 (fun Zd=>?_) (fun Zd=>?_)))))
 ·refine Z1 (Vo (Ye 2 (ic [] (OY os ls) ?_)))
  rintro _ _ ⟨zs1,v1,rfl,rfl,Ym⟩
  have hco:=Ym
  exact Zl (r1 [0] ⟨zs1,v1,rfl,rfl,(by first|exact hco|exact ⟨by omega,ZA⟩)⟩)
 refine WJ [0] (ac (s.op==8) Zg (fun Za=>?_) (fun Za=>?_))
 ·refine Ye 2 (ic [] (OY os ls) ?_)
  rintro _ _ ⟨zs2,v2,rfl,rfl,X3⟩
  have hco:=X3
  exact Zl (r1 [0] ⟨zs2,v2,rfl,rfl,(by first|exact hco|exact ⟨by omega,ZA⟩)⟩)
 refine ak (Ye 1 (ic [] (WQ os) ?_))
 rintro _ _ ⟨v3,rfl,rfl⟩
 refine Z1 (Y4 (ab 0 (Y5 (fun fz gz m F h=>∃(k:Nat) (zs:LI) (u:Value),(k<=s.args.length)/\(zs.length<=os.length)/\(∀z∈zs,z∈os)/\F=sF [1,3,4,5,7] fz [(11,ZP zs u),(12,.i k)]/\h=[Zj gz 1,Zj gz 2,.tail u 1]/\m=s.args.length-k) _ _ _ ⟨0,os,v3,ob,ob,(fun z hz=>hz),rfl,rfl,rfl⟩ (wk [1,1,0] (fr (Yg fl))) ?_)))
 rintro m F h ⟨k,zs,u,Yi,Zk,ZA,rfl,rfl,rfl⟩
 refine Yt 3 [0] (iw (Yb s.args) (Y0 ((k:Int)<(s.args.length:Int)) (fun Zh=>?_) (fun Zh=>?_)))
 ·obtain ⟨a1,ha1⟩:=Zu s.args k om
  have har:=hf.args a1 (Y3 ha1)
  refine ak (aq (ab 1 (Zq 4 [1,0] (Zt [] (HC n us s k a1 (hnum:=hf.call) (ha:=ha1)) (Z0 1 (ib (b:=Jp n us s.op s.num a1 k) 38 (fun ZD=>?_) (fun ZD=>?_)))))))
  ·refine Zy 5 [1,0] (ic [] (P4 n s k mm os ls) ?_)
   rintro _ _ ⟨wr1,rfl,rfl⟩
   refine Yy (!wr1) (p:=¬(wr1=true)) (Y1 Iff.rfl) (fun ZC=>?_) (fun ZC=>?_)
   ·refine az (Zy 4 [0] (Zm (Zi none (k:Int) 1 (Y6 ha1)) (ZT 1 [(47,Z4 zs)] (ic [] (Le zs a1) ?_))))
    rintro _ _ ⟨v4,rfl,rfl⟩
    exact Z1 (az (Z0 1 (ZE k (Z1 (ZH ⟨k+1,(VA zs a1),v4,ob,(by first|exact Zk|exact Vm (BR _ _) Zk),(by first|exact ZA|exact (fun z hz=>ZA z (DV hz))),rfl,rfl,rfl⟩ (wk [1,1,0] (fr (ZL k fl))))))))
   exact ak (az (Z0 1 (ZE k (Z1 (ZH ⟨k+1,zs,u,ob,(by first|exact Zk|exact Vm (BR _ _) Zk),(by first|exact ZA|exact (fun z hz=>ZA z (DV hz))),rfl,rfl,rfl⟩ (Zx 3 (fr (ZL k fl))))))))
  exact Z1 (VF (ak (az (Z0 1 (ZE k (Z1 (ZH ⟨k+1,zs,u,ob,(by first|exact Zk|exact Vm (BR _ _) Zk),(by first|exact ZA|exact (fun z hz=>ZA z (DV hz))),rfl,rfl,rfl⟩ (Zx 3 (fr (ZL k fl))))))))))
 exact ax 0 (ar (Zl (r1 [2] ⟨zs,u,rfl,rfl,(by first|exact hco|exact ⟨by omega,ZA⟩)⟩)))
theorem Z8m (n:ZF) (s:Z6) (os:LI) (ls:LI) (mm:Nat) (hn:XA n:=by exact ob) (hf:FS n.decls n.routines.length mm s:=by exact ob) (ho:os.length<=100000000:=by exact ob) (hl:ls.length<=100000000:=by exact ob):Zp 223 [YF n,X6 s,Z4 os,Z4 ls] [] (fun r h=>∃(zs:LI),r=Z4 zs/\h=[]/\zs.length<=s.args.length/\∀z∈zs,z∈s.args):=by
 have hal:=hf.alen
 refine ZG 50 Tryz.func223 (ar (iA (Xb n) fun b1=>iA (Wk s) fun b2=>Z1 (ar (iL (Z7 []) 0 1 fun v1=>?_))))
 refine Z1 (Y4 (ab 0 (Y5 (fun fz gz m F h=>∃(k:Nat) (zs:LI) (u:Value),(k<=s.args.length)/\(zs.length<=k)/\(∀z∈zs,z∈s.args)/\F=sF [2,3,4,5] fz [(9,ZP zs u),(10,.i k)]/\h=[Zj gz 1,Zj gz 2,.tail u 1]/\m=s.args.length-k) _ _ _ ⟨0,[],v1,ob,ob,(fun z hz=>by cases hz),rfl,rfl,rfl⟩ (wk [1,1,0] (fr (Yg fl))) ?_)))
 rintro m F h ⟨k,zs,u,Yi,Zk,ZA,rfl,rfl,rfl⟩
 refine Yt 3 [0] (iw (Yb s.args) (Y0 ((k:Int)<(s.args.length:Int)) (fun Za=>?_) (fun Za=>?_)))
 ·obtain ⟨a1,ha1⟩:=Zu s.args k om
  have har:=hf.args a1 (Y3 ha1)
  refine ak (aq (ab 1 (Zq 3 [1,0] (Zt [] (Fk n s k (hnum:=hf.call)) (YV 13 [2,3,4,5,9,10] [(31,.b (T2 n s.op s.num k&&(decide (a1∈os))))] (fun gz=>gz) ?_ (fun hj1=>?_))))))
  ·refine XC [2,3,4,5,9,10] [(41,.b ((T2 n s.op s.num k&&(decide (a1∈os)))&&(!(decide (a1∈ls)))))] (fun gz=>gz) ?_ ?_
   ·refine Z0 1 (ib (b:=(T2 n s.op s.num k&&(decide (a1∈os)))) 32 (fun Zd=>?_) (fun Zd=>?_))
    ·exact Zy 4 [0] (Zm (Zi none (k:Int) 1 (Y6 ha1)) (Z0 1 (Zt [] (US ls a1) (Z1 (Zx 3 (Zo (!(decide (a1∈ls))) Zd fl))))))
    exact Z1 (Zx 3 (Zo false Zd fl))
   refine ac ((T2 n s.op s.num k&&(decide (a1∈os)))&&(!(decide (a1∈ls)))) (p:=((T2 n s.op s.num k=true)/\(a1∈os))/\(¬(a1∈ls))) (YG (YG Iff.rfl dq) (Y1 dq)) (fun Zh=>?_) (fun Zh=>?_)
   ·refine az (Zy 4 [0] (Zm (Zi none (k:Int) 1 (Y6 ha1)) (ZT 1 [(42,Z4 zs)] (ic [] (AT zs a1) ?_))))
    rintro _ _ ⟨v2,rfl,rfl⟩
    exact Z1 (az (Z0 1 (ZE k (Z1 (ZH ⟨k+1,(Wz zs a1),v2,ob,(by first|omega|(have:=Jy zs a1;omega)),(by first|exact ZA|exact (fun z hz=>(CJ.1 hz).elim (ZA z) (fun e=>e▸Y3 ha1))),rfl,rfl,rfl⟩ (wk [1,1,0] (fr (ZL k fl))))))))
   exact ak (az (Z0 1 (ZE k (Z1 (ZH ⟨k+1,zs,u,ob,(by first|omega|(have:=Jy zs a1;omega)),(by first|exact ZA|exact (fun z hz=>(CJ.1 hz).elim (ZA z) (fun e=>e▸Y3 ha1))),rfl,rfl,rfl⟩ (Zx 3 (fr (ZL k fl))))))))
  refine Z0 1 (ib (b:=T2 n s.op s.num k) 23 (fun ZD=>?_) (fun ZD=>?_))
  ·exact Zy 4 [0] (Zm (Zi none (k:Int) 1 (Y6 ha1)) (Z0 1 (Zt [] (US os a1) (Z0 1 (ZX (Zx 3 (Zo (decide (a1∈os)) ZD fl)) hj1)))))
  exact Z0 8 (ZX (Zx 3 (Zo false ZD fl)) hj1)
 exact ax 0 (ar (Zl (r2 [] [ZP zs u] ⟨zs,rfl,rfl,⟨by omega,ZA⟩⟩ (Ze.forget _ _))))
theorem E6 (rt:YC) (b:Z8) (hp:rt.params.length<=4294967296:=by exact ob) (hl:rt.lent.length<=4294967296:=by exact ob):Zp 155 [JT rt,Yn b] [] (Yu (JT (YC.mk rt.params rt.lent rt.result b))):=by
 refine ZG 15 Tryz.func155 (ar (iA (JB rt) fun b1=>iA (W3 b) fun b2=>iA [nl,nl,.i 0,nl,.i 0] fun b3=>ie (aD 11 (ZY 4 11 [0,1,3,4,6,7,8] [2,2,2,1] (Z9 2 (dc 2 [] [1,2,2] [b2,b1,b1] (WQ rt.params) ?_))))))
 rintro _ _ ⟨v1,rfl,rfl⟩
 refine Z9 5 (dc 5 [] [1,2] [b2,b1] (WQ rt.lent) ?_)
 rintro _ _ ⟨v2,rfl,rfl⟩
 exact Zs 1 2 [9] (Z9 10 (X5 10 2 [] [] b3 [ZP rt.params v1,ZP rt.lent v2,.i rt.result,Vt b.steps,.i b.result] (de (ZU (r3 [] [.agg [ZP rt.params v1,ZP rt.lent v2,.i rt.result,Vt b.steps,.i b.result]] [0] [(b3,b3)] ⟨rfl,rfl⟩ (Ze.agg (.cons (Ze.sl _ (Yj Z7 ob)) (.cons (Ze.sl _ (Yj Z7 ob)) (.cons li (.cons (Ze.sl _ (Yj ZQ ob)) (.cons li .nil)))))))))))
theorem Z81 (n:ZF) (us:LI) (fds:LI) (kd:Z8) (os:LI) (ls:LI) (mm:Nat) (bb:Nat) (hn:XA n:=by exact ob) (hf:fB n.decls n.routines.length (mm+fds.length) kd:=by exact ob) (hop:Vu WW kd:=by exact ob) (hul:us.length=mm:=by exact ob) (hfl:fds.length<=3:=by exact ob) (hm:mm+3+4*kd.sz<=100000:=by exact ob) (hor:∀v∈os,0<=v/\v<(mm:Int)) (hol:os.length+3+4*kd.sz<=730:=by exact ob) (hal:ls.length+2000*kd.sz<=1000000:=by exact ob) (hbz:kd.sz<=500:=by exact ob) (hb:kd.sz<bb:=by exact ob) (ih:∀(us2:LI) (b2:Z8) (os2:LI) (as2:LI) (m2:Nat),(fB n.decls n.routines.length m2 b2)->(Vu WW b2)->(us2.length=m2)->(m2+4*b2.sz<=100000)->(∀v∈os2,0<=v/\v<(m2:Int))->(os2.length+4*b2.sz<=730)->(as2.length+2000*b2.sz<=1000000)->(b2.sz<=500)->(b2.sz<bb)->Zp 186 [YF n,Z4 us2,Yn b2,Z4 os2,Z4 as2] [] (fun r h=>∃(y:Z8),r=Yn y/\h=[]/\KB n.decls n.routines.length m2 y (4500*b2.sz))):Zp 251 [YF n,Z4 us,Z4 fds,Yn kd,Z4 os,Z4 ls] [] (fun r h=>∃(y:Z8),r=Yn y/\h=[]/\KB n.decls n.routines.length (mm+fds.length) y (4500*kd.sz+1470)):=by
 refine ZG 115 Tryz.func251 (ar (iA (Xb n) fun b1=>iA (W3 kd) fun b2=>iA [nl,.i 0] fun b3=>ie (Ye 1 (iw (Yb us) (Z1 (Ye 2 (ic [] (TF us fds) ?_)))))))
 rintro _ _ ⟨v1,rfl,rfl⟩
 refine Z1 (Zq 2 [2] (io (.i (((us++fds).length:Nat):Int)) (.i (((Z7 (us++fds)).length:Nat):Int)) (li (by rw [Yb])) (Zt [] (Z12 kd (((us++fds).length:Nat):Int)) ?_)))
 have hub:=HJ (n:=(((us++fds).length:Nat):Int)) kd []
 simp only [YZ,Wr] at hub
 refine Z1 (ar (iL (Z7 []) 0 1 fun v2=>Z1 (ar (iL (Z7 []) 0 1 fun v3=>?_))))
 refine Z1 (Y4 (ab 0 (Y5 (fun fz gz m F h=>∃(k:Nat) (ms:LI) (u:Value) (dr:LI) (w:Value),(k<=os.length)/\(ms.length<=k)/\(dr.length<=k)/\(∀v∈ms,0<=v/\v<(mm:Int))/\(∀v∈dr,0<=v/\v<(mm:Int))/\F=sF [2,4,5,6,9,12,13,15] fz [(14,Z4 (us++fds)),(16,ZP ms u),(17,ZP dr w),(18,.i k)]/\h=[Zj gz 3,Zj gz 4,Zj gz 5,.tail u 1,.tail w 1]/\m=os.length-k) _ _ _ ⟨0,[],v2,[],v3,ob,ob,ob,(fun v hv=>by cases hv),(fun v hv=>by cases hv),rfl,rfl,rfl⟩ (wk [3,3,3,1,0] (fc (x:=ZP (us++fds) v1) (Ze.forget _ _) (fw (Yg fl)))) ?_)))
 rintro m F h ⟨k,ms,u,dr,w,Yi,Zk,ZA,YO,Wp,rfl,rfl,rfl⟩
 refine YP 2 (iw (Yb os) (Y0 ((k:Int)<(os.length:Int)) (fun Za=>?_) (fun Za=>?_)))
 ·obtain ⟨o1,ho1⟩:=Zu os k om
  have hor1:=hor o1 (Y3 ho1)
  refine ak (aq (ab 1 (Ye 3 (Zm (Zi none (k:Int) 1 (Y6 ho1)) (Z0 1 (Zt [] (US (T5 (((us++fds).length:Nat):Int) kd []) o1) (XC [2,4,5,6,9,12,13,14,15,16,17,18] [(53,.b ((decide (o1∈(T5 (((us++fds).length:Nat):Int) kd [])))||(decide (o1∈ls))))] (fun gz=>gz) ?_ ?_)))))))
  ·refine Z0 1 (ib (b:=(decide (o1∈(T5 (((us++fds).length:Nat):Int) kd [])))) 46 (fun Zd=>?_) (fun Zd=>?_))
   ·exact Z1 (Zx 5 (Zo true Zd fl))
   exact Z0 3 (Zm (Zi none (k:Int) 1 (Y6 ho1)) (Z0 1 (Zt [] (US ls o1) (Z1 (Zx 5 (Zo (decide (o1∈ls)) Zd fl))))))
  refine ac ((decide (o1∈(T5 (((us++fds).length:Nat):Int) kd [])))||(decide (o1∈ls))) (p:=(o1∈(T5 (((us++fds).length:Nat):Int) kd []))∨(o1∈ls)) (Zz dq dq) (fun Zh=>?_) (fun Zh=>?_)
  ·exact az (Z0 3 (Zm (Zi none (k:Int) 1 (Y6 ho1)) (Z0 1 (iL (Z7 [o1]) 1 1 fun v4=>ZT 0 [(59,Z4 [o1])] (ip 4 (Z7 (ms++[o1])) (Z7 ms) (Z7 [o1]) u none 1 (YH _) (YH _) (Wb _) (by simp<;>omega) (by simp [Wa,Z7]) fun v5=>Z1 (az (Z0 1 (ZE k (Z1 (ZH ⟨k+1,(ms++[o1]),v5,dr,w,ob,ob,ob,(by first|exact YO|exact XI YO hor1),(by first|exact Wp|exact XI Wp hor1),rfl,rfl,rfl⟩ (wk [2,2,2,0,1] (fw (fr (ZL k fl))))))))))))))
  exact az (Z0 3 (Zm (Zi none (k:Int) 1 (Y6 ho1)) (Z0 1 (iL (Z7 [o1]) 1 1 fun v6=>ZT 0 [(66,Z4 [o1])] (ip 5 (Z7 (dr++[o1])) (Z7 dr) (Z7 [o1]) w none 1 (YH _) (YH _) (Wb _) (by simp<;>omega) (by simp [Wa,Z7]) fun v7=>Z1 (az (Z0 1 (ZE k (Z1 (ZH ⟨k+1,ms,u,(dr++[o1]),v7,ob,ob,ob,(by first|exact YO|exact XI YO hor1),(by first|exact Wp|exact XI Wp hor1),rfl,rfl,rfl⟩ (wk [2,2,2,2,0] (fw (fr (ZL k fl))))))))))))))
 refine ax 0 (ar (iL (Z7 []) 0 1 fun v8=>?_))
 refine Z1 (Y4 (ab 2 (Y5 (fun fz gz m F h=>∃(k:Nat) (ps:LI) (w2:Value),(k<=fds.length)/\(ps.length<=k)/\(∀v∈ps,(mm:Int)<=v/\v<((mm+fds.length:Nat):Int))/\F=sF [2,5,6,9,12,13,14,15,16,17] fz [(19,ZP ps w2),(20,.i k)]/\h=[Zj gz 1,Zj gz 2,Zj gz 3,Zj gz 4,Zj gz 5,.tail w2 1]/\m=fds.length-k) _ _ _ ⟨0,[],v8,ob,ob,(fun v hv=>by cases hv),rfl,rfl,rfl⟩ (wk [1,1,1,1,1,0] (fr (Yg fl))) ?_)))
 rintro m F h ⟨k,ps,w2,Ui,W4,XV,rfl,rfl,rfl⟩
 refine YP 2 (iw (Yb fds) (Y0 ((k:Int)<(fds.length:Int)) (fun ZC=>?_) (fun ZC=>?_)))
 ·refine ak (aq (ab 3 (Ye 2 ?_)))
  obtain ⟨x1,Z3⟩:=Zu fds k om
  refine Zm (Zi none (k:Int) 1 (Y6 Z3)) (XC [2,5,6,9,12,13,14,15,16,17,19,20] [(86,.b ((x1 != 0)&&(decide (((us.length+k:Nat):Int)∈(T5 (((us++fds).length:Nat):Int) kd [])))))] (fun gz=>gz) ?_ ?_)
  ·refine Z0 3 (ib (b:=(x1 != 0)) 80 (fun ZD=>?_) (fun ZD=>?_))
   ·exact Z0 3 (ia (((us.length+k:Nat):Int)) (((us.length:Int))+((k:Int))) (Zt [] (US (T5 (((us++fds).length:Nat):Int) kd []) ((us.length+k:Nat):Int)) (Z1 (Zx 6 (Zo (decide (((us.length+k:Nat):Int)∈(T5 (((us++fds).length:Nat):Int) kd []))) ZD fl)))))
   exact Z1 (Zx 6 (Zo false ZD fl))
  refine ac ((x1 != 0)&&(decide (((us.length+k:Nat):Int)∈(T5 (((us++fds).length:Nat):Int) kd [])))) (p:=(x1≠0)/\(((us.length+k:Nat):Int)∈(T5 (((us++fds).length:Nat):Int) kd []))) (YG Ys dq) (fun Yc=>?_) (fun Yc=>?_)
  ·exact az (Z0 3 (ia (((us.length+k:Nat):Int)) (((us.length:Int))+((k:Int))) (iL (Z7 [((us.length+k:Nat):Int)]) 1 1 fun v9=>ZT 0 [(91,Z4 [((us.length+k:Nat):Int)])] (ip 6 (Z7 (ps++[((us.length+k:Nat):Int)])) (Z7 ps) (Z7 [((us.length+k:Nat):Int)]) w2 none 1 (YH _) (YH _) (Wb _) (by simp<;>omega) (by simp [Wa,Z7]) fun v10=>Z1 (az (Z0 1 (ZE k (Z1 (ZH ⟨k+1,(ps++[((us.length+k:Nat):Int)]),v10,ob,ob,(by first|exact XV|exact XI XV om),rfl,rfl,rfl⟩ (wk [2,2,2,2,2,0] (fr (ZL k fl))))))))))))
  exact ak (az (Z0 1 (ZE k (Z1 (ZH ⟨k+1,ps,w2,ob,ob,(by first|exact XV|exact XI XV om),rfl,rfl,rfl⟩ (Zx 6 (fr (ZL k fl))))))))
 refine ax 2 (ar (ZT 1 [(93,Z4 ps)] (ic [] (KG 14 ps) ?_)))
 rintro _ _ ⟨v11,rfl,rfl⟩
 refine ZT 1 [(95,Z4 dr)] (ic [] (KG 15 dr) ?_)
 rintro _ _ ⟨v12,rfl,rfl⟩
 refine ZT 0 [(96,Vt (dr.map (Zw 15)))] (ip 1 (ZQ ((ps.map (Zw 14))++(dr.map (Zw 15)))) (ZQ (ps.map (Zw 14))) (ZQ (dr.map (Zw 15))) v11 none 5 (XJ _) (XJ _) (Up _) (by simp<;>omega) (by simp [Vx,ZQ]) fun v13=>?_)
 refine Z1 (aD 12 (ZY 5 12 [0,1,2,3,4,6,7] [4,3] (Bu (fun fz gz F h=>∃(y1:Z8) (b4:Nat) (zs1:LI),(zs1.length<=ls.length/\∀z∈zs1,z∈ls)/\(KB n.decls n.routines.length (mm+fds.length) y1 (4500*kd.sz))/\F=sF [12,21] fz [(22,.p b4 0)]/\h=[.obj b4 (W3 y1),Zj gz 0,Zj gz 1,Zj gz 2,Zj gz 3,Zj gz 4,Zj gz 6,Zj gz 7]) ?_ ?_)))
 ·refine Uo 5 10 ?_ ?_
  ·refine dp 5 5 [1,2] [b2,b1] (Z7 (ms++ps)) (Z7 ms) (Z7 ps) u (some w2) 1 (YH _) (YH _) (Wb _) (by simp<;>omega) (by simp [Wa,Z7]) fun v14=>Uo 8 10 ?_ ?_
   ·refine dc 8 [] [1,2] [b2,b1] (La ls (us.length:Int)) ?_
    rintro _ _ ⟨zs1,v15,rfl,rfl,Xf⟩
    have hbl:=Xf
    refine Yw 3 3 [] [(103,Z4 (ms++ps)),(106,Z4 zs1)] (Uo 9 10 ?_ ?_)
    ·refine dc 9 [] [] [] (ih (us++fds) kd (ms++ps) zs1 (mm+fds.length) hf hop (by rw [Yr,hul]) ob (fun v hv=>by rcases Xr.1 hv with h|h;exact (by have:=YO v h;omega);exact (by have:=XV v h;omega)) (by rw [Yr];omega) ob ob ob) ?_
     rintro _ _ ⟨y1,rfl,rfl,XS⟩
     have hkb:=XS
     have hkl:=hkb.len
     exact Z9 10 (dA 10 [] [] [nl,.i 0] fun b4=>Z9 11 (X5 11 0 [] [] b4 (W3 y1) (de (ZI ⟨_,b4,_,(by assumption),(by assumption),rfl,rfl⟩ (wk [0,2,2,2,2,2,2,2] fl)))))
    refine dA 10 [1,2] [b2,b1] [nl,.i 0] fun b5=>Z9 9 (dc 9 [] [] [] (ih (us++fds) kd (ms++ps) zs1 (mm+fds.length) hf hop (by rw [Yr,hul]) ob (fun v hv=>by rcases Xr.1 hv with h|h;exact (by have:=YO v h;omega);exact (by have:=XV v h;omega)) (by rw [Yr];omega) ob ob ob) ?_)
    rintro _ _ ⟨y2,rfl,rfl,Wh⟩
    have hkb:=Wh
    have hkl:=hkb.len
    exact Z9 11 (X5 11 0 [] [] b5 (W3 y2) (de (ZI ⟨_,b5,_,(by assumption),(by assumption),rfl,rfl⟩ (wk [0,2,2,2,2,2,2,2] fl))))
   refine dA 10 [1,2] [b2,b1] [nl,.i 0] fun b6=>Z9 8 (dc 8 [] [2,3] [b2,b1] (La ls (us.length:Int)) ?_)
   rintro _ _ ⟨zs2,v16,rfl,rfl,WZ⟩
   have hbl:=WZ
   refine Yw 2 2 [] [(103,Z4 (ms++ps)),(106,Z4 zs2)] (Z9 9 (dc 9 [] [] [] (ih (us++fds) kd (ms++ps) zs2 (mm+fds.length) hf hop (by rw [Yr,hul]) ob (fun v hv=>by rcases Xr.1 hv with h|h;exact (by have:=YO v h;omega);exact (by have:=XV v h;omega)) (by rw [Yr];omega) ob ob ob) ?_))
   rintro _ _ ⟨y3,rfl,rfl,Vs⟩
   have hkb:=Vs
   have hkl:=hkb.len
   exact Z9 11 (X5 11 1 [] [] b6 (W3 y3) (de (ZI ⟨_,b6,_,(by assumption),(by assumption),rfl,rfl⟩ (wk [0,2,2,2,2,2,2,2] fl))))
  refine dA 10 [1,2] [b2,b1] [nl,.i 0] fun b7=>Yw 4 4 [] [(102,Z4 ps)] (Z9 5 (dp 5 6 [2,3] [b2,b1] (Z7 (ms++ps)) (Z7 ms) (Z7 ps) u none 1 (YH _) (YH _) (Wb _) (by simp<;>omega) (by simp [Wa,Z7]) fun v17=>Z9 8 (dc 8 [] [2,3] [b2,b1] (La ls (us.length:Int)) ?_)))
  rintro _ _ ⟨zs3,v18,rfl,rfl,UL⟩
  have hbl:=UL
  refine Yw 2 2 [] [(103,Z4 (ms++ps)),(106,Z4 zs3)] (Z9 9 (dc 9 [] [] [] (ih (us++fds) kd (ms++ps) zs3 (mm+fds.length) hf hop (by rw [Yr,hul]) ob (fun v hv=>by rcases Xr.1 hv with h|h;exact (by have:=YO v h;omega);exact (by have:=XV v h;omega)) (by rw [Yr];omega) ob ob ob) ?_))
  rintro _ _ ⟨y4,rfl,rfl,Tl⟩
  have hkb:=Tl
  have hkl:=hkb.len
  exact Z9 11 (X5 11 2 [] [] b7 (W3 y4) (de (ZI ⟨_,b7,_,(by assumption),(by assumption),rfl,rfl⟩ (wk [0,2,2,2,2,2,2,2] fl))))
 rintro F h ⟨y1,b4,zs1,Xf,XS,rfl,rfl⟩
 have hbl:=Xf
 have hkb:=XS
 have hkl:=hkb.len
 exact aD 8 (ZY 3 8 [0,1,2,4,5] [0,0] (Z9 3 (dp 3 1 [0] [b4] (ZQ (((ps.map (Zw 14))++(dr.map (Zw 15)))++y1.steps)) (ZQ ((ps.map (Zw 14))++(dr.map (Zw 15)))) (ZQ y1.steps) v13 none 5 (XJ _) (XJ _) (Up _) (by simp<;>omega) (by simp [Vx,ZQ]) fun v19=>Zs 1 2 [6] (Z9 7 (X5 7 3 [] [] b3 [Xl (((ps.map (Zw 14))++(dr.map (Zw 15)))++y1.steps) v19,.i y1.result] (de (ZU (r3 [] [.agg [Xl (((ps.map (Zw 14))++(dr.map (Zw 15)))++y1.steps) v19,.i y1.result]] [0] [(b3,b3)] ⟨(Z8.mk (((ps.map (Zw 14))++(dr.map (Zw 15)))++y1.steps) y1.result),rfl,rfl,((hkb.put (fun v hv=>by have:=XV v hv;omega) (fun v hv=>by have:=Wp v hv;omega)).le om)⟩ (Ze.agg (.cons (Ze.forget _ _) (.cons (lr _) .nil)))))))))))
theorem Z82 (n:ZF) (us:LI) (s:Z6) (os:LI) (ls:LI) (mm:Nat) (bb:Nat) (hn:XA n:=by exact ob) (hf:FS n.decls n.routines.length mm s:=by exact ob) (h11:s.op<=11:=by exact ob) (hop:K8 WW s.kids:=by exact ob) (hul:us.length=mm:=by exact ob) (hm:mm+4*s.sz<=100000:=by exact ob) (hor:∀v∈os,0<=v/\v<(mm:Int)) (hol:os.length+4*s.sz<=730:=by exact ob) (hal:ls.length+2000*s.sz<=1000000:=by exact ob) (hbz:s.sz<=500:=by exact ob) (hb:s.sz<=bb:=by exact ob) (ih:∀(us2:LI) (b2:Z8) (os2:LI) (as2:LI) (m2:Nat),(fB n.decls n.routines.length m2 b2)->(Vu WW b2)->(us2.length=m2)->(m2+4*b2.sz<=100000)->(∀v∈os2,0<=v/\v<(m2:Int))->(os2.length+4*b2.sz<=730)->(as2.length+2000*b2.sz<=1000000)->(b2.sz<=500)->(b2.sz<bb)->Zp 186 [YF n,Z4 us2,Yn b2,Z4 os2,Z4 as2] [] (fun r h=>∃(y:Z8),r=Yn y/\h=[]/\KB n.decls n.routines.length m2 y (4500*b2.sz))):Zp 221 [YF n,Z4 us,X6 s,Z4 os,Z4 ls] [] (fun r h=>∃(y:Z6),r=X6 y/\h=[]/\KT n.decls n.routines.length mm y (4500*YX s.kids+4420)):=by
 have Xu:=hn.decls
 have hkf:=hf.few Xu
 have hsa:=hf.alen
 refine ZG 62 Tryz.func221 (ar (iA (Xb n) fun b1=>iA (Wk s) fun b2=>iA [.i 0,.i 0,.i 0,nl,nl] fun b3=>ie (ar (iL (XU []) 0 2 fun v1=>Z1 (Zq 4 [3,2] (ic [] (Jb n.decls s.num) ?_))))))
 rintro _ _ ⟨v2,rfl,rfl⟩
 refine Z1 (Y4 (ab 0 (Y5 (fun fz gz m F h=>∃(k:Nat) (ks:List Z8) (u:Value),(k<=s.kids.length)/\(ks.length=k)/\(KK n.decls n.routines.length (V3 n.decls s.op s.num mm) ks (4500*YX (s.kids.take k)+1470*k))/\F=sF [1,3,4,5,7,10] fz [(11,Qt ks u),(12,Z4 (ZW n.decls s.num)),(13,.i k)]/\h=[Zj gz 2,Zj gz 3,Zj gz 4,.tail u 2]/\m=s.kids.length-k) _ _ _ ⟨0,[],v1,ob,ob,(KK.nil.le (Qf _)),rfl,rfl,rfl⟩ (wk [2,2,2,1] (fr (fc (x:=ZP (ZW n.decls s.num) v2) (Ze.forget _ _) (Yg fl)))) ?_)))
 rintro m F h ⟨k,ks,u,Yi,Zk,ZA,rfl,rfl,rfl⟩
 refine Yt 3 [1] (iw (Kq s.kids) (Y0 ((k:Int)<(s.kids.length:Int)) (fun Za=>?_) (fun Za=>?_)))
 ·refine ak (aq (ab 1 (ar (iL (Z7 []) 0 1 fun v3=>?_))))
  refine Z1 (Xe (WJ [2] (Xv (fun fz gz F h=>∃(fds:LI),(V3 n.decls s.op s.num mm k=mm+fds.length)/\(fds.length<=3)/\F=sF [1,3,4,5,7,10,11,12,13] fz [(14,Z4 fds)]/\h=[Zj gz 1,Zj gz 2,Zj gz 3,Zj gz 4]) ?_ ?_)))
  ·refine ac (s.op==8) Zg (fun Zh=>?_) (fun Zh=>?_)
   ·refine aE 8 (ZY 4 8 [0,1,2,3] [3] ?_)
    obtain ⟨x1,Z3⟩:=Zu (ZW n.decls s.num) k (by have:=hf.k8 (by assumption);omega)
    have hcf:=Vp Xu x1
    exact dx 4 (Zi none (k:Int) 1 (Y6 Z3)) (Zs 2 3 [5] (Z9 6 (YI 6 [] [] [] (Qu n.decls x1) (Zs 0 1 [7] (de (ZI ⟨ZO n.decls x1,(Mv (by assumption) Z3),ob,rfl,rfl⟩ (wk [1,1,1,1] fl)))))))
   exact ak (ZI ⟨[],(by rw [Mw (by assumption)];rfl),ob,rfl,rfl⟩ (wk [1,1,1,1] fl))
  rintro F h ⟨fds,VI,B3,rfl,rfl⟩
  refine aE 15 (ZY 8 15 [0,1,2,3,4,5,6] [2,1] ?_)
  obtain ⟨x2,Zv⟩:=Zu s.kids k om
  have hkz:=Qr Zv
  have hfk:=Bz hf.kids Zv
  rw [Wr,VI] at hfk
  have hok:=DT.1 hop x2 (Y3 Zv)
  have hbt:=FP Zv
  have hba:=FQ Zv
  refine dx 7 (Zi none (k:Int) 2 (UX Zv)) (Zs 4 7 [8,9,10] (Z9 11 (dc 11 [] [] [] (Z81 n us fds x2 os ls mm bb (hf:=hfk) (hop:=hok) (hor:=hor) (ih:=ih)) ?_)))
  rintro _ _ ⟨y1,rfl,rfl,Y7⟩
  have hkb:=Y7
  exact Z9 12 (WL 12 [] [] [Yn y1] (XU [y1]) (QV [y1]).symm 1 2 fun v4=>Yw 2 2 [] [(51,JF [y1])] (Z9 13 (dp 13 4 [] [] (XU (ks++[y1])) (XU ks) (XU [y1]) u none 2 (KU _) (KU _) (G3 _) (by simp<;>omega) (by simp [Cr,XU]) fun v5=>Zs 0 1 [14] (de (az (Z0 1 (ZE k (Z1 (ZH ⟨k+1,(ks++[y1]),v5,ob,ob,((ZA.snoc Zk (by rw [VI];exact hkb)).le om),rfl,rfl,rfl⟩ (wk [2,2,2,0] (fw (ZL k fl))))))))))))
 refine ax 0 (aD 10 (ZY 3 10 [0,1,2,3,4,5,7] [1,1,1] (Z9 6 (dc 6 [] [1,1] [b2,b2] (WQ s.args) ?_))))
 rintro _ _ ⟨v6,rfl,rfl⟩
 exact Zs 1 2 [8] (Z9 9 (X5 9 1 [] [] b3 [.i s.op,.i s.num,.i 0,ZP s.args v6,Qt ks u] (de (ZU (r3 [] [.agg [.i s.op,.i s.num,.i 0,ZP s.args v6,Qt ks u]] [0] [(b3,b3)] ⟨(Z6.mk s.op s.num 0 s.args ks),rfl,rfl,((KT.of (into:=0) hf h11 om om ZA).le (by have:=Ih (xs:=s.kids) (k:=k) om;omega))⟩ (Ze.agg (.cons (lr _) (.cons (lr _) (.cons (lr _) (.cons (Ze.forget _ _) (.cons (Ze.forget _ _) .nil)))))))))))
theorem Z7z (n:ZF) (us:LI) (b:Z8) (os:LI) (ls:LI) (mm:Nat) (hn:XA n) (hf:fB n.decls n.routines.length mm b) (hop:Vu WW b) (hul:us.length=mm) (hm:mm+4*b.sz<=100000) (hor:∀v∈os,0<=v/\v<(mm:Int)) (hol:os.length+4*b.sz<=730) (hal:ls.length+2000*b.sz<=1000000) (hbz:b.sz<=500) (ih:∀(us2:LI) (b2:Z8) (os2:LI) (as2:LI) (m2:Nat),(fB n.decls n.routines.length m2 b2)->(Vu WW b2)->(us2.length=m2)->(m2+4*b2.sz<=100000)->(∀v∈os2,0<=v/\v<(m2:Int))->(os2.length+4*b2.sz<=730)->(as2.length+2000*b2.sz<=1000000)->(b2.sz<=500)->(b2.sz<b.sz)->Zp 186 [YF n,Z4 us2,Yn b2,Z4 os2,Z4 as2] [] (fun r h=>∃(y:Z8),r=Yn y/\h=[]/\KB n.decls n.routines.length m2 y (4500*b2.sz))):Zp 186 [YF n,Z4 us,Yn b,Z4 os,Z4 ls] [] (fun r h=>∃(y:Z8),r=Yn y/\h=[]/\KB n.decls n.routines.length mm y (4500*b.sz)):=by
 have Xu:=hn.decls
 have hbe:=b.sz_eq
 have ZK:=UB b
 obtain ⟨hfs,hr1,hr2⟩:=(KV b).1 hf
 have hos:=CU.1 ((H6 b).1 hop)
 have hdn:=Iv hos
 have hdl:=hdn b.steps.length (Xc _)
 rw [Uv] at hdl
 refine ZG 149 Tryz.func186 (ar (iA (Xb n) fun b1=>iA (W3 b) fun b2=>iA [nl,.i 0] fun b3=>ie (ar (iL (ZQ []) 0 5 fun v1=>Z1 (Ye 1 (ic [] (WQ us) ?_))))))
 rintro _ _ ⟨v2,rfl,rfl⟩
 refine Z1 (Ye 1 (ic [] (WQ os) ?_))
 rintro _ _ ⟨v3,rfl,rfl⟩
 refine Z1 (Y4 (ab 0 (Y5 (fun fz gz m F h=>∃(k:Nat) (vs:LI) (w:Value) (ms:LI) (u:Value) (xs:List Z6) (v:Value),(k<=b.steps.length)/\(vs.length=mm+k)/\(CL n.decls n.routines.length mm xs k (4500*Yx (b.steps.take k)))/\(ms.length<=os.length+k)/\(∀v∈ms,0<=v/\v<((mm+k:Nat):Int))/\F=sF [4,5,7,10] fz [(11,Xl xs v),(12,ZP vs w),(13,ZP ms u),(14,.i k)]/\h=[Zj gz 3,Zj gz 4,Zj gz 5,.tail u 1,.tail v 5,.tail w 1]/\m=b.steps.length-k) _ _ _ ⟨0,us,v2,os,v3,[],v1,ob,ob,CL.nil,ob,hor,rfl,rfl,rfl⟩ (wk [3,3,3,0,1,0] (fw (fr (Yg fl)))) ?_)))
 rintro m F h ⟨k,vs,w,ms,u,xs,v,Yi,Zk,ZA,YO,Wp,rfl,rfl,rfl⟩
 refine Yt 3 [1] (iw (UH b.steps) (Y0 ((k:Int)<(b.steps.length:Int)) (fun Za=>?_) (fun Za=>?_)))
 ·refine ak (aq (ab 1 (Zq 3 [1] ?_)))
  obtain ⟨x1,Z3⟩:=Zu b.steps k om
  have XT:=D0 Z3
  have hfS:=(AR x1).1 (Dv hfs Z3)
  rw [hdn k om] at hfS
  have hoS:=(F3 x1).1 (hos x1 (Y3 Z3))
  have htk:=HD Z3
  have hse:=(x1).sz_eq
  have hal4:=hfS.alen
  have hxl:=ZA.len
  have htl:=KI b.steps (k+1)
  have hsd:=Z18 b.steps (k+1)
  have hul2:=MW (n:=((vs.length+1:Nat):Int)) (b.steps.drop (k+1)) []
  have hul3:=HK (n:=((vs.length+1:Nat):Int)) (T6 ((vs.length+1:Nat):Int) (b.steps.drop (k+1)) []) b.result
  simp only [YZ,Wr] at hul2
  refine Zm (Zi none (k:Int) 5 (Ve Z3)) (Z0 1 (iA [.i 0,.i 0,.i 0,nl,nl] fun b4=>ZB 0 b4 (Wk x1) (ie (Ye 1 (iw (Yb vs) (Z1 (ar (Kd 3 [(41,Z4 vs)] [3,0] (Zt [] (MH n vs x1 ob ob) (Z1 (Zq 2 [2] (ia (((vs.length+1:Nat):Int)) (((vs.length:Int))+(1)) (Z0 1 (ZE k (iL (Z7 []) 0 1 fun v4=>ZT 0 [(49,Z4 [])] (Zt [] (Z0m b ((vs.length+1:Nat):Int) (k+1) [] (hk:=om) (hz:=(by simp only [YZ];omega))) (Z0 1 (ic [] (Z9a (UT ((vs.length+1:Nat):Int) (T6 ((vs.length+1:Nat):Int) (b.steps.drop (k+1)) []) b.result) ls) ?_))))))))))))))))))
  rintro _ _ ⟨zs1,rfl,rfl,Y7⟩
  have hun:=Y7
  refine Z1 (ar (Kd 6 [(55,Z4 vs),(57,Z4 ms)] [4,1] (ic [] (Z86 n vs x1 ms zs1 (mm+k) (hf:=hfS)) ?_)))
  rintro _ _ ⟨zs2,rfl,rfl,Ym⟩
  have hdu:=Ym
  have hq1:=ZA.cnts (op:=14) (.inl rfl) (vs:=zs2) (fun v hv=>hfS.args v (hdu.2 v hv))
  have hl1:=hq1.len
  refine ic [] (KG 14 zs2) ?_
  rintro _ _ ⟨v5,rfl,rfl⟩
  refine ZT 0 [(60,Vt (zs2.map (Zw 14)))] (ip 7 (ZQ (xs++(zs2.map (Zw 14)))) (ZQ xs) (ZQ (zs2.map (Zw 14))) v none 5 (XJ _) (XJ _) (Up _) (by simp<;>omega) (by simp [Vx,ZQ]) fun v6=>Z1 (ar (Kd 6 [(64,Z4 vs),(66,Z4 ms)] [6,3] (ic [] (Z82 n vs x1 ms zs1 (mm+k) b.sz (hf:=hfS) (h11:=hoS.1) (hop:=hoS.2) (hor:=Wp) (ih:=ih)) ?_))))
  rintro _ _ ⟨y1,rfl,rfl,YL⟩
  have hkt:=YL
  have hq2:=hq1.kt hkt
  have hl2:=hq2.len
  refine UN [X6 y1] (ZQ [y1]) (Ub [y1]).symm 1 5 fun v7=>ZT 0 [(69,Vt [y1])] (ip 1 (ZQ ((xs++(zs2.map (Zw 14)))++[y1])) (ZQ (xs++(zs2.map (Zw 14)))) (ZQ [y1]) v6 none 5 (XJ _) (XJ _) (Up _) (by simp<;>omega) (by simp [Vx,ZQ]) fun v8=>Z1 (ar (Kd 5 [(72,Z4 vs),(74,Z4 ms)] [7,4] (ic [] (Z8l n vs x1 ms zs1 (mm+k) (hf:=hfS)) ?_))))
  rintro _ _ ⟨zs3,v9,rfl,rfl,X3⟩
  have hla:=X3
  refine Z1 (ar (Kd 4 [(79,Z4 zs3)] [8,5] (ic [] (Z8m n x1 zs3 zs1 (mm+k) (hf:=hfS)) ?_)))
  rintro _ _ ⟨zs4,rfl,rfl,Xf⟩
  have hld:=Xf
  have hq3:=hq2.cnts (op:=15) (.inr rfl) (vs:=zs4) (fun v hv=>by have:=hfS.args v (hld.2 v hv);omega)
  have hl3:=hq3.len
  refine Z1 (Ye 2 (ic [] (KG 15 zs4) ?_))
  rintro _ _ ⟨v10,rfl,rfl⟩
  refine ZT 0 [(84,Vt (zs4.map (Zw 15)))] (ip 2 (ZQ (((xs++(zs2.map (Zw 14)))++[y1])++(zs4.map (Zw 15)))) (ZQ ((xs++(zs2.map (Zw 14)))++[y1])) (ZQ (zs4.map (Zw 15))) v8 none 5 (XJ _) (XJ _) (Up _) (by simp<;>omega) (by simp [Vx,ZQ]) fun v11=>?_)
  refine Z1 (Y4 (ab 2 (Y5 (fun fz gz m F h=>∃(j:Nat) (m3:LI) (u3:Value) (v3:Value) (w3:Value),(j<=zs4.length)/\(m3.length<=os.length+k)/\(∀v∈m3,0<=v/\v<((mm+k:Nat):Int))/\F=sF [4,5,7,10,14,16,17,18,19] fz [(11,Xl (((xs++(zs2.map (Zw 14)))++[y1])++(zs4.map (Zw 15))) v3),(12,ZP vs w3),(13,ZP m3 u3),(20,.i j)]/\h=[Zj gz 7,Zj gz 8,Zj gz 9,.tail u3 1,.tail v3 5,.tail w3 1]/\m=zs4.length-j) _ _ _ ⟨0,zs3,v9,v11,w,ob,ob,(fun v hv=>Wp v (hla.2 v hv)),rfl,rfl,rfl⟩ (wk [7,7,7,2,0,6] (fw (fr (Yg fl)))) ?_)))
  rintro m F h ⟨j,m3,u3,v3,w3,Ui,W4,XV,rfl,rfl,rfl⟩
  refine YP 2 (iw (Yb zs4) (Y0 ((j:Int)<(zs4.length:Int)) (fun Zh=>?_) (fun Zh=>?_)))
  ·refine ak (aq (ab 3 (az (Z0 3 ?_))))
   obtain ⟨x2,Zv⟩:=Zu zs4 j om
   refine Zm (Zi none (j:Int) 1 (Y6 Zv)) (ZT 1 [(92,Z4 m3)] (ic [] (Le m3 x2) ?_))
   rintro _ _ ⟨v12,rfl,rfl⟩
   exact Z1 (az (Z0 1 (ZE j (Z1 (ZH ⟨j+1,(VA m3 x2),v12,v3,w3,ob,(Vm (BR _ _) W4),(fun v hv=>XV v (DV hv)),rfl,rfl,rfl⟩ (wk [1,1,1,0,1,1] (fw (fr (ZL j fl)))))))))
  refine ax 2 (Ye 2 (iL (Z7 [X2 n vs x1]) 1 1 fun v13=>ZT 0 [(100,Z4 [X2 n vs x1])] (ip 6 (Z7 (vs++[X2 n vs x1])) (Z7 vs) (Z7 [X2 n vs x1]) w3 none 1 (YH _) (YH _) (Wb _) (by simp<;>omega) (by simp [Wa,Z7]) fun v14=>Z1 (ar (XC [4,5,7,10,11,12,13,14,16,17] [(108,.b (((X2 n vs x1) != 0)&&(decide ((vs.length:Int)∈zs1))))] (fun gz=>gz) ?_ ?_)))))
  ·refine Z0 3 (ib (b:=((X2 n vs x1) != 0)) 104 (fun Zd=>?_) (fun Zd=>?_))
   ·exact Z0 2 (Zt [] (US zs1 (vs.length:Int)) (Z1 (Zx 7 (Zo (decide ((vs.length:Int)∈zs1)) Zd fl))))
   exact Z1 (Zx 7 (Zo false Zd fl))
  refine ac (((X2 n vs x1) != 0)&&(decide ((vs.length:Int)∈zs1))) (p:=((X2 n vs x1)≠0)/\((vs.length:Int)∈zs1)) (YG Ys dq) (fun ZC=>?_) (fun ZC=>?_)
  ·exact az (Z0 2 (iL (Z7 [(vs.length:Int)]) 1 1 fun v15=>ZT 0 [(111,Z4 [(vs.length:Int)])] (ip 6 (Z7 (m3++[(vs.length:Int)])) (Z7 m3) (Z7 [(vs.length:Int)]) u3 none 1 (YH _) (YH _) (Wb _) (by simp<;>omega) (by simp [Wa,Z7]) fun v16=>Z1 (az (Z0 1 (ZE k (Z1 (ZH ⟨k+1,(vs++[X2 n vs x1]),v14,(m3++[(vs.length:Int)]),v16,(((xs++(zs2.map (Zw 14)))++[y1])++(zs4.map (Zw 15))),v3,ob,ob,(by first|exact hq3.le om|exact (hq3.cnt (op:=15) (.inr rfl) om).le om),ob,(by first|exact XI (fun v hv=>by have:=XV v hv;omega) om|exact (fun v hv=>by have:=XV v hv;omega)),rfl,rfl,rfl⟩ (wk [4,4,4,0,3,1] (fw (fr (ZL k fl))))))))))))
  refine ar (Yy ((X2 n vs x1) != 0) Ys (fun Yc=>?_) (fun Yc=>?_))
  ·exact az (Z0 2 (Zt [] (C1 15 (vs.length:Int)) (UN [X6 (Zw 15 (vs.length:Int))] (ZQ [(Zw 15 (vs.length:Int))]) (Ub [(Zw 15 (vs.length:Int))]).symm 1 5 fun v17=>ZT 0 [(118,Vt [(Zw 15 (vs.length:Int))])] (ip 7 (ZQ ((((xs++(zs2.map (Zw 14)))++[y1])++(zs4.map (Zw 15)))++[(Zw 15 (vs.length:Int))])) (ZQ (((xs++(zs2.map (Zw 14)))++[y1])++(zs4.map (Zw 15)))) (ZQ [(Zw 15 (vs.length:Int))]) v3 none 5 (XJ _) (XJ _) (Up _) (by simp<;>omega) (by simp [Vx,ZQ]) fun v18=>Z1 (az (Z0 1 (ZE k (Z1 (ZH ⟨k+1,(vs++[X2 n vs x1]),v14,m3,u3,((((xs++(zs2.map (Zw 14)))++[y1])++(zs4.map (Zw 15)))++[(Zw 15 (vs.length:Int))]),v18,ob,ob,(by first|exact hq3.le om|exact (hq3.cnt (op:=15) (.inr rfl) om).le om),ob,(by first|exact XI (fun v hv=>by have:=XV v hv;omega) om|exact (fun v hv=>by have:=XV v hv;omega)),rfl,rfl,rfl⟩ (wk [4,4,4,4,0,1] (fw (fr (ZL k fl)))))))))))))
  exact ak (az (Z0 1 (ZE k (Z1 (ZH ⟨k+1,(vs++[X2 n vs x1]),v14,m3,u3,(((xs++(zs2.map (Zw 14)))++[y1])++(zs4.map (Zw 15))),v3,ob,ob,(by first|exact hq3.le om|exact (hq3.cnt (op:=15) (.inr rfl) om).le om),ob,(by first|exact XI (fun v hv=>by have:=XV v hv;omega) om|exact (fun v hv=>by have:=XV v hv;omega)),rfl,rfl,rfl⟩ (wk [2,2,2,2,2,0] (fw (fr (ZL k fl)))))))))
 have hxl:=ZA.len
 have htl:=KI b.steps k
 refine ax 0 (Yt 3 [1] ?_)
 obtain ⟨x3,YU⟩:=Zu vs b.result.toNat om
 refine Zm (Zi (some w) b.result 1 (Y6 YU)) (XC [7,10,11] [(138,.b ((x3 != 0)&&((decide (b.result∈ls))||(!(decide (b.result∈ms))))))] (fun gz=>gz) ?_ ?_)
 ·refine Z0 3 (ib (b:=(x3 != 0)) 126 (fun ZD=>?_) (fun ZD=>?_))
  ·refine Zy 3 [1] (Zt [] (US ls b.result) (Z0 1 (ib (b:=(decide (b.result∈ls))) 131 (fun Yk=>?_) (fun Yk=>?_))))
   ·exact Z1 (Zx 6 (Zo true (And.intro ZD Yk) fl))
   exact Kd 3 [(132,Z4 ms)] [1] (Zt [] (US ms b.result) (Z1 (Zx 6 (Zo (!(decide (b.result∈ms))) (And.intro ZD Yk) fl))))
  exact Z1 (Zx 6 (Zo false ZD fl))
 refine ac ((x3 != 0)&&((decide (b.result∈ls))||(!(decide (b.result∈ms))))) (p:=(x3≠0)/\((b.result∈ls)∨(¬(b.result∈ms)))) (YG Ys (Zz dq (Y1 dq))) (fun YB=>?_) (fun YB=>?_)
 ·exact az (Zy 3 [1] (Zt [] (C1 14 b.result) (UN [X6 (Zw 14 b.result)] (ZQ [Zw 14 b.result]) (Ub [Zw 14 b.result]).symm 1 5 fun v19=>ZT 0 [(143,Vt [Zw 14 b.result])] (ip 5 (ZQ (xs++[Zw 14 b.result])) (ZQ xs) (ZQ [Zw 14 b.result]) v none 5 (XJ _) (XJ _) (Up _) (by simp<;>omega) (by simp [Vx,ZQ]) fun v20=>Z1 (Zq 4 [3] (ZB 2 b3 [Xl (xs++[Zw 14 b.result]) v20,.i b.result] (ie (ZU (r3 [] [.agg [Xl (xs++[Zw 14 b.result]) v20,.i b.result]] [0] [(b3,b3)] ⟨(Z8.mk (xs++[Zw 14 b.result]) b.result),rfl,rfl,(((ZA.cnt (op:=14) (.inl rfl) om).block om).le (by have:=KI b.steps k;omega))⟩ (Ze.agg (.cons (Ze.forget _ _) (.cons (lr _) .nil))))))))))))
 exact ak (Zq 4 [1] (ZB 0 b3 [Xl xs v,.i b.result] (ie (ZU (r3 [] [.agg [Xl xs v,.i b.result]] [0] [(b3,b3)] ⟨(Z8.mk xs b.result),rfl,rfl,((ZA.block om).le (by have:=KI b.steps k;omega))⟩ (Ze.agg (.cons (Ze.forget _ _) (.cons (lr _) .nil))))))))
theorem Z7y (n:ZF) (us:LI) (b:Z8) (os:LI) (ls:LI) (mm:Nat) (hn:XA n:=by exact ob) (hf:fB n.decls n.routines.length mm b:=by exact ob) (hop:Vu WW b:=by exact ob) (hul:us.length=mm:=by exact ob) (hm:mm+4*b.sz<=100000:=by exact ob) (hor:∀v∈os,0<=v/\v<(mm:Int)) (hol:os.length+4*b.sz<=730:=by exact ob) (hal:ls.length+2000*b.sz<=1000000:=by exact ob) (hbz:b.sz<=500:=by exact ob):Zp 186 [YF n,Z4 us,Yn b,Z4 os,Z4 ls] [] (fun r h=>∃(y:Z8),r=Yn y/\h=[]/\KB n.decls n.routines.length mm y (4500*b.sz)):=by
 have key:∀k:Nat,∀(us2:LI) (b2:Z8) (os2:LI) (as2:LI) (m2:Nat),(fB n.decls n.routines.length m2 b2)->(Vu WW b2)->(us2.length=m2)->(m2+4*b2.sz<=100000)->(∀v∈os2,0<=v/\v<(m2:Int))->(os2.length+4*b2.sz<=730)->(as2.length+2000*b2.sz<=1000000)->(b2.sz<=500)->(b2.sz<k)->Zp 186 [YF n,Z4 us2,Yn b2,Z4 os2,Z4 as2] [] (fun r h=>∃(y:Z8),r=Yn y/\h=[]/\KB n.decls n.routines.length m2 y (4500*b2.sz)):=by
  intro k
  induction k with
  | zero=>intro us2 b2 os2 as2 m2 h1 h2 h3 h4 h5 h6 h7 h8 h9;omega
  | succ k ih=>intro us2 b2 os2 as2 m2 h1 h2 h3 h4 h5 h6 h7 h8 h9;exact Z7z n us2 b2 os2 as2 m2 hn h1 h2 h3 h4 h5 h6 h7 h8 fun us3 b3 os3 as3 m3 q1 q2 q3 q4 q5 q6 q7 q8 q9=>ih us3 b3 os3 as3 m3 q1 q2 q3 q4 q5 q6 q7 q8 om
 exact key (b.sz+1) us b os ls mm hf hop hul hm hor hol hal hbz om
theorem Z80 (n:ZF) (rt:YC) (qz:Nat) (hn:XA n:=by exact ob) (hr:RF n.decls n.routines.length qz WW rt:=by exact ob) (hqz:qz<=181:=by exact ob):Zp 168 [YF n,JT rt] [] (fun r h=>∃(y:Z8),r=Yn y/\h=[]/\KB n.decls n.routines.length rt.params.length y (4500*qz+10)):=by
 have hrp:rt.params.length<=3:=(Tw.bd (f:=⟨rt.params,rt.result,default⟩) hr.sig).1
 have hrl:=hr.lent.1
 have hrz:=hr.body.2
 refine ZG 65 Tryz.func168 (ar (iA (Xb n) fun b1=>iA (JB rt) fun b2=>iA [nl,.i 0] fun b3=>ie (Zq 4 [1,1] (iw (Yb rt.params) (Zt [] (Z12 rt.body (rt.params.length:Int)) ?_)))))
 have hub:=HJ (n:=(rt.params.length:Int)) rt.body []
 simp only [YZ,Wr] at hub
 refine Z1 (ar (iL (Z7 []) 0 1 fun v1=>Z1 (ar (iL (Z7 []) 0 1 fun v2=>?_))))
 refine Z1 (Y4 (ab 0 (Y5 (fun fz gz m F h=>∃(k:Nat) (os:LI) (u:Value) (dr:LI) (w:Value),(k<=rt.params.length)/\(os.length<=k)/\(dr.length<=k)/\(∀v∈os,0<=v/\v<(rt.params.length:Int))/\(∀v∈dr,0<=v/\v<(rt.params.length:Int))/\F=sF [2,3,4,5] fz [(6,ZP os u),(7,ZP dr w),(8,.i k)]/\h=[Zj gz 2,Zj gz 3,Zj gz 4,.tail u 1,.tail w 1]/\m=rt.params.length-k) _ _ _ ⟨0,[],v1,[],v2,ob,ob,ob,(fun v hv=>by cases hv),(fun v hv=>by cases hv),rfl,rfl,rfl⟩ (wk [2,2,2,1,0] (fw (Yg fl))) ?_)))
 rintro m F h ⟨k,os,u,dr,w,Yi,Zk,ZA,YO,Wp,rfl,rfl,rfl⟩
 refine Yt 3 [1] (iw (Yb rt.params) (Y0 ((k:Int)<(rt.params.length:Int)) (fun Za=>?_) (fun Za=>?_)))
 ·refine ak (aq (ab 1 (Zq 3 [1] ?_)))
  obtain ⟨x1,Z3⟩:=Zu rt.params k om
  refine Zm (Zi none (k:Int) 1 (Y6 Z3)) (XC [2,3,4,5,6,7,8] [(37,.b ((x1 != 0)&&(!(decide ((k:Int)∈rt.lent)))))] (fun gz=>gz) ?_ ?_)
  ·refine Z0 3 (ib (b:=(x1 != 0)) 31 (fun Zd=>?_) (fun Zd=>?_))
   ·exact Zy 3 [1] (Zt [] (US rt.lent (k:Int)) (Z1 (Zx 5 (Zo (!(decide ((k:Int)∈rt.lent))) Zd fl))))
   exact Z1 (Zx 5 (Zo false Zd fl))
  refine ac ((x1 != 0)&&(!(decide ((k:Int)∈rt.lent)))) (p:=(x1≠0)/\(¬((k:Int)∈rt.lent))) (YG Ys (Y1 dq)) (fun Zh=>?_) (fun Zh=>?_)
  ·refine Ye 2 (Zt [] (US (T5 (rt.params.length:Int) rt.body []) (k:Int)) (ie (Vh ((k:Int)∈(T5 (rt.params.length:Int) rt.body [])) (fun ZC=>?_) (fun ZC=>?_))))
   ·exact az (Z0 2 (iL (Z7 [(k:Int)]) 1 1 fun v3=>ZT 0 [(43,Z4 [(k:Int)])] (ip 4 (Z7 (os++[(k:Int)])) (Z7 os) (Z7 [(k:Int)]) u none 1 (YH _) (YH _) (Wb _) (by simp<;>omega) (by simp [Wa,Z7]) fun v4=>Z1 (az (Z0 1 (ZE k (Z1 (ZH ⟨k+1,(os++[(k:Int)]),v4,dr,w,ob,ob,ob,(by first|exact YO|exact XI YO om),(by first|exact Wp|exact XI Wp om),rfl,rfl,rfl⟩ (wk [2,2,2,0,1] (fw (ZL k fl)))))))))))
   exact az (Z0 2 (iL (Z7 [(k:Int)]) 1 1 fun v5=>ZT 0 [(47,Z4 [(k:Int)])] (ip 5 (Z7 (dr++[(k:Int)])) (Z7 dr) (Z7 [(k:Int)]) w none 1 (YH _) (YH _) (Wb _) (by simp<;>omega) (by simp [Wa,Z7]) fun v6=>Z1 (az (Z0 1 (ZE k (Z1 (ZH ⟨k+1,os,u,(dr++[(k:Int)]),v6,ob,ob,ob,(by first|exact YO|exact XI YO om),(by first|exact Wp|exact XI Wp om),rfl,rfl,rfl⟩ (wk [2,2,2,2,0] (fw (ZL k fl)))))))))))
  exact ak (az (Z0 1 (ZE k (Z1 (ZH ⟨k+1,os,u,dr,w,ob,ob,ob,(by first|exact YO|exact XI YO om),(by first|exact Wp|exact XI Wp om),rfl,rfl,rfl⟩ (Zx 5 (fw (ZL k fl))))))))
 refine ax 0 (Zq 6 [2,1,1] (iL (Z7 []) 0 1 fun v7=>ZT 0 [(54,Z4 os),(55,Z4 [])] (ic [] (Z7y n rt.params rt.body os [] rt.params.length (hf:=hr.body.1) (hop:=hr.op) (hor:=YO) (hal:=(by simp only [YZ];omega))) ?_)))
 rintro _ _ ⟨y1,rfl,rfl,YL⟩
 have hkb:=YL
 have hkl:=hkb.len
 refine iA [nl,.i 0] fun b4=>ZB 0 b4 (W3 y1) (ie (aD 9 (Dk 4 9 [0,2,3,5,6] [(57,Z4 dr)] [0,0] (Z9 1 (dc 1 [] [0,0] [b4,b4] (KG 15 dr) ?_)))))
 rintro _ _ ⟨v8,rfl,rfl⟩
 exact Z9 4 (dp 4 0 [0] [b4] (ZQ ((dr.map (Zw 15))++y1.steps)) (ZQ (dr.map (Zw 15))) (ZQ y1.steps) v8 none 5 (XJ _) (XJ _) (Up _) (by simp<;>omega) (by simp [Vx,ZQ]) fun v9=>Zs 1 2 [7] (Z9 8 (X5 8 3 [] [] b3 [Xl ((dr.map (Zw 15))++y1.steps) v9,.i y1.result] (de (ZU (r3 [] [.agg [Xl ((dr.map (Zw 15))++y1.steps) v9,.i y1.result]] [0] [(b3,b3)] ⟨(Z8.mk ((dr.map (Zw 15))++y1.steps) y1.result),rfl,rfl,((hkb.put1 (op:=15) (.inr rfl) Wp).le om)⟩ (Ze.agg (.cons (Ze.forget _ _) (.cons (lr _) .nil)))))))))
theorem Z83 (n:ZF) (qz:Nat) (hn:FO n qz WW:=by exact ob) (hqz:qz<=181:=by exact ob):Zp 148 [YF n] [] (fun r h=>∃(n2:ZF),r=YF n2/\h=[]/\FO n2 (4500*qz+10) VC):=by
 have hnl:=hn.fn.len
 have Xu:=hn.fn.decls.ok
 have hok:=hn.fn.ok
 refine ZG 36 Tryz.func148 (ar (iA (Xb n) fun b1=>iA [nl,nl] fun b2=>ie (Zq 2 [1] (Zt [] (Bb n.decls) (iL (Xd []) 0 5 fun v1=>Z0 1 (iA [nl,nl] fun b3=>?_))))))
 refine ZB 0 b3 [Yf n.decls,V1 [] v1] (ie (Y4 (ab 0 (Y5 (fun fz gz m F h=>∃(k:Nat) (rs:List YC) (u:Value),(k<=n.routines.length)/\(rs.length=k)/\(∀r∈rs,RF n.decls n.routines.length (4500*qz+10) VC r)/\F=sF [1,2,3] fz [(4,.i k)]/\h=[.obj b3 [Yf n.decls,V1 rs u],Zj gz 2,Zj gz 3,.tail u 5]/\m=n.routines.length-k) _ _ _ ⟨0,[],v1,ob,ob,(fun r hr=>by cases hr),rfl,rfl,rfl⟩ (wk [0,1,1,0] (Yg fl)) ?_))))
 rintro m F h ⟨k,rs,u,Yi,Zk,ZA,rfl,rfl,rfl⟩
 refine Yt 3 [2] (iw (Q2 n.routines) (Y0 ((k:Int)<(n.routines.length:Int)) (fun Za=>?_) (fun Za=>?_)))
 ·refine ak (aq (ab 1 (aE 19 (ZY 14 19 [0,1,2,3,4] [0,2] ?_))))
  obtain ⟨x1,Z3⟩:=Zu n.routines k om
  have hrf:=hn.rf (Y3 Z3)
  have hrp:(x1).params.length<=3:=(Tw.bd (f:=⟨(x1).params,(x1).result,default⟩) hrf.sig).1
  have hrl:=hrf.lent.1
  have hrz:=hrf.body.2
  refine dx 5 (Zi none (k:Int) 5 (VN Z3)) (ZY 8 13 [6,7,8,9,10] [2,2] (dx 11 (Zi none (k:Int) 5 (VN Z3)) (Zs 6 7 [12] (Z9 13 (dc 13 [] [2,0] [b1,b3] (Z80 n x1 qz (hr:=hrf)) ?_)))))
  rintro _ _ ⟨y1,rfl,rfl,Y7⟩
  have hkb:=Y7
  exact Z9 14 (YI 14 [] [0] [b3] (E6 x1 y1 (hp:=om) (hl:=om)) (Z9 15 (dL 15 [0] [b3] (Xd [YC.mk x1.params x1.lent x1.result y1]) 1 5 fun v2=>Yw 3 3 [] [(32,JH [YC.mk x1.params x1.lent x1.result y1])] (Z9 16 (dp 16 4 [] [] (Xd (rs++[YC.mk x1.params x1.lent x1.result y1])) (Xd rs) (Xd [YC.mk x1.params x1.lent x1.result y1]) u none 5 (Te _) (Te _) (Bx _) (by simp<;>omega) (by simp [Dr,Xd]) fun v3=>Zs 1 2 [17] (Z9 18 (X5 18 2 [] [] b3 [Yf n.decls,V1 (rs++[YC.mk x1.params x1.lent x1.result y1]) v3] (de (az (Z0 1 (ZE k (Z1 (ZH ⟨k+1,(rs++[YC.mk x1.params x1.lent x1.result y1]),v3,ob,ob,(XI ZA (by first|exact hrf.with hkb.fb hkb.sz hkb.op|(rw [Z8.eta];exact hrf.with hkb.fb hkb.sz hkb.op))),rfl,rfl,rfl⟩ (wk [0,2,2,0] (ZL k fl)))))))))))))))
 exact ax 0 (Zq 1 [0] (ZB 1 b2 [Yf n.decls,V1 rs u] (ie (ZU (r3 [] [.agg [Yf n.decls,V1 rs u]] [0] [(b2,b2)] ⟨(ZF.mk n.decls rs),rfl,rfl,(FO.fin hn.fn om ZA).1⟩ (Ze.agg (.cons (lr _) (.cons (Ze.forget _ _) .nil))))))))
theorem Z7v (n:ZF) (us:LI) (s:Z6) (mm:Nat) (hn:XA n:=by exact ob) (hf:FS n.decls n.routines.length mm s:=by exact ob) (hvl:us.length=mm:=by exact ob) (hm:mm<=100000000:=by exact ob):Zp 189 [YF n,Z4 us,X6 s] [] (fun r h=>∃(zs:LI),r=Z4 zs/\h=[]/\zs.length<=s.args.length/\∀z∈zs,z∈s.args):=by
 have hal:=hf.alen
 refine ZG 31 Tryz.func189 (ar (iA (Xb n) fun b1=>iA (Wk s) fun b2=>Z1 (ar (iL (Z7 []) 0 1 fun v1=>?_))))
 refine Z1 (Y4 (ab 0 (Y5 (fun fz gz m F h=>∃(k:Nat) (zs:LI) (u:Value),(k<=s.args.length)/\(zs.length<=k)/\(∀z∈zs,z∈s.args)/\F=sF [1,3,5] fz [(7,ZP zs u),(8,.i k)]/\h=[Zj gz 1,Zj gz 2,.tail u 1]/\m=s.args.length-k) _ _ _ ⟨0,[],v1,ob,ob,(fun z hz=>by cases hz),rfl,rfl,rfl⟩ (wk [1,1,0] (fr (Yg fl))) ?_)))
 rintro m F h ⟨k,zs,u,Yi,Zk,ZA,rfl,rfl,rfl⟩
 refine Yt 3 [0] (iw (Yb s.args) (Y0 ((k:Int)<(s.args.length:Int)) (fun Za=>?_) (fun Za=>?_)))
 ·obtain ⟨a1,ha1⟩:=Zu s.args k om
  have har:=hf.args a1 (Y3 ha1)
  refine ak (aq (ab 1 (Zq 4 [1,0] (Zt [] (HC n us s k a1 (hnum:=hf.call) (ha:=ha1)) (ie (ac (Jp n us s.op s.num a1 k) Iff.rfl (fun Zh=>?_) (fun Zh=>?_)))))))
  ·exact az (Zy 4 [0] (Zm (Zi none (k:Int) 1 (Y6 ha1)) (Z0 1 (iL (Z7 [a1]) 1 1 fun v2=>ZT 0 [(28,Z4 [a1])] (ip 3 (Z7 (zs++[a1])) (Z7 zs) (Z7 [a1]) u none 1 (YH _) (YH _) (Wb _) (by simp<;>omega) (by simp [Wa,Z7]) fun v3=>Z1 (az (Z0 1 (ZE k (Z1 (ZH ⟨k+1,(zs++[a1]),v3,ob,ob,(by first|exact ZA|exact XI ZA (Y3 ha1)),rfl,rfl,rfl⟩ (wk [2,2,0] (fr (ZL k fl)))))))))))))
  exact ak (az (Z0 1 (ZE k (Z1 (ZH ⟨k+1,zs,u,ob,ob,(by first|exact ZA|exact XI ZA (Y3 ha1)),rfl,rfl,rfl⟩ (Zx 3 (fr (ZL k fl))))))))
 exact ax 0 (ar (Zl (r2 [] [ZP zs u] ⟨zs,rfl,rfl,⟨by omega,ZA⟩⟩ (Ze.forget _ _))))
theorem Z8j (n:ZF) (us:LI) (s:Z6) (mm:Nat) (bb:Nat) (hn:XA n:=by exact ob) (hf:FS n.decls n.routines.length mm s:=by exact ob) (h11:s.op<=11:=by exact ob) (hop:K8 WW s.kids:=by exact ob) (hul:us.length=mm:=by exact ob) (hm:mm+4*s.sz<=100000:=by exact ob) (hbz:s.sz<=500:=by exact ob) (hb:s.sz<=bb:=by exact ob) (ih:∀(us2:LI) (b2:Z8) (mi2:LI) (m2:Nat),(fB n.decls n.routines.length m2 b2)->(Vu WW b2)->(us2.length=m2)->(m2+4*b2.sz<=100000)->(∀v∈mi2,0<=v/\v<(m2:Int))->(mi2.length<=3)->(b2.sz<=500)->(b2.sz<bb)->Zp 169 [YF n,Z4 us2,Yn b2,Z4 mi2] [] (fun r h=>∃(y:Z8),r=Yn y/\h=[]/\KB n.decls n.routines.length m2 y (60*b2.sz))):Zp 190 [YF n,Z4 us,X6 s] [] (fun r h=>∃(y:Z6),r=X6 y/\h=[]/\KT n.decls n.routines.length mm y (60*YX s.kids+23)):=by
 have Xu:=hn.decls
 have hkf:=hf.few Xu
 have hsa:=hf.alen
 refine ZG 72 Tryz.func190 (ar (iA (Xb n) fun b1=>iA (Wk s) fun b2=>iA [.i 0,.i 0,.i 0,nl,nl] fun b3=>ie (ar (iL (XU []) 0 2 fun v1=>Z1 (Zq 4 [3,2] (ic [] (Jb n.decls s.num) ?_))))))
 rintro _ _ ⟨v2,rfl,rfl⟩
 refine Z1 (Y4 (ab 0 (Y5 (fun fz gz m F h=>∃(k:Nat) (ks:List Z8) (u:Value),(k<=s.kids.length)/\(ks.length=k)/\(KK n.decls n.routines.length (V3 n.decls s.op s.num mm) ks (60*YX (s.kids.take k)+6*k))/\F=sF [1,3,5,6] fz [(7,Qt ks u),(8,Z4 (ZW n.decls s.num)),(9,.i k)]/\h=[Zj gz 2,Zj gz 3,Zj gz 4,.tail u 2]/\m=s.kids.length-k) _ _ _ ⟨0,[],v1,ob,ob,(KK.nil.le (Qf _)),rfl,rfl,rfl⟩ (wk [2,2,2,1] (fr (fc (x:=ZP (ZW n.decls s.num) v2) (Ze.forget _ _) (Yg fl)))) ?_)))
 rintro m F h ⟨k,ks,u,Yi,Zk,ZA,rfl,rfl,rfl⟩
 refine Yt 3 [1] (iw (Kq s.kids) (Y0 ((k:Int)<(s.kids.length:Int)) (fun Za=>?_) (fun Za=>?_)))
 ·refine ak (aq (ab 1 (ar (iL (Z7 []) 0 1 fun v3=>?_))))
  refine Z1 (Xe (WJ [2] (Xv (fun fz gz F h=>∃(fds:LI),(V3 n.decls s.op s.num mm k=mm+fds.length)/\(fds.length<=3)/\F=sF [1,3,5,6,7,8,9] fz [(10,Z4 fds)]/\h=[Zj gz 1,Zj gz 2,Zj gz 3,Zj gz 4]) ?_ ?_)))
  ·refine ac (s.op==8) Zg (fun Zh=>?_) (fun Zh=>?_)
   ·refine aE 8 (ZY 4 8 [0,1,2,3] [3] ?_)
    obtain ⟨x1,Z3⟩:=Zu (ZW n.decls s.num) k (by have:=hf.k8 (by assumption);omega)
    have hcf:=Vp Xu x1
    exact dx 4 (Zi none (k:Int) 1 (Y6 Z3)) (Zs 2 3 [5] (Z9 6 (YI 6 [] [] [] (Qu n.decls x1) (Zs 0 1 [7] (de (ZI ⟨ZO n.decls x1,(Mv (by assumption) Z3),ob,rfl,rfl⟩ (wk [1,1,1,1] fl)))))))
   exact ak (ZI ⟨[],(by rw [Mw (by assumption)];rfl),ob,rfl,rfl⟩ (wk [1,1,1,1] fl))
  rintro F h ⟨fds,VI,B3,rfl,rfl⟩
  refine Ye 2 (iw (Yb us) (ic [] (P2 fds us.length) ?_))
  rintro _ _ ⟨xs1,rfl,rfl,Y7⟩
  have hhf:=Y7
  refine Z1 (aD 13 (ZY 7 13 [0,1,2,4,5,6] [2,1] ?_))
  obtain ⟨x2,Zv⟩:=Zu s.kids k om
  have hkz:=Qr Zv
  have hfk:=Bz hf.kids Zv
  rw [Wr,VI] at hfk
  have hok:=DT.1 hop x2 (Y3 Zv)
  have hbt:=FP Zv
  have hba:=FQ Zv
  refine dx 7 (Zi none (k:Int) 2 (UX Zv)) (Zs 4 6 [8,9] (Bu (fun fz gz F h=>∃(y1:Z8) (b4:Nat),(KB n.decls n.routines.length (mm+fds.length) y1 (60*x2.sz))/\F=sF [1,3,5,6,7,8,9,11] fz [(12,.p b4 0)]/\h=[.obj b4 (W3 y1),Zj gz 0,Zj gz 1,Zj gz 2,Zj gz 3]) ?_ ?_))
  ·refine Uo 3 11 ?_ ?_
   ·refine dc 3 [] [1,2] [b2,b1] (TF us fds) ?_
    rintro _ _ ⟨v4,rfl,rfl⟩
    refine Yw 3 3 [] [(44,Z4 (us++fds))] (Uo 10 11 ?_ ?_)
    ·refine dc 10 [] [] [] (ih (us++fds) x2 xs1 (mm+fds.length) hfk hok (by rw [Yr,hul]) ob (fun v hv=>by have:=hhf.2 v hv;omega) ob ob ob) ?_
     rintro _ _ ⟨y1,rfl,rfl,Ym⟩
     have hkb:=Ym
     have hkl:=hkb.len
     exact Z9 11 (dA 11 [] [] [nl,.i 0] fun b4=>Z9 12 (X5 12 0 [] [] b4 (W3 y1) (de (ZI ⟨_,b4,(by assumption),rfl,rfl⟩ (wk [0,1,1,1,1] fl)))))
    refine dA 11 [1,2] [b2,b1] [nl,.i 0] fun b5=>Z9 10 (dc 10 [] [] [] (ih (us++fds) x2 xs1 (mm+fds.length) hfk hok (by rw [Yr,hul]) ob (fun v hv=>by have:=hhf.2 v hv;omega) ob ob ob) ?_)
    rintro _ _ ⟨y2,rfl,rfl,YL⟩
    have hkb:=YL
    have hkl:=hkb.len
    exact Z9 12 (X5 12 0 [] [] b5 (W3 y2) (de (ZI ⟨_,b5,(by assumption),rfl,rfl⟩ (wk [0,1,1,1,1] fl))))
   refine dA 11 [1,2] [b2,b1] [nl,.i 0] fun b6=>Z9 3 (dc 3 [] [2,3] [b2,b1] (TF us fds) ?_)
   rintro _ _ ⟨v5,rfl,rfl⟩
   refine Yw 2 2 [] [(44,Z4 (us++fds))] (Z9 10 (dc 10 [] [] [] (ih (us++fds) x2 xs1 (mm+fds.length) hfk hok (by rw [Yr,hul]) ob (fun v hv=>by have:=hhf.2 v hv;omega) ob ob ob) ?_))
   rintro _ _ ⟨y3,rfl,rfl,X3⟩
   have hkb:=X3
   have hkl:=hkb.len
   exact Z9 12 (X5 12 1 [] [] b6 (W3 y3) (de (ZI ⟨_,b6,(by assumption),rfl,rfl⟩ (wk [0,1,1,1,1] fl))))
  rintro F h ⟨y1,b4,Ym,rfl,rfl⟩
  have hkb:=Ym
  have hkl:=hkb.len
  refine aE 12 (ZY 6 12 [0,1,3,4,6,7] [0,0] (Z9 2 (dc 2 [] [0,0] [b4,b4] (KG 14 xs1) ?_)))
  rintro _ _ ⟨v6,rfl,rfl⟩
  exact Z9 5 (dp 5 0 [0] [b4] (ZQ ((xs1.map (Zw 14))++y1.steps)) (ZQ (xs1.map (Zw 14))) (ZQ y1.steps) v6 none 5 (XJ _) (XJ _) (Up _) (by simp<;>omega) (by simp [Vx,ZQ]) fun v7=>Yw 3 4 [8] [(60,.agg [Vt ((xs1.map (Zw 14))++y1.steps),.i y1.result])] (Z9 9 (WL 9 [] [] [Yn (Z8.mk ((xs1.map (Zw 14))++y1.steps) y1.result)] (XU [Z8.mk ((xs1.map (Zw 14))++y1.steps) y1.result]) (QV [Z8.mk ((xs1.map (Zw 14))++y1.steps) y1.result]).symm 1 2 fun v8=>Yw 2 2 [] [(61,JF [Z8.mk ((xs1.map (Zw 14))++y1.steps) y1.result])] (Z9 10 (dp 10 6 [] [] (XU (ks++[Z8.mk ((xs1.map (Zw 14))++y1.steps) y1.result])) (XU ks) (XU [Z8.mk ((xs1.map (Zw 14))++y1.steps) y1.result]) u none 2 (KU _) (KU _) (G3 _) (by simp<;>omega) (by simp [Cr,XU]) fun v9=>Zs 0 1 [11] (de (az (Z0 1 (ZE k (Z1 (ZH ⟨k+1,(ks++[Z8.mk ((xs1.map (Zw 14))++y1.steps) y1.result]),v9,ob,ob,((ZA.snoc Zk (by rw [VI];exact hkb.put1 (op:=14) (.inl rfl) (fun v hv=>by have:=hhf.2 v hv;omega))).le om),rfl,rfl,rfl⟩ (wk [4,4,4,0] (fw (ZL k fl))))))))))))))
 refine ax 0 (aD 10 (ZY 3 10 [0,1,2,3,4,5,7] [1,1,1] (Z9 6 (dc 6 [] [1,1] [b2,b2] (WQ s.args) ?_))))
 rintro _ _ ⟨v10,rfl,rfl⟩
 exact Zs 1 2 [8] (Z9 9 (X5 9 1 [] [] b3 [.i s.op,.i s.num,.i 0,ZP s.args v10,Qt ks u] (de (ZU (r3 [] [.agg [.i s.op,.i s.num,.i 0,ZP s.args v10,Qt ks u]] [0] [(b3,b3)] ⟨(Z6.mk s.op s.num 0 s.args ks),rfl,rfl,((KT.of (into:=0) hf h11 om om ZA).le (by have:=Ih (xs:=s.kids) (k:=k) om;omega))⟩ (Ze.agg (.cons (lr _) (.cons (lr _) (.cons (lr _) (.cons (Ze.forget _ _) (.cons (Ze.forget _ _) .nil)))))))))))
theorem Z8i (n:ZF) (us:LI) (b:Z8) (mi:LI) (mm:Nat) (hn:XA n) (hf:fB n.decls n.routines.length mm b) (hop:Vu WW b) (hul:us.length=mm) (hm:mm+4*b.sz<=100000) (hmr:∀v∈mi,0<=v/\v<(mm:Int)) (hml:mi.length<=3) (hbz:b.sz<=500) (ih:∀(us2:LI) (b2:Z8) (mi2:LI) (m2:Nat),(fB n.decls n.routines.length m2 b2)->(Vu WW b2)->(us2.length=m2)->(m2+4*b2.sz<=100000)->(∀v∈mi2,0<=v/\v<(m2:Int))->(mi2.length<=3)->(b2.sz<=500)->(b2.sz<b.sz)->Zp 169 [YF n,Z4 us2,Yn b2,Z4 mi2] [] (fun r h=>∃(y:Z8),r=Yn y/\h=[]/\KB n.decls n.routines.length m2 y (60*b2.sz))):Zp 169 [YF n,Z4 us,Yn b,Z4 mi] [] (fun r h=>∃(y:Z8),r=Yn y/\h=[]/\KB n.decls n.routines.length mm y (60*b.sz)):=by
 have Xu:=hn.decls
 have hbe:=b.sz_eq
 have ZK:=UB b
 obtain ⟨hfs,hr1,hr2⟩:=(KV b).1 hf
 have hos:=CU.1 ((H6 b).1 hop)
 have hdn:=Iv hos
 have hdl:=hdn b.steps.length (Xc _)
 rw [Uv] at hdl
 refine ZG 80 Tryz.func169 (ar (iA (Xb n) fun b1=>iA (W3 b) fun b2=>iA [nl,.i 0] fun b3=>ie (ar (iL (ZQ []) 0 5 fun v1=>Z1 (Ye 1 (ic [] (WQ us) ?_))))))
 rintro _ _ ⟨v2,rfl,rfl⟩
 refine Z1 (Ye 1 (ic [] (WQ mi) ?_))
 rintro _ _ ⟨v3,rfl,rfl⟩
 refine Z1 (Y4 (ab 0 (Y5 (fun fz gz m F h=>∃(k:Nat) (vs:LI) (w:Value) (ow:LI) (u:Value) (xs:List Z6) (v:Value) (z0:Nat),(k<=b.steps.length)/\(vs.length=mm+k)/\(CL n.decls n.routines.length mm xs k z0)/\(z0+2*ow.length<=60*Yx (b.steps.take k)+2*mi.length)/\(∀v∈ow,0<=v/\v<((mm+k:Nat):Int))/\F=sF [4,6,8] fz [(9,Xl xs v),(10,ZP vs w),(11,ZP ow u),(12,.i k)]/\h=[Zj gz 3,Zj gz 4,Zj gz 5,.tail u 1,.tail v 5,.tail w 1]/\m=b.steps.length-k) _ _ _ ⟨0,us,v2,mi,v3,[],v1,0,ob,ob,CL.nil,(by simp),hmr,rfl,rfl,rfl⟩ (wk [3,3,3,0,1,0] (fw (fr (Yg fl)))) ?_)))
 rintro m F h ⟨k,vs,w,ow,u,xs,v,z0,Yi,Zk,ZA,YO,Wp,rfl,rfl,rfl⟩
 refine Yt 3 [1] (iw (UH b.steps) (Y0 ((k:Int)<(b.steps.length:Int)) (fun Za=>?_) (fun Za=>?_)))
 ·refine ak (aq (ab 1 (Zq 3 [1] ?_)))
  obtain ⟨x1,Z3⟩:=Zu b.steps k om
  have XT:=D0 Z3
  have hfS:=(AR x1).1 (Dv hfs Z3)
  rw [hdn k om] at hfS
  have hoS:=(F3 x1).1 (hos x1 (Y3 Z3))
  have htk:=HD Z3
  have hse:=(x1).sz_eq
  have hal4:=hfS.alen
  have hxl:=ZA.len
  have htl:=KI b.steps (k+1)
  refine Zm (Zi none (k:Int) 5 (Ve Z3)) (Z0 1 (iA [.i 0,.i 0,.i 0,nl,nl] fun b4=>ZB 0 b4 (Wk x1) (ie (ar (Kd 3 [(33,Z4 vs)] [3,0] (Zt [] (MH n vs x1 ob ob) (Z1 (ar (Kd 4 [(38,Z4 vs)] [3,0] (ic [] (Z7v n vs x1 (mm+k) (hf:=hfS)) ?_))))))))))
  rintro _ _ ⟨zs1,rfl,rfl,Y7⟩
  have hdu:=Y7
  have hq1:=ZA.cnts (op:=14) (.inl rfl) (vs:=zs1) (fun v hv=>hfS.args v (hdu.2 v hv))
  have hl1:=hq1.len
  refine ic [] (KG 14 zs1) ?_
  rintro _ _ ⟨v4,rfl,rfl⟩
  refine ZT 0 [(41,Vt (zs1.map (Zw 14)))] (ip 6 (ZQ (xs++(zs1.map (Zw 14)))) (ZQ xs) (ZQ (zs1.map (Zw 14))) v none 5 (XJ _) (XJ _) (Up _) (by simp<;>omega) (by simp [Vx,ZQ]) fun v5=>Z1 (ar (Kd 4 [(45,Z4 vs)] [5,2] (ic [] (Z8j n vs x1 (mm+k) b.sz (hf:=hfS) (h11:=hoS.1) (hop:=hoS.2) (ih:=ih)) ?_))))
  rintro _ _ ⟨y1,rfl,rfl,Ym⟩
  have hkt:=Ym
  have hq2:=hq1.kt hkt
  have hl2:=hq2.len
  refine UN [X6 y1] (ZQ [y1]) (Ub [y1]).symm 1 5 fun v6=>ZT 0 [(48,Vt [y1])] (ip 1 (ZQ ((xs++(zs1.map (Zw 14)))++[y1])) (ZQ (xs++(zs1.map (Zw 14)))) (ZQ [y1]) v5 none 5 (XJ _) (XJ _) (Up _) (by simp<;>omega) (by simp [Vx,ZQ]) fun v7=>Z1 (Xe (Yy ((X2 n vs x1) != 0) Ys (fun Zh=>?_) (fun Zh=>?_))))
  ·exact az (Z0 2 (iw (Yb vs) (iL (Z7 [(vs.length:Int)]) 1 1 fun v8=>ZT 0 [(55,Z4 [(vs.length:Int)])] (ip 8 (Z7 (ow++[(vs.length:Int)])) (Z7 ow) (Z7 [(vs.length:Int)]) u none 1 (YH _) (YH _) (Wb _) (by simp<;>omega) (by simp [Wa,Z7]) fun v9=>Z1 (az (Z0 2 (iL (Z7 [X2 n vs x1]) 1 1 fun v10=>ZT 0 [(59,Z4 [X2 n vs x1])] (ip 10 (Z7 (vs++[X2 n vs x1])) (Z7 vs) (Z7 [X2 n vs x1]) w none 1 (YH _) (YH _) (Wb _) (by simp<;>omega) (by simp [Wa,Z7]) fun v11=>Z1 (az (Z0 1 (ZE k (Z1 (ZH ⟨k+1,(vs++[X2 n vs x1]),v11,(ow++[(vs.length:Int)]),v9,((xs++(zs1.map (Zw 14)))++[y1]),v7,_,ob,ob,hq2,(by (try simp only [Yr,Yp,YZ]);omega),(by first|exact XI (fun v hv=>by have:=Wp v hv;omega) om|exact (fun v hv=>by have:=Wp v hv;omega)),rfl,rfl,rfl⟩ (wk [8,8,8,2,3,0] (fw (fr (ZL k fl)))))))))))))))))
  exact ak (az (Z0 2 (iL (Z7 [X2 n vs x1]) 1 1 fun v12=>ZT 0 [(59,Z4 [X2 n vs x1])] (ip 9 (Z7 (vs++[X2 n vs x1])) (Z7 vs) (Z7 [X2 n vs x1]) w none 1 (YH _) (YH _) (Wb _) (by simp<;>omega) (by simp [Wa,Z7]) fun v13=>Z1 (az (Z0 1 (ZE k (Z1 (ZH ⟨k+1,(vs++[X2 n vs x1]),v13,ow,u,((xs++(zs1.map (Zw 14)))++[y1]),v7,_,ob,ob,hq2,(by (try simp only [Yr,Yp,YZ]);omega),(by first|exact XI (fun v hv=>by have:=Wp v hv;omega) om|exact (fun v hv=>by have:=Wp v hv;omega)),rfl,rfl,rfl⟩ (wk [6,6,6,6,2,0] (fw (fr (ZL k fl)))))))))))))
 have hxl:=ZA.len
 have htl:=KI b.steps k
 refine ax 0 (Yt 3 [1] ?_)
 obtain ⟨x2,Zv⟩:=Zu vs b.result.toNat om
 refine Zm (Zi (some w) b.result 1 (Y6 Zv)) (Yy (x2 != 0) Ys (fun ZC=>?_) (fun ZC=>?_))
 ·refine az (Zy 3 [1] (Zt [] (C1 14 b.result) (UN [X6 (Zw 14 b.result)] (ZQ [Zw 14 b.result]) (Ub [Zw 14 b.result]).symm 1 5 fun v14=>ZT 0 [(71,Vt [Zw 14 b.result])] (ip 5 (ZQ (xs++[Zw 14 b.result])) (ZQ xs) (ZQ [Zw 14 b.result]) v none 5 (XJ _) (XJ _) (Up _) (by simp<;>omega) (by simp [Vx,ZQ]) fun v15=>Z1 (aD 8 (Dk 4 8 [0,1,4,5] [(74,Z4 ow)] [3] (Z9 2 (dc 2 [] [1] [b2] (KG 15 ow) ?_))))))))
  rintro _ _ ⟨v16,rfl,rfl⟩
  exact Yw 3 3 [] [(75,Vt (ow.map (Zw 15)))] (Z9 3 (dp 3 1 [1] [b2] (ZQ ((xs++[Zw 14 b.result])++(ow.map (Zw 15)))) (ZQ (xs++[Zw 14 b.result])) (ZQ (ow.map (Zw 15))) v15 none 5 (XJ _) (XJ _) (Up _) (by simp<;>omega) (by simp [Vx,ZQ]) fun v17=>Zs 1 2 [6] (Z9 7 (X5 7 3 [] [] b3 [Xl ((xs++[Zw 14 b.result])++(ow.map (Zw 15))) v17,.i b.result] (de (ZU (r3 [] [.agg [Xl ((xs++[Zw 14 b.result])++(ow.map (Zw 15))) v17,.i b.result]] [0] [(b3,b3)] ⟨(Z8.mk ((xs++[Zw 14 b.result])++(ow.map (Zw 15))) b.result),rfl,rfl,((((ZA.cnt (op:=14) (.inl rfl) om).cnts (op:=15) (.inr rfl) (fun v hv=>by have:=Wp v hv;omega)).block om).le (by have:=KI b.steps k;omega))⟩ (Ze.agg (.cons (Ze.forget _ _) (.cons (lr _) .nil))))))))))
 refine ak (aD 8 (Dk 4 8 [0,1,4,5] [(74,Z4 ow)] [1] (Z9 2 (dc 2 [] [1] [b2] (KG 15 ow) ?_))))
 rintro _ _ ⟨v18,rfl,rfl⟩
 exact Yw 3 3 [] [(75,Vt (ow.map (Zw 15)))] (Z9 3 (dp 3 5 [1] [b2] (ZQ (xs++(ow.map (Zw 15)))) (ZQ xs) (ZQ (ow.map (Zw 15))) v none 5 (XJ _) (XJ _) (Up _) (by simp<;>omega) (by simp [Vx,ZQ]) fun v19=>Zs 1 2 [6] (Z9 7 (X5 7 2 [] [] b3 [Xl (xs++(ow.map (Zw 15))) v19,.i b.result] (de (ZU (r3 [] [.agg [Xl (xs++(ow.map (Zw 15))) v19,.i b.result]] [0] [(b3,b3)] ⟨(Z8.mk (xs++(ow.map (Zw 15))) b.result),rfl,rfl,(((ZA.cnts (op:=15) (.inr rfl) (fun v hv=>by have:=Wp v hv;omega)).block om).le (by have:=KI b.steps k;omega))⟩ (Ze.agg (.cons (Ze.forget _ _) (.cons (lr _) .nil))))))))))
theorem Z8h (n:ZF) (us:LI) (b:Z8) (mi:LI) (mm:Nat) (hn:XA n:=by exact ob) (hf:fB n.decls n.routines.length mm b:=by exact ob) (hop:Vu WW b:=by exact ob) (hul:us.length=mm:=by exact ob) (hm:mm+4*b.sz<=100000:=by exact ob) (hmr:∀v∈mi,0<=v/\v<(mm:Int)) (hml:mi.length<=3:=by exact ob) (hbz:b.sz<=500:=by exact ob):Zp 169 [YF n,Z4 us,Yn b,Z4 mi] [] (fun r h=>∃(y:Z8),r=Yn y/\h=[]/\KB n.decls n.routines.length mm y (60*b.sz)):=by
 have key:∀k:Nat,∀(us2:LI) (b2:Z8) (mi2:LI) (m2:Nat),(fB n.decls n.routines.length m2 b2)->(Vu WW b2)->(us2.length=m2)->(m2+4*b2.sz<=100000)->(∀v∈mi2,0<=v/\v<(m2:Int))->(mi2.length<=3)->(b2.sz<=500)->(b2.sz<k)->Zp 169 [YF n,Z4 us2,Yn b2,Z4 mi2] [] (fun r h=>∃(y:Z8),r=Yn y/\h=[]/\KB n.decls n.routines.length m2 y (60*b2.sz)):=by
  intro k
  induction k with
  | zero=>intro us2 b2 mi2 m2 h1 h2 h3 h4 h5 h6 h7 h9;omega
  | succ k ih=>intro us2 b2 mi2 m2 h1 h2 h3 h4 h5 h6 h7 h9;exact Z8i n us2 b2 mi2 m2 hn h1 h2 h3 h4 h5 h6 h7 fun us3 b3 mi3 m3 q1 q2 q3 q4 q5 q6 q7 q9=>ih us3 b3 mi3 m3 q1 q2 q3 q4 q5 q6 q7 om
 exact key (b.sz+1) us b mi mm hf hop hul hm hmr hml hbz om
theorem Z91 (rt:YC) (hp:rt.params.length<=1000000:=by exact ob) (hl:rt.lent.length<=1000000:=by exact ob):Zp 170 [JT rt] [] (fun r h=>∃(os:LI),r=Z4 os/\h=[]/\os.length<=rt.params.length/\∀v∈os,0<=v/\v<(rt.params.length:Int)):=by
 refine ZG 31 Tryz.func170 (ar (iA (JB rt) fun b1=>Z1 (ar (iL (Z7 []) 0 1 fun v1=>?_))))
 refine Z1 (Y4 (ab 0 (Y5 (fun fz gz m F h=>∃(k:Nat) (os:LI) (u:Value),(k<=rt.params.length)/\(os.length<=k)/\(∀v∈os,0<=v/\v<(rt.params.length:Int))/\F=sF [1] fz [(3,ZP os u),(4,.i k)]/\h=[Zj gz 1,.tail u 1]/\m=rt.params.length-k) _ _ _ ⟨0,[],v1,ob,ob,(fun v hv=>by cases hv),rfl,rfl,rfl⟩ (wk [1,0] (fr (Yg fl))) ?_)))
 rintro m F h ⟨k,os,u,Yi,Zk,ZA,rfl,rfl,rfl⟩
 refine Yt 3 [0] (iw (Yb rt.params) (Y0 ((k:Int)<(rt.params.length:Int)) (fun Za=>?_) (fun Za=>?_)))
 ·refine ak (aq (ab 1 (Zq 3 [0] ?_)))
  obtain ⟨x1,Z3⟩:=Zu rt.params k om
  refine Zm (Zi none (k:Int) 1 (Y6 Z3)) (XC [1,3,4] [(25,.b ((x1 != 0)&&(!(decide ((k:Int)∈rt.lent)))))] (fun gz=>gz) ?_ ?_)
  ·refine Z0 3 (ib (b:=(x1 != 0)) 19 (fun Zd=>?_) (fun Zd=>?_))
   ·exact Zy 3 [0] (Zt [] (US rt.lent (k:Int)) (Z1 (wk [0,0] (Zo (!(decide ((k:Int)∈rt.lent))) Zd fl))))
   exact Z1 (wk [0,0] (Zo false Zd fl))
  refine ac ((x1 != 0)&&(!(decide ((k:Int)∈rt.lent)))) (p:=(x1≠0)/\(¬((k:Int)∈rt.lent))) (YG Ys (Y1 dq)) (fun Zh=>?_) (fun Zh=>?_)
  ·exact az (Z0 2 (iL (Z7 [(k:Int)]) 1 1 fun v2=>ZT 0 [(28,Z4 [(k:Int)])] (ip 2 (Z7 (os++[(k:Int)])) (Z7 os) (Z7 [(k:Int)]) u none 1 (YH _) (YH _) (Wb _) (by simp<;>omega) (by simp [Wa,Z7]) fun v3=>Z1 (az (Z0 1 (ZE k (Z1 (ZH ⟨k+1,(os++[(k:Int)]),v3,ob,ob,(by first|exact ZA|exact XI ZA om),rfl,rfl,rfl⟩ (wk [2,0] (fr (ZL k fl)))))))))))
  exact ak (az (Z0 1 (ZE k (Z1 (ZH ⟨k+1,os,u,ob,ob,(by first|exact ZA|exact XI ZA om),rfl,rfl,rfl⟩ (wk [0,0] (fr (ZL k fl))))))))
 exact ax 0 (ar (Zl (r2 [] [ZP os u] ⟨os,rfl,rfl,⟨by omega,ZA⟩⟩ (Ze.forget _ _))))
theorem Z8g (n:ZF) (qz:Nat) (hn:FO n qz WW:=by exact ob) (hqz:qz<=181:=by exact ob):Zp 149 [YF n] [] (fun r h=>∃(n2:ZF),r=YF n2/\h=[]/\FO n2 (60*qz) VC):=by
 have hnl:=hn.fn.len
 have Xu:=hn.fn.decls.ok
 have hok:=hn.fn.ok
 refine ZG 39 Tryz.func149 (ar (iA (Xb n) fun b1=>iA [nl,nl] fun b2=>ie (Zq 2 [1] (Zt [] (Bb n.decls) (iL (Xd []) 0 5 fun v1=>Z0 1 (iA [nl,nl] fun b3=>?_))))))
 refine ZB 0 b3 [Yf n.decls,V1 [] v1] (ie (Y4 (ab 0 (Y5 (fun fz gz m F h=>∃(k:Nat) (rs:List YC) (u:Value),(k<=n.routines.length)/\(rs.length=k)/\(∀r∈rs,RF n.decls n.routines.length (60*qz) VC r)/\F=sF [1,2,3] fz [(4,.i k)]/\h=[.obj b3 [Yf n.decls,V1 rs u],Zj gz 2,Zj gz 3,.tail u 5]/\m=n.routines.length-k) _ _ _ ⟨0,[],v1,ob,ob,(fun r hr=>by cases hr),rfl,rfl,rfl⟩ (wk [0,1,1,0] (Yg fl)) ?_))))
 rintro m F h ⟨k,rs,u,Yi,Zk,ZA,rfl,rfl,rfl⟩
 refine Yt 3 [2] (iw (Q2 n.routines) (Y0 ((k:Int)<(n.routines.length:Int)) (fun Za=>?_) (fun Za=>?_)))
 ·refine ak (aq (ab 1 (Zq 3 [2] ?_)))
  obtain ⟨x1,Z3⟩:=Zu n.routines k om
  have hrf:=hn.rf (Y3 Z3)
  have hrp:(x1).params.length<=3:=(Tw.bd (f:=⟨(x1).params,(x1).result,default⟩) hrf.sig).1
  have hrl:=hrf.lent.1
  have hrz:=hrf.body.2
  refine Zm (Zi none (k:Int) 5 (VN Z3)) (Z0 1 (iA [nl,nl,.i 0,nl,.i 0] fun b4=>ZB 0 b4 (JB x1) (ie (aE 16 (ZY 7 16 [0,1,2,3,4,5,6,7,8] [1,0,3,0,0,0] (Z9 9 (dc 9 [] [0,0,3,0,1] [b4,b4,b1,b4,b3] (Z91 x1) ?_)))))))
  rintro _ _ ⟨os1,rfl,rfl,Y7⟩
  have hop:=Y7
  refine Z9 10 (dc 10 [] [0,1] [b4,b3] (Z8h n x1.params x1.body os1 _ (hf:=hrf.body.1) (hop:=hrf.op) (hul:=rfl) (hmr:=hop.2)) ?_)
  rintro _ _ ⟨y1,rfl,rfl,Ym⟩
  have hkb0:=Ym
  have hkb:=hkb0.le (z2:=60*qz) om
  exact Z9 11 (YI 11 [] [1] [b3] (E6 x1 y1 (hp:=om) (hl:=om)) (Z9 12 (dL 12 [1] [b3] (Xd [YC.mk x1.params x1.lent x1.result y1]) 1 5 fun v2=>Yw 3 3 [] [(35,JH [YC.mk x1.params x1.lent x1.result y1])] (Z9 13 (dp 13 5 [] [] (Xd (rs++[YC.mk x1.params x1.lent x1.result y1])) (Xd rs) (Xd [YC.mk x1.params x1.lent x1.result y1]) u none 5 (Te _) (Te _) (Bx _) (by simp<;>omega) (by simp [Dr,Xd]) fun v3=>Zs 1 2 [14] (Z9 15 (X5 15 3 [] [] b3 [Yf n.decls,V1 (rs++[YC.mk x1.params x1.lent x1.result y1]) v3] (de (az (Z0 1 (ZE k (Z1 (ZH ⟨k+1,(rs++[YC.mk x1.params x1.lent x1.result y1]),v3,ob,ob,(XI ZA (by first|exact hrf.with hkb.fb hkb.sz hkb.op|(rw [Z8.eta];exact hrf.with hkb.fb hkb.sz hkb.op))),rfl,rfl,rfl⟩ (wk [0,3,3,0] (ZL k fl)))))))))))))))
 exact ax 0 (Zq 1 [0] (ZB 1 b2 [Yf n.decls,V1 rs u] (ie (ZU (r3 [] [.agg [Yf n.decls,V1 rs u]] [0] [(b2,b2)] ⟨(ZF.mk n.decls rs),rfl,rfl,(FO.fin hn.fn om ZA).1⟩ (Ze.agg (.cons (lr _) (.cons (Ze.forget _ _) .nil))))))))
theorem Z0u (s:Z6) :Zp 175 [X6 s] [] (Yu (.b ((s.op==14)||(s.op==15)))):=by
 refine ZG 11 Tryz.func175 (ar (iA (Wk s) fun b1=>Z1 (ar (YV 8 [] [(10,.b ((s.op==14)||(s.op==15)))] (fun gz=>gz) ?_ (fun hj1=>?_)))))
 ·exact Zl (Bf)
 refine Zy 4 [0] (ib (b:=(s.op==14)) 6 (fun Zd=>?_) (fun Zd=>?_))
 ·exact Z0 4 (ZX (wk [0] (Zo true Zd fl)) hj1)
 exact Zy 4 [0] (ZX (wk [0] (Zo (s.op==15) Zd fl)) hj1)
theorem Z9b (rn:List Z6) (hrn:∀s∈rn,∃a,s.args=[a]) (hl:rn.length<=100000000:=by exact ob):Zp 199 [Vt rn] [] (fun r h=>∃(vs:LI),r=Z4 vs/\h=[]/\Cb vs/\vs.length<=rn.length/\∀v∈vs,∃s∈rn,s.args=[v]):=by
 refine ZG 22 Tryz.func199 (Y8 (ar (iL (Z7 []) 0 1 fun v1=>?_)))
 refine Z1 (Y4 (ab 0 (Y5 (fun fz gz m F h=>∃(k:Nat) (vs:LI),(k<=rn.length)/\(vs.length<=k)/\(Cb vs)/\(∀v∈vs,∃s∈rn,s.args=[v])/\F=sF [0] fz [(3,Z4 vs),(4,.i k)]/\h=[]/\m=rn.length-k) _ _ _ ⟨0,[],ob,ob,List.Pairwise.nil,(fun v hv=>by cases hv),rfl,rfl,rfl⟩ (wk [] (fc (x:=ZP [] v1) (Ze.forget _ _) (Yg fl))) ?_)))
 rintro m F h ⟨k,vs,Yi,Zk,ZA,YO,rfl,rfl,rfl⟩
 refine YP 2 (iw (UH rn) (Y0 ((k:Int)<(rn.length:Int)) (fun Za=>?_) (fun Za=>?_)))
 ·refine ak (aq (ab 1 (az (Z0 3 ?_))))
  obtain ⟨x1,Z3⟩:=Zu rn k om
  have hxm:=Y3 Z3
  obtain ⟨xa,hxa⟩:=hrn _ hxm
  refine Zm (Zi none (k:Int) 5 (Ve Z3)) (Z0 2 ?_)
  obtain ⟨x2,Zv⟩:=Zu x1.args 0 (by rw [hxa];simp)
  have hxe:x1.args=[x2]:=by have h:=Zv;rw [hxa] at h;rw [hxa];simpa using h
  refine Zm (Zi none 0 1 (Y6 Zv)) (Z0 1 (ic [] (AT vs x2) ?_))
  rintro _ _ ⟨v2,rfl,rfl⟩
  exact Z1 (az (Z0 1 (ZE k (Z1 (ZH ⟨k+1,(Wz vs x2),ob,(by have:=Jy vs x2;omega),(Py ZA),(fun v hv=>(CJ.1 hv).elim (YO v) (fun e=>⟨x1,hxm,by rw [e];exact hxe⟩)),rfl,rfl,rfl⟩ (wk [] (fc (x:=ZP (Wz vs x2) v2) (Ze.forget _ _) (ZL k fl))))))))
 exact ax 0 (ar (Zl (r1 [] ⟨vs,rfl,rfl,⟨ZA,by omega,YO⟩⟩)))
theorem Z8t (rn:List Z6) (v:Int) (hrn:∀s∈rn,∃a,s.args=[a]) (hl:rn.length<=100000000:=by exact ob):Zp 200 [Vt rn,.i v] [] (fun r h=>∃(z:Int),r=.i z/\h=[]/\-((VM rn v:Nat):Int)<=z/\z<=((VM rn v:Nat):Int)):=by
 refine ZG 44 Tryz.func200 (Y8 (Y8 (Y4 (ab 0 (Y5 (fun fz gz m F h=>∃(k:Nat) (z:Int),(k<=rn.length)/\(-((VM (rn.take k) v:Nat):Int)<=z/\z<=((VM (rn.take k) v:Nat):Int))/\F=sF [0,1] fz [(5,.i z),(6,.i k)]/\h=gz/\m=rn.length-k) _ _ _ ⟨0,0,ob,(by simp [VM]),rfl,rfl,rfl⟩ (wk [] (fr (Yg fl))) ?_)))))
 rintro m F h ⟨k,z,Yi,Zk,rfl,rfl,rfl⟩
 refine YP 2 (iw (UH rn) (Y0 ((k:Int)<(rn.length:Int)) (fun Za=>?_) (fun Za=>?_)))
 ·refine ak (aq (ab 1 (Ye 2 ?_)))
  obtain ⟨x1,Z3⟩:=Zu rn k om
  have hxm:=Y3 Z3
  obtain ⟨xa,hxa⟩:=hrn _ hxm
  have hct:=Z47 Z3 v
  have hcl:=Z48 rn (k+1) v
  have hcm:=NK rn v
  refine Zm (Zi none (k:Int) 5 (Ve Z3)) (Z0 2 ?_)
  obtain ⟨x2,Zv⟩:=Zu x1.args 0 (by rw [hxa];simp)
  have hg0:=Ks Zv
  rw [hg0] at hct
  refine Zm (Zi none 0 1 (Y6 Zv)) (XC [0,1,5,6] [(29,.b ((x2==v)&&(x1.op==14)))] (fun gz=>gz) ?_ ?_)
  ·refine Z0 4 (ib (b:=(x2==v)) 22 (fun Zd=>?_) (fun Zd=>?_))
   ·exact Z0 2 (Zm (Zi none (k:Int) 5 (Ve Z3)) (Z1 (wk [] (Zo (x1.op==14) Zd fl))))
   exact Z1 (wk [] (Zo false Zd fl))
  refine ac ((x2==v)&&(x1.op==14)) (p:=(x2=v)/\(x1.op=14)) (YG Zg Zg) (fun Zh=>?_) (fun Zh=>?_)
  ·exact az (Z0 1 (ia ((z+1)) ((z)+(1)) (Z1 (az (Z0 1 (ZE k (Z1 (ZH ⟨k+1,(z+1),ob,(by first|(rw [hct,Zb om];omega)|(rw [hct,Z5 om];omega)),rfl,rfl,rfl⟩ (wk [] (fr (ZL k fl)))))))))))
  refine Ye 2 (Zm (Zi none (k:Int) 5 (Ve Z3)) (Z0 2 (Zm (Zi none 0 1 (Y6 Zv)) (Yy (x2==v) Zg (fun ZC=>?_) (fun ZC=>?_)))))
  ·exact az (Z0 1 (ia ((z-1)) ((z)-(1)) (Z1 (az (Z0 1 (ZE k (Z1 (ZH ⟨k+1,(z-1),ob,(by first|(rw [hct,Zb om];omega)|(rw [hct,Z5 om];omega)),rfl,rfl,rfl⟩ (wk [] (fr (ZL k fl)))))))))))
  exact ak (az (Z0 1 (ZE k (Z1 (ZH ⟨k+1,z,ob,(by first|(rw [hct,Zb om];omega)|(rw [hct,Z5 om];omega)),rfl,rfl,rfl⟩ (wk [] (fr (ZL k fl))))))))
 exact ax 0 (ar (Zl (r1 [] ⟨z,rfl,rfl,(by have e:=Zk;rw [WR om] at e;exact e)⟩)))
theorem P8 (rn:List Z6) (hrn:∀s∈rn,∃a,s.args=[a]) (hl:rn.length<=100000000:=by exact ob):Zp 176 [Vt rn] [] (fun r h=>∃(D:LI) (R:LI) (v:Value),r=Xl (D.map (Zw 14)++R.map (Zw 15)) v/\h=[.tail v 5]/\D.length+R.length<=rn.length/\(∀v∈D,∃s∈rn,s.args=[v])/\∀v∈R,∃s∈rn,s.args=[v]):=by
 refine ZG 51 Tryz.func176 (Y8 (ar (iL (Z7 []) 0 1 fun v1=>Z1 (ar (iL (Z7 []) 0 1 fun v2=>Z1 (Ye 1 (ic [] (Z9b rn (hrn:=ob)) ?_)))))))
 rintro _ _ ⟨vs1,rfl,rfl,Y7⟩
 have hvo:=Y7
 have hsl:=Z1i rn hvo.1
 refine Z1 (Y4 (ab 0 (Y5 (fun fz gz m F h=>∃(k:Nat) (D:LI) (u:Value) (R:LI) (w:Value),(k<=vs1.length)/\(D.length+R.length<=VB rn (vs1.take k))/\(∀v∈D,v∈vs1)/\(∀v∈R,v∈vs1)/\F=sF [0,5] fz [(3,ZP D u),(4,ZP R w),(6,.i k)]/\h=[.tail u 1,.tail w 1]/\m=vs1.length-k) _ _ _ ⟨0,[],v1,[],v2,ob,(by simp [VB]),(fun v hv=>by cases hv),(fun v hv=>by cases hv),rfl,rfl,rfl⟩ (wk [1,0] (fw (Yg fl))) ?_)))
 rintro m F h ⟨k,D,u,R,w,Yi,Zk,ZA,YO,rfl,rfl,rfl⟩
 refine YP 2 (iw (Yb vs1) (Y0 ((k:Int)<(vs1.length:Int)) (fun Za=>?_) (fun Za=>?_)))
 ·refine ak (aq (ab 1 (Ye 3 ?_)))
  obtain ⟨x1,Z3⟩:=Zu vs1 k om
  have hst:=Zh8 (rn:=rn) Z3
  have hsk:=MO rn vs1 (k+1)
  have hxm:=Y3 Z3
  refine Zm (Zi none (k:Int) 1 (Y6 Z3)) (Z0 1 (ic [] (Z8t rn x1 (hrn:=ob)) ?_))
  rintro _ _ ⟨z1,rfl,rfl,Ym⟩
  have hnt:=Ym
  refine Z1 (aq (ab 2 (Y5 (fun fz gz m F h=>∃(z:Int) (D2:LI) (u2:Value) (w2:Value),((D2.length:Int)+(R.length:Int)+z<=((VB rn (vs1.take k):Nat):Int)+((VM rn x1:Nat):Int))/\((D2.length:Int)+(R.length:Int)-z<=((VB rn (vs1.take k):Nat):Int)+((VM rn x1:Nat):Int))/\(∀v∈D2,v∈vs1)/\F=sF [0,5,6] fz [(3,ZP D2 u2),(4,ZP R w2),(7,.i z)]/\h=[.tail u2 1,.tail w2 1]/\m=z.toNat) _ _ _ ⟨z1,D,u,w,om,om,ZA,rfl,rfl,rfl⟩ (wk [0,0] fl) ?_)))
  rintro m F h ⟨z,D2,u2,w2,Ui,W4,XV,rfl,rfl,rfl⟩
  refine Xe (Y0 (z>0) (fun Zh=>?_) (fun Zh=>?_))
  ·exact ak (aq (ab 3 (az (Z0 3 (Zm (Zi none (k:Int) 1 (Y6 Z3)) (Z0 1 (iL (Z7 [x1]) 1 1 fun v3=>ZT 0 [(33,Z4 [x1])] (ip 1 (Z7 (D2++[x1])) (Z7 D2) (Z7 [x1]) u2 none 1 (YH _) (YH _) (Wb _) (by simp<;>omega) (by simp [Wa,Z7]) fun v4=>Z1 (az (Z0 1 (ia ((z-1)) ((z)-(1)) (Z1 (ZH ⟨(z-1),(D2++[x1]),v4,w2,(by simp only [Yr,Yp,YZ];omega),(by simp only [Yr,Yp,YZ];omega),(XI XV hxm),rfl,rfl,rfl⟩ (wk [0,1] fl))))))))))))))
  refine ax 2 (ab 4 (Y5 (fun fz gz m F h=>∃(y:Int) (R2:LI) (u3:Value) (w3:Value),((D2.length:Int)+(R2.length:Int)+y<=((VB rn (vs1.take k):Nat):Int)+((VM rn x1:Nat):Int))/\((D2.length:Int)+(R2.length:Int)-y<=((VB rn (vs1.take k):Nat):Int)+((VM rn x1:Nat):Int))/\(∀v∈R2,v∈vs1)/\F=sF [0,5,6] fz [(3,ZP D2 u3),(4,ZP R2 w3),(7,.i y)]/\h=[.tail u3 1,.tail w3 1]/\m=(-y).toNat) _ _ _ ⟨z,R,u2,w2,ob,ob,YO,rfl,rfl,rfl⟩ (wk [0,0] fl) ?_))
  rintro m F h ⟨y,R2,u3,w3,FT,Ch,Ci,rfl,rfl,rfl⟩
  refine Xe (Y0 (y<0) (fun ZC=>?_) (fun ZC=>?_))
  ·exact ak (aq (ab 5 (az (Z0 3 (Zm (Zi none (k:Int) 1 (Y6 Z3)) (Z0 1 (iL (Z7 [x1]) 1 1 fun v5=>ZT 0 [(44,Z4 [x1])] (ip 2 (Z7 (R2++[x1])) (Z7 R2) (Z7 [x1]) w3 none 1 (YH _) (YH _) (Wb _) (by simp<;>omega) (by simp [Wa,Z7]) fun v6=>Z1 (az (Z0 1 (ia ((y+1)) ((y)+(1)) (Z1 (ZH ⟨(y+1),(R2++[x1]),u3,v6,(by simp only [Yr,Yp,YZ];omega),(by simp only [Yr,Yp,YZ];omega),(XI Ci hxm),rfl,rfl,rfl⟩ (wk [2,0] fl))))))))))))))
  exact ax 4 (az (Z0 1 (ZE k (Z1 (ZH ⟨k+1,D2,u3,R2,w3,ob,(by rw [hst];omega),XV,Ci,rfl,rfl,rfl⟩ (wk [0,0] (fw (ZL k fl))))))))
 have XT:=MO rn vs1 k
 refine ax 0 (ar (ZT 1 [(46,Z4 D)] (ic [] (KG 14 D) ?_)))
 rintro _ _ ⟨v7,rfl,rfl⟩
 refine ZT 1 [(48,Z4 R)] (ic [] (KG 15 R) ?_)
 rintro _ _ ⟨v8,rfl,rfl⟩
 exact ZT 0 [(49,Vt (R.map (Zw 15)))] (ip 1 (ZQ ((D.map (Zw 14))++(R.map (Zw 15)))) (ZQ (D.map (Zw 14))) (ZQ (R.map (Zw 15))) v7 none 5 (XJ _) (XJ _) (Up _) (by simp<;>omega) (by simp [Vx,ZQ]) fun v9=>Zl (r2 [0] [Xl ((D.map (Zw 14))++(R.map (Zw 15))) v9] ⟨_,_,v9,rfl,rfl,⟨by have:=MO rn vs1 k;omega,fun v hv=>hvo.2.2 v (ZA v hv),fun v hv=>hvo.2.2 v (YO v hv)⟩⟩ (Ze.slh _ (Yj ZQ ob))))
theorem Z7r (ds:List Zf) (nf:Nat) (b:Z8) (mm:Nat) (hf:fB ds nf mm b) (hop:Vu VC b) (hz:b.sz<=100000000) (ih:∀(b2:Z8) (m2:Nat),(fB ds nf m2 b2)->(Vu VC b2)->(b2.sz<=100000000)->(b2.sz<b.sz)->Zp 156 [Yn b2] [] (fun r h=>∃(y:Z8),r=Yn y/\h=[]/\KB ds nf m2 y b2.sz)):Zp 156 [Yn b] [] (fun r h=>∃(y:Z8),r=Yn y/\h=[]/\KB ds nf mm y b.sz):=by
 have hbe:=b.sz_eq
 have ZK:=UB b
 obtain ⟨hfs,hr1,hr2⟩:=(KV b).1 hf
 have hos:=CU.1 ((H6 b).1 hop)
 refine ZG 72 Tryz.func156 (ar (iA (W3 b) fun b1=>iA [nl,.i 0] fun b2=>ie (ar (iL (ZQ []) 0 5 fun v1=>Z1 (ar (iL (ZQ []) 0 5 fun v2=>?_))))))
 refine Z1 (Y4 (ab 0 (Y5 (fun fz gz m F h=>∃(k:Nat) (xs:List Z6) (v:Value) (rn:List Z6) (u:Value) (z0:Nat),(k<=b.steps.length)/\(CL ds nf mm xs (Yv (b.steps.take k)) z0)/\(z0+2*rn.length<=Yx (b.steps.take k))/\(Nc (mm+(Yv (b.steps.take k))) rn)/\F=sF [1,2] fz [(3,Xl xs v),(4,Xl rn u),(5,.i k)]/\h=[Zj gz 2,Zj gz 3,.tail u 5,.tail v 5]/\m=b.steps.length-k) _ _ _ ⟨0,[],v1,[],v2,0,ob,CL.nil,(by simp [Yx]),(fun s hs=>by cases hs),rfl,rfl,rfl⟩ (wk [2,2,0,0] (fw (Yg fl))) ?_)))
 rintro m F h ⟨k,xs,v,rn,u,z0,Yi,Zk,ZA,YO,rfl,rfl,rfl⟩
 refine Yt 3 [1] (iw (UH b.steps) (Y0 ((k:Int)<(b.steps.length:Int)) (fun Za=>?_) (fun Za=>?_)))
 ·refine ak (aq (ab 1 (Zq 3 [1] ?_)))
  obtain ⟨x1,Z3⟩:=Zu b.steps k om
  have XT:=D0 Z3
  have hfS:=(AR x1).1 (Dv hfs Z3)
  have hoS:=(F3 x1).1 (hos x1 (Y3 Z3))
  have htk:=HD Z3
  have htl:=KI b.steps (k+1)
  have hse:=(x1).sz_eq
  have hdt:=O0 Z3
  have hxl:=Zk.len
  have hkl2:=FM (x1).kids
  refine Zm (Zi none (k:Int) 5 (Ve Z3)) (Z0 1 (iA [.i 0,.i 0,.i 0,nl,nl] fun b3=>ZB 0 b3 (Wk x1) (ie (Zq 1 [0] (Zt [] (Z0u x1) (ie (ac ((x1.op==14)||(x1.op==15)) (p:=(x1.op=14)∨(x1.op=15)) (Zz Zg Zg) (fun Zh=>?_) (fun Zh=>?_))))))))
  ·refine az (Zy 2 [0] (UN [X6 x1] (ZQ [x1]) (Ub [x1]).symm 1 5 fun v3=>ZT 0 [(27,Vt [x1])] (ip 4 (ZQ (rn++[x1])) (ZQ rn) (ZQ [x1]) u none 5 (XJ _) (XJ _) (Up _) (by simp<;>omega) (by simp [Vx,ZQ]) fun v4=>Z1 (az (Z0 1 (ZE k (Z1 ?_)))))))
   obtain ⟨⟨pa,hpa,hpr⟩,Ym,hpc⟩:=hfS.pair (by assumption)
   rw [Zb hpc,C9] at hdt
   exact ZH ⟨k+1,xs,v,(rn++[x1]),v4,_,ob,(by rw [hdt];exact Zk),(by rw [htk];simp only [Yr,Yp,YZ];omega),(by rw [hdt];exact XI YO ⟨pa,hpa,hpr⟩),rfl,rfl,rfl⟩ (wk [3,3,0,2] (fw (ZL k fl)))
  refine ar (ZT 2 [(30,Vt rn)] (ic [] (P8 rn (hrn:=(fun s hs=>(YO s hs).elim fun a h=>⟨a,h.1⟩))) ?_))
  rintro _ _ ⟨D1,R1,v5,rfl,rfl,Y7⟩
  have hsr:=Y7
  have hq1:=Zk.run YO hsr.2.1 hsr.2.2
  have hl1:=Zk.len
  have htl1:=KI b.steps k
  refine ZT 0 [(31,Vt (D1.map (Zw 14)++R1.map (Zw 15)))] (ip 5 (ZQ (xs++(D1.map (Zw 14)++R1.map (Zw 15)))) (ZQ xs) (ZQ (D1.map (Zw 14)++R1.map (Zw 15))) v none 5 (XJ _) (XJ _) (Up _) (by simp<;>omega) (by simp [Vx,ZQ]) fun v6=>Z1 (ar (iL (ZQ []) 0 5 fun v7=>Z1 (ar (iL (XU []) 0 2 fun v8=>?_)))))
  refine Z1 (Y4 (ab 2 (Y5 (fun fz gz m F h=>∃(j:Nat) (ks:List Z8) (w:Value) (v3:Value) (u4:Value),(j<=x1.kids.length)/\(ks.length=j)/\(KK ds nf (V3 ds x1.op x1.num (mm+(Yv (b.steps.take k)))) ks (YX (x1.kids.take j)))/\F=sF [1,2,5,6] fz [(3,Xl (xs++(D1.map (Zw 14)++R1.map (Zw 15))) v3),(4,Xl [] u4),(7,Qt ks w),(8,.i j)]/\h=[Zj gz 4,Zj gz 5,Zj gz 6,.tail u4 5,.tail v3 5,.tail w 2]/\m=x1.kids.length-j) _ _ _ ⟨0,[],v8,v6,v7,ob,ob,(KK.nil.le (Qf _)),rfl,rfl,rfl⟩ (wk [4,4,4,1,1,0] (fw (fr (Yg fl)))) ?_)))
  rintro m F h ⟨j,ks,w,v3,u4,Ui,W4,XV,rfl,rfl,rfl⟩
  refine Yt 3 [0] (iw (Kq x1.kids) (Y0 ((j:Int)<(x1.kids.length:Int)) (fun ZC=>?_) (fun ZC=>?_)))
  ·refine ak (aq (ab 3 (az (Zy 4 [0] ?_))))
   obtain ⟨x2,Zv⟩:=Zu x1.kids j om
   have hkz:=Qr Zv
   have hfk:=Bz hfS.kids Zv
   rw [Wr] at hfk
   have hok:=DT.1 hoS.2 x2 (Y3 Zv)
   have hbt:=FP Zv
   refine Zm (Zi none (j:Int) 2 (UX Zv)) (Z0 1 (ic [] (ih x2 (V3 ds x1.op x1.num (mm+(Yv (b.steps.take k))) j) hfk hok ob ob) ?_))
   rintro _ _ ⟨y1,rfl,rfl,Ym⟩
   have hkb:=Ym
   exact UN [Yn y1] (XU [y1]) (QV [y1]).symm 1 2 fun v9=>ZT 0 [(49,JF [y1])] (ip 6 (XU (ks++[y1])) (XU ks) (XU [y1]) w none 2 (KU _) (KU _) (G3 _) (by simp<;>omega) (by simp [Cr,XU]) fun v10=>Z1 (az (Z0 1 (ZE j (Z1 (ZH ⟨j+1,(ks++[y1]),v10,v3,u4,ob,ob,((XV.snoc W4 hkb).le om),rfl,rfl,rfl⟩ (wk [2,2,2,2,2,0] (fw (fr (ZL j fl))))))))))
  refine ax 2 (aE 15 (ZY 5 15 [0,1,2,3,4,5,6,7,8,10] [0,0,0,0] (Z9 9 (dc 9 [] [0,0,0] [b3,b3,b3] (WQ x1.args) ?_))))
  rintro _ _ ⟨v11,rfl,rfl⟩
  refine Yw 3 4 [11] [(62,.agg [.i x1.op,.i x1.num,.i x1.into,Z4 x1.args,JF ks])] (Z9 12 (WL 12 [] [] [X6 (Z6.mk x1.op x1.num x1.into x1.args ks)] (ZQ [Z6.mk x1.op x1.num x1.into x1.args ks]) (Ub [Z6.mk x1.op x1.num x1.into x1.args ks]).symm 1 5 fun v12=>Yw 2 2 [] [(63,Vt [Z6.mk x1.op x1.num x1.into x1.args ks])] (Z9 13 (dp 13 6 [] [] (ZQ ((xs++(D1.map (Zw 14)++R1.map (Zw 15)))++[Z6.mk x1.op x1.num x1.into x1.args ks])) (ZQ (xs++(D1.map (Zw 14)++R1.map (Zw 15)))) (ZQ [Z6.mk x1.op x1.num x1.into x1.args ks]) v3 none 5 (XJ _) (XJ _) (Up _) (by simp<;>omega) (by simp [Vx,ZQ]) fun v13=>Zs 0 1 [14] (de (az (Z0 1 (ZE k (Z1 ?_)))))))))
  obtain ⟨hn1,hn2⟩:=hfS.not_pair (by assumption) hoS.1
  rw [Z5 (by rw [hn2];simp)] at hdt
  have hbj:=Ih (xs:=x1.kids) (k:=j) om
  have hkt:=KT.eq hfS hn1 om XV
  have hq2:=hq1.kt hkt
  exact ZH ⟨k+1,((xs++(D1.map (Zw 14)++R1.map (Zw 15)))++[Z6.mk x1.op x1.num x1.into x1.args ks]),v13,[],u4,_,ob,(by rw [hdt];exact hq2),(by rw [htk];simp only [YZ];omega),(fun s hs=>by cases hs),rfl,rfl,rfl⟩ (wk [4,4,4,0] (fw (ZL k fl)))
 have htl2:=KI b.steps k
 have hxl2:=Zk.len
 refine ax 0 (aD 8 (Dk 4 8 [0,1,4,5] [(66,Vt rn)] [1] (Z9 2 (dc 2 [] [1] [b1] (P8 rn (hrn:=(fun s hs=>(YO s hs).elim fun a h=>⟨a,h.1⟩))) ?_))))
 rintro _ _ ⟨D2,R2,v14,rfl,rfl,YL⟩
 have hsr:=YL
 have hq1:=Zk.run YO hsr.2.1 hsr.2.2
 have hl1:=Zk.len
 have htl1:=KI b.steps k
 exact Yw 3 3 [] [(67,Vt (D2.map (Zw 14)++R2.map (Zw 15)))] (Z9 3 (dp 3 4 [1] [b1] (ZQ (xs++(D2.map (Zw 14)++R2.map (Zw 15)))) (ZQ xs) (ZQ (D2.map (Zw 14)++R2.map (Zw 15))) v none 5 (XJ _) (XJ _) (Up _) (by simp<;>omega) (by simp [Vx,ZQ]) fun v15=>Zs 1 2 [6] (Z9 7 (X5 7 2 [] [] b2 [Xl (xs++(D2.map (Zw 14)++R2.map (Zw 15))) v15,.i b.result] (de (ZU (r3 [] [.agg [Xl (xs++(D2.map (Zw 14)++R2.map (Zw 15))) v15,.i b.result]] [0] [(b2,b2)] ⟨(Z8.mk (xs++(D2.map (Zw 14)++R2.map (Zw 15))) b.result),rfl,rfl,(by have e:b.steps.take k=b.steps:=WR om;rw [e] at ZA hq1;exact (hq1.block ⟨hr1,hr2⟩).le om)⟩ (Ze.agg (.cons (Ze.forget _ _) (.cons (lr _) .nil))))))))))
theorem Z7q (ds:List Zf) (nf:Nat) (b:Z8) (mm:Nat) (hf:fB ds nf mm b:=by exact ob) (hop:Vu VC b:=by exact ob) (hz:b.sz<=100000000:=by exact ob):Zp 156 [Yn b] [] (fun r h=>∃(y:Z8),r=Yn y/\h=[]/\KB ds nf mm y b.sz):=by
 have key:∀k:Nat,∀(b2:Z8) (m2:Nat),(fB ds nf m2 b2)->(Vu VC b2)->(b2.sz<=100000000)->(b2.sz<k)->Zp 156 [Yn b2] [] (fun r h=>∃(y:Z8),r=Yn y/\h=[]/\KB ds nf m2 y b2.sz):=by
  intro k
  induction k with
  | zero=>intro b2 m2 h1 h2 h3 h9;omega
  | succ k ih=>intro b2 m2 h1 h2 h3 h9;exact Z7r ds nf b2 m2 h1 h2 h3 fun b3 m3 q1 q2 q3 q9=>ih b3 m3 q1 q2 q3 om
 exact key (b.sz+1) b mm hf hop hz om
theorem Z7s (n:ZF) (qz:Nat) (hn:FO n qz VC:=by exact ob) (hqz:qz<=10000000:=by exact ob):Zp 115 [YF n] [] (fun r h=>∃(n2:ZF),r=YF n2/\h=[]/\FO n2 qz VC):=by
 have hnl:=hn.fn.len
 have Xu:=hn.fn.decls.ok
 have hok:=hn.fn.ok
 refine ZG 36 Tryz.func115 (ar (iA (Xb n) fun b1=>iA [nl,nl] fun b2=>ie (Zq 2 [1] (Zt [] (Bb n.decls) (iL (Xd []) 0 5 fun v1=>Z0 1 (iA [nl,nl] fun b3=>?_))))))
 refine ZB 0 b3 [Yf n.decls,V1 [] v1] (ie (Y4 (ab 0 (Y5 (fun fz gz m F h=>∃(k:Nat) (rs:List YC) (u:Value),(k<=n.routines.length)/\(rs.length=k)/\(∀r∈rs,RF n.decls n.routines.length qz VC r)/\F=sF [1,2,3] fz [(4,.i k)]/\h=[.obj b3 [Yf n.decls,V1 rs u],Zj gz 2,Zj gz 3,.tail u 5]/\m=n.routines.length-k) _ _ _ ⟨0,[],v1,ob,ob,(fun r hr=>by cases hr),rfl,rfl,rfl⟩ (wk [0,1,1,0] (Yg fl)) ?_))))
 rintro m F h ⟨k,rs,u,Yi,Zk,ZA,rfl,rfl,rfl⟩
 refine Yt 3 [2] (iw (Q2 n.routines) (Y0 ((k:Int)<(n.routines.length:Int)) (fun Za=>?_) (fun Za=>?_)))
 ·refine ak (aq (ab 1 (aE 19 (ZY 14 19 [0,1,2,3,4] [0,2] ?_))))
  obtain ⟨x1,Z3⟩:=Zu n.routines k om
  have hrf:=hn.rf (Y3 Z3)
  have hrp:(x1).params.length<=3:=(Tw.bd (f:=⟨(x1).params,(x1).result,default⟩) hrf.sig).1
  have hrl:=hrf.lent.1
  have hrz:=hrf.body.2
  refine dx 5 (Zi none (k:Int) 5 (VN Z3)) (ZY 9 13 [6,7,8,9] [2] (dx 10 (Zi none (k:Int) 5 (VN Z3)) (Zs 6 8 [11,12] (Z9 13 (dc 13 [] [2,0] [b1,b3] (Z7q n.decls n.routines.length x1.body _ (hf:=hrf.body.1) (hop:=hrf.op)) ?_)))))
  rintro _ _ ⟨y1,rfl,rfl,Y7⟩
  have hkb0:=Y7
  have hkb:=hkb0.le (z2:=qz) hrz
  exact Z9 14 (YI 14 [] [0] [b3] (E6 x1 y1 (hp:=om) (hl:=om)) (Z9 15 (dL 15 [0] [b3] (Xd [YC.mk x1.params x1.lent x1.result y1]) 1 5 fun v2=>Yw 3 3 [] [(32,JH [YC.mk x1.params x1.lent x1.result y1])] (Z9 16 (dp 16 4 [] [] (Xd (rs++[YC.mk x1.params x1.lent x1.result y1])) (Xd rs) (Xd [YC.mk x1.params x1.lent x1.result y1]) u none 5 (Te _) (Te _) (Bx _) (by simp<;>omega) (by simp [Dr,Xd]) fun v3=>Zs 1 2 [17] (Z9 18 (X5 18 2 [] [] b3 [Yf n.decls,V1 (rs++[YC.mk x1.params x1.lent x1.result y1]) v3] (de (az (Z0 1 (ZE k (Z1 (ZH ⟨k+1,(rs++[YC.mk x1.params x1.lent x1.result y1]),v3,ob,ob,(XI ZA (hrf.with hkb.fb hkb.sz hkb.op)),rfl,rfl,rfl⟩ (wk [0,2,2,0] (ZL k fl)))))))))))))))
 exact ax 0 (Zq 1 [0] (ZB 1 b2 [Yf n.decls,V1 rs u] (ie (ZU (r3 [] [.agg [Yf n.decls,V1 rs u]] [0] [(b2,b2)] ⟨(ZF.mk n.decls rs),rfl,rfl,(FO.fin hn.fn om ZA).1⟩ (Ze.agg (.cons (lr _) (.cons (Ze.forget _ _) .nil))))))))
theorem R0 (b:Nat) (ga:Hd) (gb:Hd) (gc:Hd) (gd:Hd) (ge:Hd) (gf:Hd) (n:ZF) (s:Z6) (L:ZM) (ln:LI) (q:Int) (i:Nat) (kb0:Z8) (m:LI) (hn:XA n:=by exact ob) (hk:XN n.decls L q:=by exact ob) (hf:Cc n L.vars s:=by exact ob) (hop:s.op=7∨s.op=8:=by exact ob) (hkb:s.kids[i]? = some kb0:=by exact ob) (harm:(W6 n.decls s.op s.num)[i]? = some m:=by exact ob) (hbt:0<=W9 n (L.vars++m) kb0:=by exact ob) (hb:L.vars.length+4*s.sz<=1000000000:=by exact ob) (hq:0<=q/\q+4*s.sz<=999999990:=by exact ob) (hln:ln.length<=4294967296:=by exact ob) (ih:∀(b2:Z8) (c:Nat) (ra:Hd) (rb:Hd) (rc:Hd) (rd:Hd) (re:Hd) (rf:Hd) (M:ZM) (mm:Nat) (p:Int),(b2.sz<s.sz)->(XN n.decls M p)->(0<=W9 n M.vars b2)->(mm<=M.vars.length)->(M.vars.length+4*b2.sz<=1000000000)->(0<=p/\p+4*b2.sz<=999999990)->Zp 255 [.p c 0,YF n,Yn b2,.i mm] [.obj c [.h ra,.h rb,.h rc,.h rd,.h re,.h rf,Z4 ln],rV ra M.vars,rV rb M.own,rV rc M.par,rV rd M.con,rV re M.fst,rV rf M.tok] (fun r h=>(∃(wa:Hd) (wb:Hd) (wc:Hd) (wd:Hd) (we:Hd) (wf:Hd) (M':ZM),r=.b true/\h=[.obj c [.h wa,.h wb,.h wc,.h wd,.h we,.h wf,Z4 ln],rV wa M'.vars,rV wb M'.own,rV wc M'.par,rV wd M'.con,rV we M'.fst,rV wf M'.tok]/\U7 n ln M mm b2=some M')∨(r=.b false/\h=[]/\U7 n ln M mm b2=none))):Zp 234 [.p b 0,YF n,X6 s,.i i] [.obj b [.h ga,.h gb,.h gc,.h gd,.h ge,.h gf,Z4 ln],rV ga L.vars,rV gb L.own,rV gc L.par,rV gd L.con,rV ge L.fst,rV gf L.tok] (fun r h=>(∃(c:Nat) (wa:Hd) (wb:Hd) (wc:Hd) (wd:Hd) (we:Hd) (wf:Hd) (L':ZM),r=.tup [.p c 0,.b true]/\h=[.obj c [.h wa,.h wb,.h wc,.h wd,.h we,.h wf,Z4 ln],rV wa L'.vars,rV wb L'.own,rV wc L'.par,rV wd L'.con,rV we L'.fst,rV wf L'.tok,.obj b [.h ga,.h gb,.h gc,.h gd,.h ge,.h gf,Z4 ln],rV ga L.vars,rV gb L.own,rV gc L.par,rV gd L.con,rV ge L.fst,rV gf L.tok]/\U7 n ln (TR n.decls L s.op s.num s.args i) L.vars.length kb0=some L')∨(r=.tup [.any,.b false]/\h=[.obj b [.h ga,.h gb,.h gc,.h gd,.h ge,.h gf,Z4 ln],rV ga L.vars,rV gb L.own,rV gc L.par,rV gd L.con,rV ge L.fst,rV gf L.tok]/\U7 n ln (TR n.decls L s.op s.num s.args i) L.vars.length kb0=none)):=by
 obtain ⟨e1,e2,e3,e4,e5⟩:=hk.len
 have Xu:=hn.decls
 have hkz:=K1 s
 have haz:=Jo s
 have hK:=GM hk hq.1 hf hop harm
 have hm3:=Np Xu harm
 have hkl:=(X9.1 hkb).1
 have hks:=Qr hkb
 refine ZG 83 Tryz.func234 (ar (iA (Xb n) fun b1=>iA (Wk s) fun b2=>Z1 (Zq 4 [2] (Zm (D4 3 ga L.vars) (Z1 (Ye 1 (ic [2,2,2,2,2,2,2] (Zbi b ga gb gc gd ge gf L ln (hlk:=hk.len)) ?_)))))))
 rintro _ _ ⟨c1,wa1,wb1,wc1,wd1,we1,wf1,rfl,rfl⟩
 refine Z1 (Xe (WJ [14] (ac (s.op==8) Zg (fun Za=>?_) (fun Za=>?_))))
 ·obtain ⟨x,hxa⟩:=hf.one om
  have ha:s.args[0]? = some x:=by rw [hxa];rfl
  have hx:=hf.args x (by rw [hxa];simp)
  obtain ⟨cc,hcc,hmc⟩:=Z3g Za harm
  have hal:=(X9.1 ha).1
  have hcl:=(X9.1 hcc).1
  have hm4:=hm3
  rw [hmc] at hm4
  refine Zq 4 [15,14] (ic [] (Jb n.decls s.num) ?_)
  rintro _ _ ⟨v1,rfl,rfl⟩
  refine Z0 1 (Zm (Zi (some v1) (i:Int) 1 (Y6 hcc)) (Z1 (Zq 3 [16] (Zt [] (Qu n.decls cc) (Z1 (aD 11 (ZY 5 11 [0,1,2,3,4,5] [1,15] (dx 6 (Zi none 0 1 (Y6 ha)) (Zs 2 4 [7,8] (dx 9 (Uh 5 wd1 L.con x x.toNat (hq:=rfl)) (Z9 10 (Cm 10 5 [] [] wd1 L.con x.toNat cc (de (aD 11 (ZY 5 11 [0,1,2,3,4,5] [2,15] (dx 6 (Zi none 0 1 (Y6 ha)) (Zs 2 4 [7,8] (dx 9 (Uh 6 we1 L.fst x x.toNat (hq:=rfl)) (Z9 10 (Cm 10 6 [] [] we1 L.fst x.toNat (L.vars.length:Int) (de (Y8 (ab 0 (Y5 (fun fz gz m F h=>∃(k:Nat) (L3:ZM) (ka:Hd) (kb:Hd) (kc:Hd) (kd:Hd) (ke:Hd) (kf:Hd),(k<=(ZO n.decls cc).length)/\(Tv L3)/\(L3.vars.length=L.vars.length+k)/\(CC L3 x ((ZO n.decls cc).drop k)=Cg n.decls L x cc)/\F=sF [3,5,6,10,11,13] fz [(14,.i k)]/\h=[.obj c1 [.h ka,.h kb,.h kc,.h kd,.h ke,.h kf,Z4 ln],Zj gz 8,Zj gz 9,Zj gz 10,Zj gz 11,Zj gz 12,Zj gz 13,Zj gz 14,Zj gz 15,Zj gz 16,rV ka L3.vars,rV kb L3.own,rV kc L3.par,rV kd L3.con,rV ke L3.fst,rV kf L3.tok]/\m=(ZO n.decls cc).length-k) _ _ _ ⟨0,(ZM.mk L.vars L.own L.par (L.con.set x.toNat cc) (L.fst.set x.toNat (L.vars.length:Int)) L.tok),wa1,wb1,wc1,wd1,we1,wf1,ob,(Tv.arm hk.len),ob,(by rw [Cg];rfl),rfl,rfl,rfl⟩ (wk [3,7,7,7,7,7,7,7,7,7,3,3,3,1,0,1] (Yg fl) (e:=(rc (rc (rc (rc (rc (rc (rc (rc (rc (rc (rv (xs:=L.vars) ob (rv (xs:=L.own) ob (rv (xs:=L.par) ob (rv (xs:=(L.con.set x.toNat cc)) ob (rv (xs:=(L.fst.set x.toNat (L.vars.length:Int))) ob (rv (xs:=L.tok) ob rz)))))))))))))))))) ?_))))))))))))))))))))))))
  rintro m F h ⟨k,L3,ka,kb,kc,kd,ke,kf,Yi,Zk,ZA,YO,rfl,rfl,rfl⟩
  refine YP 2 (io (.i (((ZO n.decls cc).length:Nat):Int)) (.i (((Z7 (ZO n.decls cc)).length:Nat):Int)) (li (by rw [Yb])) (Y0 ((k:Int)<(((ZO n.decls cc).length:Nat):Int)) (fun Zh=>?_) (fun Zh=>?_)))
  ·refine ak (aq (ab 1 (aE 10 (Zs 7 10 [0,1,2] ?_))))
   obtain ⟨x1,Z3⟩:=Zu (ZO n.decls cc) k om
   refine dx 3 (Zi none (k:Int) 1 (Y6 Z3)) (ZY 3 6 [4,5,6] [8] (dx 7 (Zi none 0 1 (Y6 ha)) (Zs 1 2 [8] (Z9 9 (dc 9 [0,9,9,9,9,9,9] [] [] (Ky c1 ka kb kc kd ke kf L3 ln x1 0 x (hlk:=Zk)) ?_)))))
   rintro _ _ ⟨wa2,wb2,wc2,wd2,we2,wf2,rfl⟩
   exact de (az (Z0 1 (ZE k (Z1 (ZH ⟨k+1,(L3.grow x1 0 x),wa2,wb2,wc2,wd2,we2,wf2,ob,(Tv.grow Zk),(by simp [ZM.grow];omega),(by rw [Yh Z3,CC] at YO;exact YO),rfl,rfl,rfl⟩ (wk [0,6,6,6,6,6,6,6,6,6,0,0,0,0,0,0] (ZL k fl)))))))
  have hE:TR n.decls L s.op s.num s.args i=L3:=by rw [Zb0 Za ha hcc,<-YO,Xt om];rfl
  refine ax 0 (aD 12 (ZY 6 12 [0,1,2,3,4,5] [9,8] (dx 6 (Zi none (i:Int) 2 (UX hkb)) (Zs 3 5 [7,8] (Z9 9 (dc 9 [0,9,9,9,9,9,9] [] [] (ih kb0 c1 ka kb kc kd ke kf L3 L.vars.length q ob (by rw [<-hE];exact hK.1) (by rw [<-hE,hK.2];exact hbt) (by rw [<-hE,hK.2];simp) (by rw [<-hE,hK.2,Yr];omega) ob) ?_))))))
  rintro _ _ (⟨wa3,wb3,wc3,wd3,we3,wf3,M'1,rfl,rfl,Y7⟩|⟨rfl,rfl,Ym⟩)
  ·exact Zs 0 2 [10,11] (de (ZU (r2 [0,0,0,0,0,0,0,0,0,0,0,0,0,0] [.p c1 0,.b true] (.inl ⟨c1,wa3,wb3,wc3,wd3,we3,wf3,M'1,rfl,rfl,(by rw [hE];exact Y7)⟩) (lr _))))
  exact Zs 0 2 [10,11] (de (ZU (r2 [0,0,0,0,0,0,0] [.p c1 0,.b false] (.inr ⟨rfl,rfl,(by rw [hE];exact Ym)⟩) (Ze.tup (.cons (Ze.any _) (.cons (lr _) .nil))))))
 have hE:=Zb1 (ds:=n.decls) (L:=L) (num:=s.num) (args:=s.args) (i:=i) Za
 refine ak (aD 12 (ZY 6 12 [0,1,2,3,4,5] [15,14] (dx 6 (Zi none (i:Int) 2 (UX hkb)) (Zs 3 5 [7,8] (Z9 9 (dc 9 [0,0,0,0,0,0,0] [] [] (ih kb0 c1 wa1 wb1 wc1 wd1 we1 wf1 L L.vars.length q ob (by rw [<-hE];exact hK.1) (by rw [<-hE,hK.2];exact hbt) (by rw [<-hE,hK.2];simp) (by rw [<-hE,hK.2,Yr];omega) ob) ?_))))))
 rintro _ _ (⟨wa4,wb4,wc4,wd4,we4,wf4,M'2,rfl,rfl,YL⟩|⟨rfl,rfl,X3⟩)
 ·exact Zs 0 2 [10,11] (de (ZU (r2 [0,0,0,0,0,0,0,0,0,0,0,0,0,0] [.p c1 0,.b true] (.inl ⟨c1,wa4,wb4,wc4,wd4,we4,wf4,M'2,rfl,rfl,(by rw [hE];exact YL)⟩) (lr _))))
 exact Zs 0 2 [10,11] (de (ZU (r2 [0,0,0,0,0,0,0] [.p c1 0,.b false] (.inr ⟨rfl,rfl,(by rw [hE];exact X3)⟩) (Ze.tup (.cons (Ze.any _) (.cons (lr _) .nil))))))
theorem Zbh (b:Nat) (ga:Hd) (gb:Hd) (gc:Hd) (gd:Hd) (ge:Hd) (gf:Hd) (n:ZF) (s:Z6) (L:ZM) (ln:LI) (q:Int) (hn:XA n:=by exact ob) (hk:XN n.decls L q:=by exact ob) (hf:Cc n L.vars s:=by exact ob) (hop:s.op=7∨s.op=8:=by exact ob) (hb:L.vars.length+4*s.sz<=1000000000:=by exact ob) (hq:0<=q/\q+4*s.sz<=999999990:=by exact ob) (hln:ln.length<=4294967296:=by exact ob) (ih:∀(b2:Z8) (c:Nat) (ra:Hd) (rb:Hd) (rc:Hd) (rd:Hd) (re:Hd) (rf:Hd) (M:ZM) (mm:Nat) (p:Int),(b2.sz<s.sz)->(XN n.decls M p)->(0<=W9 n M.vars b2)->(mm<=M.vars.length)->(M.vars.length+4*b2.sz<=1000000000)->(0<=p/\p+4*b2.sz<=999999990)->Zp 255 [.p c 0,YF n,Yn b2,.i mm] [.obj c [.h ra,.h rb,.h rc,.h rd,.h re,.h rf,Z4 ln],rV ra M.vars,rV rb M.own,rV rc M.par,rV rd M.con,rV re M.fst,rV rf M.tok] (fun r h=>(∃(wa:Hd) (wb:Hd) (wc:Hd) (wd:Hd) (we:Hd) (wf:Hd) (M':ZM),r=.b true/\h=[.obj c [.h wa,.h wb,.h wc,.h wd,.h we,.h wf,Z4 ln],rV wa M'.vars,rV wb M'.own,rV wc M'.par,rV wd M'.con,rV we M'.fst,rV wf M'.tok]/\U7 n ln M mm b2=some M')∨(r=.b false/\h=[]/\U7 n ln M mm b2=none))):Zp 197 [.p b 0,YF n,X6 s] [.obj b [.h ga,.h gb,.h gc,.h gd,.h ge,.h gf,Z4 ln],rV ga L.vars,rV gb L.own,rV gc L.par,rV gd L.con,rV ge L.fst,rV gf L.tok] (fun r h=>(∃(wa:Hd) (wb:Hd) (wc:Hd) (wd:Hd) (we:Hd) (wf:Hd) (L':ZM),r=.b true/\h=[.obj b [.h wa,.h wb,.h wc,.h wd,.h we,.h wf,Z4 ln],rV wa L'.vars,rV wb L'.own,rV wc L'.par,rV wd L'.con,rV we L'.fst,rV wf L'.tok]/\Ck n ln L s=some L')∨(r=.b false/\h=[]/\Ck n ln L s=none)):=by
 obtain ⟨e1,e2,e3,e4,e5⟩:=hk.len
 have Xu:=hn.decls
 have hkz:=K1 s
 have haz:=Jo s
 obtain ⟨hk1,hk2,hk3⟩:=hf.kids hop
 obtain ⟨kd,hkd⟩:=Zu s.kids 0 om
 obtain ⟨m0,hm0⟩:=Zu (W6 n.decls s.op s.num) 0 om
 obtain ⟨x,hxa⟩:=hf.one om
 have ha:s.args[0]? = some x:=by rw [hxa];rfl
 have hx:=hf.args x (by rw [hxa];simp)
 have hgx:=Ks ha
 have hal:=(X9.1 ha).1
 refine ZG 88 Tryz.func197 (ar (iA (Xb n) fun b1=>iA (Wk s) fun b2=>Z1 (Xe (XC [0,4,5] [(23,.b ((s.op==8)&&(!T9 L ln x)))] (fun gz=>[Zj gz 2,Zj gz 3,Zj gz 4,Zj gz 5,Zj gz 6,Zj gz 7,Zj gz 8,Zj gz 0,Zj gz 1]) ?_ ?_))))
 ·refine Zy 4 [0] (ib (b:=(s.op==8)) 15 (fun Zd=>?_) (fun Zd=>?_))
  ·exact Zy 3 [0] (Zm (Zi none 0 1 (Y6 ha)) (Z0 1 (Zt [2,2,2,2,2,2,2] (GR b ga gb gc gd ge gf L ln x (hlk:=hk.len) (hd:=hk.down)) (Z1 (Zx 9 (Zo (!T9 L ln x) Zd fl))))))
  exact Z1 (wk [2,2,2,2,2,2,2,0,0] (Zo false Zd fl))
 refine ac ((s.op==8)&&(!T9 L ln x)) (p:=(s.op=8)/\(¬(T9 L ln x=true))) (YG Zg (Y1 Iff.rfl)) (fun Za=>?_) (fun Za=>?_)
 ·exact ar (Zl (r1 [] (.inr ⟨rfl,rfl,(by rw [Ck,Zb (by rw [hgx];exact Za)])⟩)))
 have hgo:=Z44 (n:=n) (ln:=ln) (L:=L) (s:=s) (by rw [hgx];exact Za) hkd
 refine ak (Zq 3 [8,7] (ic [0,0,0,0,0,0,0] (R0 b ga gb gc gd ge gf n s L ln q 0 kd m0 (hkb:=hkd) (harm:=hm0) (hbt:=(hk3 0 kd m0 hkd hm0)) (ih:=ob)) ?_))
 rintro _ _ (⟨c1,wa1,wb1,wc1,wd1,we1,wf1,L'1,rfl,rfl,YL⟩|⟨rfl,rfl,X3⟩)
 ·have hone:=YL
  obtain ⟨l1,l2⟩:=PP hn hk hq.1 hf hop hkd hm0 (hk3 0 kd m0 hkd hm0) hone
  refine Z1 (Y4 (VF (ak (Y4 (ab 0 (Y5 (fun fz gz m F h=>∃(k:Nat),(1<=k/\k<=s.kids.length)/\(Jz n ln L s.op s.num s.args L'1 (s.kids.drop k) k=Jz n ln L s.op s.num s.args L'1 (s.kids.drop 1) 1)/\F=sF [0,4,5,7] fz [(9,.i k)]/\h=gz/\m=s.kids.length-k) _ _ _ ⟨1,ob,ob,rfl,rfl,rfl⟩ (Zx 16 (fc (x:=.i 1) li fl)) ?_))))))
  rintro m F h ⟨k,Yi,Zk,rfl,rfl,rfl⟩
  refine Yt 3 [14] (iw (Kq s.kids) (Y0 ((k:Int)<(s.kids.length:Int)) (fun Zh=>?_) (fun Zh=>?_)))
  ·obtain ⟨ke,hke⟩:=Zu s.kids k om
   obtain ⟨mk,hmk⟩:=Zu (W6 n.decls s.op s.num) k om
   have hcs:=Zb3 (n:=n) (ln:=ln) (L:=L) (op:=s.op) (num:=s.num) (args:=s.args) (one:=L'1) hke
   refine ak (aq (ab 1 (Zq 4 [15,14] (ic [7,7,7,7,7,7,7] (R0 b ga gb gc gd ge gf n s L ln q k ke mk (hkb:=hke) (harm:=hmk) (hbt:=(hk3 k ke mk hke hmk)) (ih:=ob)) ?_))))
   rintro _ _ (⟨c2,wa2,wb2,wc2,wd2,we2,wf2,L'2,rfl,rfl,Xf⟩|⟨rfl,rfl,XS⟩)
   ·have htwo:=Xf
    obtain ⟨l3,l4⟩:=PP hn hk hq.1 hf hop hke hmk (hk3 k ke mk hke hmk) htwo
    refine Z1 (aD 26 (ZY 15 26 [0,1,2,3,4,5,6,7,8,9,10] [14,0] (Z9 11 (A6 11 [16,2] [] [] [rV wb1 L'1.own,rV wb2 L'2.own] (Z0y L'1.own L'2.own) FV (gL (v:=wb1) 0 (gL (v:=wb2) 1 gN)) (J5 (J5 Ag)) ?_))))
    rintro _ _ ⟨rfl,rfl⟩
    refine Bt [0,4,5,7,9] [(73,.b ((!(decide (L'1.own=L'2.own)))||(!(decide (L'1.tok=L'2.tok)))))] (fun gz=>gz) ?_ ?_
    ·refine Zs 11 14 [12,13,14] (db (b:=(!(decide (L'1.own=L'2.own)))) 62 (fun ZD=>?_) (fun ZD=>?_))
     ·exact Zs 0 11 [15,16,17,18,19,20,21,22,23,24,25] (de (Zx 23 (Zo true ZD fl)))
     refine ZY 3 11 [15,16,17,18,19,20,21,22] [15,2] (Z9 23 (A6 23 [20,7] [] [] [rV wf1 L'1.tok,rV wf2 L'2.tok] (Z0y L'1.tok L'2.tok) FV (gL (v:=wf1) 0 (gL (v:=wf2) 1 gN)) (J5 (J5 Ag)) ?_))
     rintro _ _ ⟨rfl,rfl⟩
     exact Zs 0 2 [24,25] (de (wk [2,2,2,2,2,2,2,1,1,1,1,1,1,1,1,1,1,1,1,1,0,0,0] (Zo (!(decide (L'1.tok=L'2.tok))) ZD fl)))
    refine ac ((!(decide (L'1.own=L'2.own)))||(!(decide (L'1.tok=L'2.tok)))) (p:=(¬(L'1.own=L'2.own))∨(¬(L'1.tok=L'2.tok))) (Zz (Y1 dq) (Y1 dq)) (fun ZC=>?_) (fun ZC=>?_)
    ·exact ar (Zl (r1 [] (.inr ⟨rfl,rfl,(by rw [hgo,hone];exact Rm (by rw [<-Zk,hcs,htwo];exact Zeu ZC))⟩)))
    exact ak (az (Z0 1 (ZE k (Z1 (ZH ⟨k+1,ob,(by rw [hcs,htwo,Zev ZC] at Zk;exact Zk),rfl,rfl,rfl⟩ (wk [15,15,0,14,14,14,14,7,7,7,7,7,7,7,7,7] (ZL k fl)))))))
   have htwo:=XS
   exact Z1 (aD 26 (Zs 0 26 [0,1,2,3,4,5,6,7,8,9,10,11,12,13,14,15,16,17,18,19,20,21,22,23,24,25] (de (Vo (ar (Zl (r1 [] (.inr ⟨rfl,rfl,(by rw [hgo,hone];exact Rm (by rw [<-Zk,hcs,htwo];rfl))⟩))))))))
  have hE:Jz n ln L s.op s.num s.args L'1 (s.kids.drop 1) 1=true:=by rw [<-Zk,Xt om,Jz]
  exact ax 0 (Zq 7 [0] (ZB 7 b [.h ga,.h wb1,.h gc,.h gd,.h ge,.h gf,Z4 ln] (ie (Zq 7 [1] (ZB 0 b [.h ga,.h wb1,.h gc,.h gd,.h ge,.h wf1,Z4 ln] (ie (ar (Zl (r1 [0,7,2,7,7,7,5] (.inl ⟨ga,wb1,gc,gd,ge,wf1,(ZM.mk L.vars L'1.own L.par L.con L.fst L'1.tok),rfl,rfl,(by rw [hgo,hone];exact Zc6 hE)⟩) (eq:=(rc (rv (xs:=L.vars) ob (rv (xs:=L'1.own) ob (rv (xs:=L.par) ob (rv (xs:=L.con) ob (rv (xs:=L.fst) ob (rv (xs:=L'1.tok) ob rz)))))))))))))))))
 have hone:=X3
 exact Z1 (Y4 (Vo (ar (Zl (r1 [] (.inr ⟨rfl,rfl,(by rw [hgo,hone];rfl)⟩))))))
theorem R3 (b:Nat) (ga:Hd) (gb:Hd) (gc:Hd) (gd:Hd) (ge:Hd) (gf:Hd) (n:ZF) (s:Z6) (L:ZM) (ln:LI) (q:Int) (hn:XA n:=by exact ob) (hk:XN n.decls L q:=by exact ob) (ht:0<=X2 n L.vars s:=by exact ob) (hb:L.vars.length+4*s.sz<=1000000000:=by exact ob) (hq:0<=q/\q+4*s.sz<=999999990:=by exact ob) (hln:ln.length<=4294967296:=by exact ob) (ih:∀(b2:Z8) (c:Nat) (ra:Hd) (rb:Hd) (rc:Hd) (rd:Hd) (re:Hd) (rf:Hd) (M:ZM) (mm:Nat) (p:Int),(b2.sz<s.sz)->(XN n.decls M p)->(0<=W9 n M.vars b2)->(mm<=M.vars.length)->(M.vars.length+4*b2.sz<=1000000000)->(0<=p/\p+4*b2.sz<=999999990)->Zp 255 [.p c 0,YF n,Yn b2,.i mm] [.obj c [.h ra,.h rb,.h rc,.h rd,.h re,.h rf,Z4 ln],rV ra M.vars,rV rb M.own,rV rc M.par,rV rd M.con,rV re M.fst,rV rf M.tok] (fun r h=>(∃(wa:Hd) (wb:Hd) (wc:Hd) (wd:Hd) (we:Hd) (wf:Hd) (M':ZM),r=.b true/\h=[.obj c [.h wa,.h wb,.h wc,.h wd,.h we,.h wf,Z4 ln],rV wa M'.vars,rV wb M'.own,rV wc M'.par,rV wd M'.con,rV we M'.fst,rV wf M'.tok]/\U7 n ln M mm b2=some M')∨(r=.b false/\h=[]/\U7 n ln M mm b2=none))):Zp 173 [.p b 0,YF n,X6 s] [.obj b [.h ga,.h gb,.h gc,.h gd,.h ge,.h gf,Z4 ln],rV ga L.vars,rV gb L.own,rV gc L.par,rV gd L.con,rV ge L.fst,rV gf L.tok] (fun r h=>(∃(wa:Hd) (wb:Hd) (wc:Hd) (wd:Hd) (we:Hd) (wf:Hd) (L':ZM),r=.b true/\h=[.obj b [.h wa,.h wb,.h wc,.h wd,.h we,.h wf,Z4 ln],rV wa L'.vars,rV wb L'.own,rV wc L'.par,rV wd L'.con,rV we L'.fst,rV wf L'.tok]/\QI n ln L s=some L')∨(r=.b false/\h=[]/\QI n ln L s=none)):=by
 obtain ⟨e1,e2,e3,e4,e5⟩:=hk.len
 have Xu:=hn.decls
 have hkz:=K1 s
 have haz:=Jo s
 have hf:=Z1e ht
 refine ZG 89 Tryz.func173 (ar (iA (Xb n) fun b1=>iA (Wk s) fun b2=>Z1 (aD 8 (ZY 2 8 [0,1,2,3,4,5] [1,2,0] (Z9 6 (A6 6 [3] [] [] [rV ga L.vars] (MH n L.vars s ob ob) FV (gS (gL (v:=ga) 0 (gS gN))) (J5 Ag) ?_))))))
 rintro _ _ ⟨rfl,rfl⟩
 refine Zs 0 1 [7] (de (Y8 (Xe (WJ [1] (ab 0 (ar (Yy (s.op==14) Zg (fun Za=>?_) (fun Za=>?_))))))))
 ·obtain ⟨x,hxa⟩:=hf.one om
  have ha:s.args[0]? = some x:=by rw [hxa];rfl
  have hx:=hf.args x (by rw [hxa];simp)
  have hgx:=Ks ha
  have hal:=(X9.1 ha).1
  obtain ⟨xo,hxo⟩:=Zu L.own x.toNat om
  have hgo:=Tj hxo
  have hob:=hk.bd xo (Y3 hxo)
  have hon:=hk.nn xo (Y3 hxo)
  refine Zq 3 [1] (Zm (Zi none 0 1 (Y6 ha)) (Z0 1 (Zt [3,0,2,2,2,2,2] (GR b ga gb gc gd ge gf L ln x (hlk:=hk.len) (hd:=hk.down)) (Z1 (aE 21 (ZY 15 21 [0,1,2,3,4,5] [0,7] (dx 6 (Zi none 0 1 (Y6 ha)) (ZY 7 14 [7,8,9,10,11,12,13] [0,7] (dx 14 (Zi none 0 1 (Y6 ha)) (Zs 5 6 [15] (dx 16 (Uh 2 gb L.own x x.toNat (hq:=rfl)) (Ua 17 (Qv 2 gb L.own x.toNat xo hxo) (da 18 ((xo+1)) ((xo)+(1)) (dx 19 (Uh 2 gb L.own x x.toNat (hq:=rfl)) (Z9 20 (Cm 20 2 [] [] gb L.own x.toNat (xo+1) (de (Xe (Yy (!T9 L ln x) (p:=¬(T9 L ln x=true)) (Y1 Iff.rfl) (fun Zh=>?_) (fun Zh=>?_))))))))))))))))))))
  ·have hP:=(S4 (n:=n) (ln:=ln) (L:=L) Za hgx).trans (Z5c Zh)
   exact ar (Zl (r1 [] (.inr ⟨rfl,rfl,(by rw [Tq,hP];first|rfl|exact Tg (by assumption)|exact Th (by assumption) (by assumption)|exact Ti (by assumption))⟩)))
  have hP:=(S4 (n:=n) (ln:=ln) (L:=L) Za hgx).trans (Z5d Zh hgo)
  obtain ⟨kx,hxv⟩:=F5 hn hk hq.1 hf hP
  refine ak (Yt 2 [7] (Zt [] (Kg s.op) (XC [0,5,7] [(80,.b (Xi s.op&&((X2 n L.vars s) != 0)))] (fun gz=>gz) ?_ ?_)))
  ·refine Z0 1 (ib (b:=Xi s.op) 77 (fun Zd=>?_) (fun Zd=>?_))
   ·exact Z1 (Zx 9 (Zo ((X2 n L.vars s) != 0) Zd fl))
   exact Z1 (Zx 9 (Zo false Zd fl))
  refine ac (Xi s.op&&((X2 n L.vars s) != 0)) (p:=(Xi s.op=true)/\((X2 n L.vars s)≠0)) (YG Iff.rfl Ys) (fun ZC=>?_) (fun ZC=>?_)
  ·refine az (Z0 2 (ic [1,1,0,0,0,0,0] (Ky b ga gb gc gd ge gf (ZM.mk L.vars (L.own.set x.toNat (xo+1)) L.par L.con L.fst L.tok) ln (X2 n L.vars s) 1 (-1) (hlb:=(by rw [hxv];omega)) (hlk:=kx.len)) ?_))
   rintro _ _ ⟨wa1,wb1,wc1,wd1,we1,wf1,rfl⟩
   exact ie (ar (Zl (r1 [0,0,0,0,0,0,0] (.inl ⟨wa1,wb1,wc1,wd1,we1,wf1,((ZM.mk L.vars (L.own.set x.toNat (xo+1)) L.par L.con L.fst L.tok).grow (X2 n L.vars s) 1 (-1)),rfl,rfl,(by rw [Tq,hP];first|rfl|exact Tg (by assumption)|exact Th (by assumption) (by assumption)|exact Ti (by assumption))⟩))))
  refine Zq 2 [7] (Zt [] (Kg s.op) (ie (ac (Xi s.op) Iff.rfl (fun Yc=>?_) (fun Yc=>?_))))
  ·refine az (Z0 1 (ic [1,1,0,0,0,0,0] (Ky b ga gb gc gd ge gf (ZM.mk L.vars (L.own.set x.toNat (xo+1)) L.par L.con L.fst L.tok) ln 0 0 (-1) (hlb:=(by rw [hxv];omega)) (hlk:=kx.len)) ?_))
   rintro _ _ ⟨wa2,wb2,wc2,wd2,we2,wf2,rfl⟩
   exact ie (ar (Zl (r1 [0,0,0,0,0,0,0] (.inl ⟨wa2,wb2,wc2,wd2,we2,wf2,((ZM.mk L.vars (L.own.set x.toNat (xo+1)) L.par L.con L.fst L.tok).grow 0 0 (-1)),rfl,rfl,(by rw [Tq,hP];first|rfl|exact Tg (by assumption)|exact Th (by assumption) (by assumption)|exact Ti (by assumption))⟩))))
  exact ak (ar (Zl (r1 [1,1,0,0,0,0,0] (.inl ⟨ga,gb,gc,gd,ge,gf,(ZM.mk L.vars (L.own.set x.toNat (xo+1)) L.par L.con L.fst L.tok),rfl,rfl,(by rw [Tq,hP];first|rfl|exact Tg (by assumption)|exact Th (by assumption) (by assumption)|exact Ti (by assumption))⟩) (eq:=(rc (rv (xs:=L.vars) ob (rv (xs:=(L.own.set x.toNat (xo+1))) ob (rv (xs:=L.par) ob (rv (xs:=L.con) ob (rv (xs:=L.fst) ob (rv (xs:=L.tok) ob rz)))))))))))
 refine ar (Yy (s.op==15) Zg (fun YB=>?_) (fun YB=>?_))
 ·obtain ⟨x,hxa⟩:=hf.one om
  have ha:s.args[0]? = some x:=by rw [hxa];rfl
  have hx:=hf.args x (by rw [hxa];simp)
  have hgx:=Ks ha
  have hal:=(X9.1 ha).1
  refine az (Zy 3 [1] (Zm (Zi none 0 1 (Y6 ha)) (Z0 1 (ic [3,0,2,2,2,2,2] (GS b ga gb gc gd ge gf L ln x (hlk:=hk.len) (hq:=(fun y hy=>⟨hk.nn y hy,by have:=hk.bd y hy;omega⟩))) ?_))))
  rintro _ _ (⟨wa3,wb3,wc3,wd3,we3,wf3,L'1,rfl,rfl,YL⟩|⟨rfl,rfl,X3⟩)
  ·have hP:=(S5 (n:=n) (ln:=ln) (L:=L) YB hgx).trans (YL)
   obtain ⟨kx,hxv⟩:=F5 hn hk hq.1 hf hP
   refine Z1 (Y4 (VF (ak (Yt 2 [7] (Zt [] (Kg s.op) (XC [0,5,7] [(80,.b (Xi s.op&&((X2 n L.vars s) != 0)))] (fun gz=>gz) ?_ ?_))))))
   ·refine Z0 1 (ib (b:=Xi s.op) 77 (fun ZD=>?_) (fun ZD=>?_))
    ·exact Z1 (Zx 9 (Zo ((X2 n L.vars s) != 0) ZD fl))
    exact Z1 (Zx 9 (Zo false ZD fl))
   refine ac (Xi s.op&&((X2 n L.vars s) != 0)) (p:=(Xi s.op=true)/\((X2 n L.vars s)≠0)) (YG Iff.rfl Ys) (fun YY=>?_) (fun YY=>?_)
   ·refine az (Z0 2 (ic [0,0,0,0,0,0,0] (Ky b wa3 wb3 wc3 wd3 we3 wf3 L'1 ln (X2 n L.vars s) 1 (-1) (hlb:=(by rw [hxv];omega)) (hlk:=kx.len)) ?_))
    rintro _ _ ⟨wa4,wb4,wc4,wd4,we4,wf4,rfl⟩
    exact ie (ar (Zl (r1 [0,0,0,0,0,0,0] (.inl ⟨wa4,wb4,wc4,wd4,we4,wf4,(L'1.grow (X2 n L.vars s) 1 (-1)),rfl,rfl,(by rw [Tq,hP];first|rfl|exact Tg (by assumption)|exact Th (by assumption) (by assumption)|exact Ti (by assumption))⟩))))
   refine Zq 2 [7] (Zt [] (Kg s.op) (ie (ac (Xi s.op) Iff.rfl (fun WI=>?_) (fun WI=>?_))))
   ·refine az (Z0 1 (ic [0,0,0,0,0,0,0] (Ky b wa3 wb3 wc3 wd3 we3 wf3 L'1 ln 0 0 (-1) (hlb:=(by rw [hxv];omega)) (hlk:=kx.len)) ?_))
    rintro _ _ ⟨wa5,wb5,wc5,wd5,we5,wf5,rfl⟩
    exact ie (ar (Zl (r1 [0,0,0,0,0,0,0] (.inl ⟨wa5,wb5,wc5,wd5,we5,wf5,(L'1.grow 0 0 (-1)),rfl,rfl,(by rw [Tq,hP];first|rfl|exact Tg (by assumption)|exact Th (by assumption) (by assumption)|exact Ti (by assumption))⟩))))
   exact ak (ar (Zl (r1 [0,0,0,0,0,0,0] (.inl ⟨wa3,wb3,wc3,wd3,we3,wf3,L'1,rfl,rfl,(by rw [Tq,hP];first|rfl|exact Tg (by assumption)|exact Th (by assumption) (by assumption)|exact Ti (by assumption))⟩))))
  have hP:=(S5 (n:=n) (ln:=ln) (L:=L) YB hgx).trans (X3)
  exact Z1 (Y4 (Vo (ar (Zl (r1 [] (.inr ⟨rfl,rfl,(by rw [Tq,hP];first|rfl|exact Tg (by assumption)|exact Th (by assumption) (by assumption)|exact Ti (by assumption))⟩))))))
 refine Y4 (Xv (fun fz gz F h=>F=sF [0,4,5,7,17] fz [(58,.b ((s.op==16)||(s.op==17)))]/\h=gz) ?_ ?_)
 ·refine ac (s.op==16) Zg (fun VH=>?_) (fun VH=>?_)
  ·exact ak (ZI ⟨rfl,rfl⟩ (Zx 9 (fc (x:=.b (s.op==16)) (lb (by first|rfl|(rw [Zb VH])|(rw [Z5 VH])|(simp [VH];done)|(rw [Yd];simp [VH];done)|omega)) fl)))
  exact Vl (ZI ⟨rfl,rfl⟩ (Zx 9 (fc (x:=.b (s.op==17)) (lb (by first|rfl|(rw [Zb VH])|(rw [Z5 VH])|(simp [VH];done)|(rw [Yd];simp [VH];done)|omega)) fl)))
 rintro F h ⟨rfl,rfl⟩
 refine ac ((s.op==16)||(s.op==17)) (p:=(s.op=16)∨(s.op=17)) (Zz Zg Zg) (fun Vf=>?_) (fun Vf=>?_)
 ·obtain ⟨x,hxa⟩:=hf.one om
  have ha:s.args[0]? = some x:=by rw [hxa];rfl
  have hx:=hf.args x (by rw [hxa];simp)
  have hgx:=Ks ha
  have hal:=(X9.1 ha).1
  refine az (Zy 3 [2,1] (ic [3,0,2,2,2,2,2] (Zbk b ga gb gc gd ge gf n s L ln q x) ?_))
  rintro _ _ (⟨wa6,wb6,wc6,wd6,we6,wf6,L'2,rfl,rfl,Wh⟩|⟨rfl,rfl,WZ⟩)
  ·have hP:=(S6 (n:=n) (ln:=ln) (L:=L) Vf hgx).trans (Wh)
   obtain ⟨kx,hxv⟩:=F5 hn hk hq.1 hf hP
   refine Z1 (Y4 (VF (ak (Yt 2 [7] (Zt [] (Kg s.op) (XC [0,5,7] [(80,.b (Xi s.op&&((X2 n L.vars s) != 0)))] (fun gz=>gz) ?_ ?_))))))
   ·refine Z0 1 (ib (b:=Xi s.op) 77 (fun Yk=>?_) (fun Yk=>?_))
    ·exact Z1 (Zx 9 (Zo ((X2 n L.vars s) != 0) Yk fl))
    exact Z1 (Zx 9 (Zo false Yk fl))
   refine ac (Xi s.op&&((X2 n L.vars s) != 0)) (p:=(Xi s.op=true)/\((X2 n L.vars s)≠0)) (YG Iff.rfl Ys) (fun Vq=>?_) (fun Vq=>?_)
   ·refine az (Z0 2 (ic [0,0,0,0,0,0,0] (Ky b wa6 wb6 wc6 wd6 we6 wf6 L'2 ln (X2 n L.vars s) 1 (-1) (hlb:=(by rw [hxv];omega)) (hlk:=kx.len)) ?_))
    rintro _ _ ⟨wa7,wb7,wc7,wd7,we7,wf7,rfl⟩
    exact ie (ar (Zl (r1 [0,0,0,0,0,0,0] (.inl ⟨wa7,wb7,wc7,wd7,we7,wf7,(L'2.grow (X2 n L.vars s) 1 (-1)),rfl,rfl,(by rw [Tq,hP];first|rfl|exact Tg (by assumption)|exact Th (by assumption) (by assumption)|exact Ti (by assumption))⟩))))
   refine Zq 2 [7] (Zt [] (Kg s.op) (ie (ac (Xi s.op) Iff.rfl (fun TB=>?_) (fun TB=>?_))))
   ·refine az (Z0 1 (ic [0,0,0,0,0,0,0] (Ky b wa6 wb6 wc6 wd6 we6 wf6 L'2 ln 0 0 (-1) (hlb:=(by rw [hxv];omega)) (hlk:=kx.len)) ?_))
    rintro _ _ ⟨wa8,wb8,wc8,wd8,we8,wf8,rfl⟩
    exact ie (ar (Zl (r1 [0,0,0,0,0,0,0] (.inl ⟨wa8,wb8,wc8,wd8,we8,wf8,(L'2.grow 0 0 (-1)),rfl,rfl,(by rw [Tq,hP];first|rfl|exact Tg (by assumption)|exact Th (by assumption) (by assumption)|exact Ti (by assumption))⟩))))
   exact ak (ar (Zl (r1 [0,0,0,0,0,0,0] (.inl ⟨wa6,wb6,wc6,wd6,we6,wf6,L'2,rfl,rfl,(by rw [Tq,hP];first|rfl|exact Tg (by assumption)|exact Th (by assumption) (by assumption)|exact Ti (by assumption))⟩))))
  have hP:=(S6 (n:=n) (ln:=ln) (L:=L) Vf hgx).trans (WZ)
  exact Z1 (Y4 (Vo (ar (Zl (r1 [] (.inr ⟨rfl,rfl,(by rw [Tq,hP];first|rfl|exact Tg (by assumption)|exact Th (by assumption) (by assumption)|exact Ti (by assumption))⟩))))))
 refine Y4 (Xv (fun fz gz F h=>F=sF [0,4,5,7] fz [(65,.b ((s.op==7)||(s.op==8)))]/\h=gz) ?_ ?_)
 ·refine ac (s.op==7) Zg (fun Vr=>?_) (fun Vr=>?_)
  ·exact ak (ZI ⟨rfl,rfl⟩ (Zx 9 (fc (x:=.b (s.op==7)) (lb (by first|rfl|(rw [Zb Vr])|(rw [Z5 Vr])|(simp [Vr];done)|(rw [Yd];simp [Vr];done)|omega)) fl)))
  exact Vl (ZI ⟨rfl,rfl⟩ (Zx 9 (fc (x:=.b (s.op==8)) (lb (by first|rfl|(rw [Zb Vr])|(rw [Z5 Vr])|(simp [Vr];done)|(rw [Yd];simp [Vr];done)|omega)) fl)))
 rintro F h ⟨rfl,rfl⟩
 refine ac ((s.op==7)||(s.op==8)) (p:=(s.op=7)∨(s.op=8)) (Zz Zg Zg) (fun Q4=>?_) (fun Q4=>?_)
 ·refine az (Zy 3 [2,1] (ic [3,0,2,2,2,2,2] (Zbh b ga gb gc gd ge gf n s L ln q (ih:=ob)) ?_))
  rintro _ _ (⟨wa9,wb9,wc9,wd9,we9,wf9,L'3,rfl,rfl,Tl⟩|⟨rfl,rfl,UM⟩)
  ·have hP:=(S7 (n:=n) (ln:=ln) (L:=L) Q4).trans (Tl)
   obtain ⟨kx,hxv⟩:=F5 hn hk hq.1 hf hP
   refine Z1 (Y4 (VF (ak (Yt 2 [7] (Zt [] (Kg s.op) (XC [0,5,7] [(80,.b (Xi s.op&&((X2 n L.vars s) != 0)))] (fun gz=>gz) ?_ ?_))))))
   ·refine Z0 1 (ib (b:=Xi s.op) 77 (fun YT=>?_) (fun YT=>?_))
    ·exact Z1 (Zx 9 (Zo ((X2 n L.vars s) != 0) YT fl))
    exact Z1 (Zx 9 (Zo false YT fl))
   refine ac (Xi s.op&&((X2 n L.vars s) != 0)) (p:=(Xi s.op=true)/\((X2 n L.vars s)≠0)) (YG Iff.rfl Ys) (fun CD=>?_) (fun CD=>?_)
   ·refine az (Z0 2 (ic [0,0,0,0,0,0,0] (Ky b wa9 wb9 wc9 wd9 we9 wf9 L'3 ln (X2 n L.vars s) 1 (-1) (hlb:=(by rw [hxv];omega)) (hlk:=kx.len)) ?_))
    rintro _ _ ⟨wa10,wb10,wc10,wd10,we10,wf10,rfl⟩
    exact ie (ar (Zl (r1 [0,0,0,0,0,0,0] (.inl ⟨wa10,wb10,wc10,wd10,we10,wf10,(L'3.grow (X2 n L.vars s) 1 (-1)),rfl,rfl,(by rw [Tq,hP];first|rfl|exact Tg (by assumption)|exact Th (by assumption) (by assumption)|exact Ti (by assumption))⟩))))
   refine Zq 2 [7] (Zt [] (Kg s.op) (ie (ac (Xi s.op) Iff.rfl (fun EI=>?_) (fun EI=>?_))))
   ·refine az (Z0 1 (ic [0,0,0,0,0,0,0] (Ky b wa9 wb9 wc9 wd9 we9 wf9 L'3 ln 0 0 (-1) (hlb:=(by rw [hxv];omega)) (hlk:=kx.len)) ?_))
    rintro _ _ ⟨wa11,wb11,wc11,wd11,we11,wf11,rfl⟩
    exact ie (ar (Zl (r1 [0,0,0,0,0,0,0] (.inl ⟨wa11,wb11,wc11,wd11,we11,wf11,(L'3.grow 0 0 (-1)),rfl,rfl,(by rw [Tq,hP];first|rfl|exact Tg (by assumption)|exact Th (by assumption) (by assumption)|exact Ti (by assumption))⟩))))
   exact ak (ar (Zl (r1 [0,0,0,0,0,0,0] (.inl ⟨wa9,wb9,wc9,wd9,we9,wf9,L'3,rfl,rfl,(by rw [Tq,hP];first|rfl|exact Tg (by assumption)|exact Th (by assumption) (by assumption)|exact Ti (by assumption))⟩))))
  have hP:=(S7 (n:=n) (ln:=ln) (L:=L) Q4).trans (UM)
  exact Z1 (Y4 (Vo (ar (Zl (r1 [] (.inr ⟨rfl,rfl,(by rw [Tq,hP];first|rfl|exact Tg (by assumption)|exact Th (by assumption) (by assumption)|exact Ti (by assumption))⟩))))))
 refine az (Zy 3 [2,1] (ic [3,0,2,2,2,2,2] (Zbj b ga gb gc gd ge gf n s L ln q (hnum:=hf.num) (hargs:=hf.args) (hinto:=(fun q=>(hf.into om).2))) ?_))
 rintro _ _ (⟨wa12,wb12,wc12,wd12,we12,wf12,L'4,rfl,rfl,Kw⟩|⟨rfl,rfl,Kx⟩)
 ·have hP:=(S8 (n:=n) (ln:=ln) (L:=L) Za YB Vf Q4).trans (Kw)
  obtain ⟨kx,hxv⟩:=F5 hn hk hq.1 hf hP
  refine Z1 (Y4 (VF (ak (Yt 2 [7] (Zt [] (Kg s.op) (XC [0,5,7] [(80,.b (Xi s.op&&((X2 n L.vars s) != 0)))] (fun gz=>gz) ?_ ?_))))))
  ·refine Z0 1 (ib (b:=Xi s.op) 77 (fun XK=>?_) (fun XK=>?_))
   ·exact Z1 (Zx 9 (Zo ((X2 n L.vars s) != 0) XK fl))
   exact Z1 (Zx 9 (Zo false XK fl))
  refine ac (Xi s.op&&((X2 n L.vars s) != 0)) (p:=(Xi s.op=true)/\((X2 n L.vars s)≠0)) (YG Iff.rfl Ys) (fun Ku=>?_) (fun Ku=>?_)
  ·refine az (Z0 2 (ic [0,0,0,0,0,0,0] (Ky b wa12 wb12 wc12 wd12 we12 wf12 L'4 ln (X2 n L.vars s) 1 (-1) (hlb:=(by rw [hxv];omega)) (hlk:=kx.len)) ?_))
   rintro _ _ ⟨wa13,wb13,wc13,wd13,we13,wf13,rfl⟩
   exact ie (ar (Zl (r1 [0,0,0,0,0,0,0] (.inl ⟨wa13,wb13,wc13,wd13,we13,wf13,(L'4.grow (X2 n L.vars s) 1 (-1)),rfl,rfl,(by rw [Tq,hP];first|rfl|exact Tg (by assumption)|exact Th (by assumption) (by assumption)|exact Ti (by assumption))⟩))))
  refine Zq 2 [7] (Zt [] (Kg s.op) (ie (ac (Xi s.op) Iff.rfl (fun Kv=>?_) (fun Kv=>?_))))
  ·refine az (Z0 1 (ic [0,0,0,0,0,0,0] (Ky b wa12 wb12 wc12 wd12 we12 wf12 L'4 ln 0 0 (-1) (hlb:=(by rw [hxv];omega)) (hlk:=kx.len)) ?_))
   rintro _ _ ⟨wa14,wb14,wc14,wd14,we14,wf14,rfl⟩
   exact ie (ar (Zl (r1 [0,0,0,0,0,0,0] (.inl ⟨wa14,wb14,wc14,wd14,we14,wf14,(L'4.grow 0 0 (-1)),rfl,rfl,(by rw [Tq,hP];first|rfl|exact Tg (by assumption)|exact Th (by assumption) (by assumption)|exact Ti (by assumption))⟩))))
  exact ak (ar (Zl (r1 [0,0,0,0,0,0,0] (.inl ⟨wa12,wb12,wc12,wd12,we12,wf12,L'4,rfl,rfl,(by rw [Tq,hP];first|rfl|exact Tg (by assumption)|exact Th (by assumption) (by assumption)|exact Ti (by assumption))⟩))))
 have hP:=(S8 (n:=n) (ln:=ln) (L:=L) Za YB Vf Q4).trans (Kx)
 exact Z1 (Y4 (Vo (ar (Zl (r1 [] (.inr ⟨rfl,rfl,(by rw [Tq,hP];first|rfl|exact Tg (by assumption)|exact Th (by assumption) (by assumption)|exact Ti (by assumption))⟩))))))
theorem Zbf (c:Nat) (ga:Hd) (gb:Hd) (gc:Hd) (gd:Hd) (ge:Hd) (gf:Hd) (n:ZF) (b:Z8) (L:ZM) (ln:LI) (q:Int) (mm:Nat) (hn:XA n) (hk:XN n.decls L q) (ht:0<=W9 n L.vars b) (hm:mm<=L.vars.length) (hb:L.vars.length+4*b.sz<=1000000000) (hq:0<=q/\q+4*b.sz<=999999990) (hln:ln.length<=4294967296) (ih:∀(s2:Z6) (c:Nat) (ra:Hd) (rb:Hd) (rc:Hd) (rd:Hd) (re:Hd) (rf:Hd) (M:ZM) (p:Int),(s2.sz<b.sz)->(XN n.decls M p)->(0<=X2 n M.vars s2)->(M.vars.length+4*s2.sz<=1000000000)->(0<=p/\p+4*s2.sz<=999999990)->Zp 173 [.p c 0,YF n,X6 s2] [.obj c [.h ra,.h rb,.h rc,.h rd,.h re,.h rf,Z4 ln],rV ra M.vars,rV rb M.own,rV rc M.par,rV rd M.con,rV re M.fst,rV rf M.tok] (fun r h=>(∃(wa:Hd) (wb:Hd) (wc:Hd) (wd:Hd) (we:Hd) (wf:Hd) (M':ZM),r=.b true/\h=[.obj c [.h wa,.h wb,.h wc,.h wd,.h we,.h wf,Z4 ln],rV wa M'.vars,rV wb M'.own,rV wc M'.par,rV wd M'.con,rV we M'.fst,rV wf M'.tok]/\QI n ln M s2=some M')∨(r=.b false/\h=[]/\QI n ln M s2=none))):Zp 255 [.p c 0,YF n,Yn b,.i mm] [.obj c [.h ga,.h gb,.h gc,.h gd,.h ge,.h gf,Z4 ln],rV ga L.vars,rV gb L.own,rV gc L.par,rV gd L.con,rV ge L.fst,rV gf L.tok] (fun r h=>(∃(wa:Hd) (wb:Hd) (wc:Hd) (wd:Hd) (we:Hd) (wf:Hd) (L':ZM),r=.b true/\h=[.obj c [.h wa,.h wb,.h wc,.h wd,.h we,.h wf,Z4 ln],rV wa L'.vars,rV wb L'.own,rV wc L'.par,rV wd L'.con,rV we L'.fst,rV wf L'.tok]/\U7 n ln L mm b=some L')∨(r=.b false/\h=[]/\U7 n ln L mm b=none)):=by
 have hbz:=b.sz_eq
 obtain ⟨vs,rt,hvs,hres,hrt⟩:=Nz ht
 have hri:=De hres
 have XT:=UB b
 refine ZG 45 Tryz.func255 (ar (iA (Xb n) fun b1=>iA (W3 b) fun b2=>?_))
 refine Z1 (Y4 (ab 0 (Y5 (fun fz gz m F h=>∃(k:Nat) (q2:Int) (L2:ZM) (ka:Hd) (kb:Hd) (kc:Hd) (kd:Hd) (ke:Hd) (kf:Hd),(k<=b.steps.length)/\(XN n.decls L2 q2)/\(0<=q2/\q2+4*Yx (b.steps.drop k)<=999999990)/\(L2.vars.length+4*Yx (b.steps.drop k)<=1000000000)/\(UA n (b.steps.drop k) L2.vars=some vs)/\(JK n ln L2 (b.steps.drop k)=JK n ln L b.steps)/\(L.vars.length<=L2.vars.length)/\F=sF [0,3,5,6] fz [(9,.i k)]/\h=[Zj gz 0,Zj gz 1,.obj c [.h ka,.h kb,.h kc,.h kd,.h ke,.h kf,Z4 ln],rV ka L2.vars,rV kb L2.own,rV kc L2.par,rV kd L2.con,rV ke L2.fst,rV kf L2.tok]/\m=b.steps.length-k) _ _ _ ⟨0,q,L,ga,gb,gc,gd,ge,gf,ob,hk,(by rw [C5];omega),(by rw [C5];omega),hvs,rfl,om,rfl,rfl,rfl⟩ (Zx 9 (Yg fl)) ?_)))
 rintro m F h ⟨k,q2,L2,ka,kb,kc,kd,ke,kf,Yi,Zk,ZA,YO,Wp,QT,NH,rfl,rfl,rfl⟩
 refine Yt 3 [0] (iw (UH b.steps) (Y0 ((k:Int)<(b.steps.length:Int)) (fun Za=>?_) (fun Za=>?_)))
 ·obtain ⟨s1,hs1⟩:=Zu b.steps k om
  have hss:=Ea hs1
  have hdr:=Yh hs1
  have hz:Yx (b.steps.drop k)=s1.sz+Yx (b.steps.drop (k+1)):=by rw [hdr,Yx]
  rw [hdr] at Wp QT
  obtain ⟨g1,g2⟩:=Z1g Wp
  refine ak (aq (ab 1 (aD 9 (ZY 4 9 [0,1,2,3,4] [1,0] (dx 5 (Zi none (k:Int) 5 (Ve hs1)) (Zs 2 3 [6] (Z9 7 (dc 7 [2,2,2,2,2,2,2] [] [] (ih s1 c ka kb kc kd ke kf L2 q2 ob Zk g1 om om) ?_))))))))
  rintro _ _ (⟨wa1,wb1,wc1,wd1,we1,wf1,M'1,rfl,rfl,Y7⟩|⟨rfl,rfl,Ym⟩)
  ·have hP:=Y7
   have kx:=Z1d hn Zk ZA.1 g1 hP
   exact Zs 0 1 [8] (de (VF (ak (az (Z0 1 (ZE k (Z1 (ZH ⟨k+1,(q2+4*s1.sz),M'1,wa1,wb1,wc1,wd1,we1,wf1,ob,kx.1,om,(by rw [kx.2];have:=Z09 n L2.vars s1;omega),(by rw [kx.2];exact g2),(by rw [<-QT,JK,hP];rfl),(by rw [kx.2];have:=Z09 n L2.vars s1;omega),rfl,rfl,rfl⟩ (wk [7,7,0,0,0,0,0,0,0] (ZL k fl))))))))))
  have hP:=Ym
  exact Zs 0 1 [8] (de (Vo (ar (Zl (r1 [] (.inr ⟨rfl,rfl,(by rw [Ic,<-QT,JK,hP];rfl)⟩))))))
 rw [Xt om] at Wp QT
 have hvv:L2.vars=vs:=by rw [UA] at Wp;exact Ax Wp
 have hB:U7 n ln L mm b=Aa mm b.result L2:=by rw [Ic,<-QT,JK];rfl
 obtain ⟨xr,hxr⟩:=Zu L2.vars b.result.toNat (by rw [hvv];omega)
 have hgr:=Tj hxr
 have hrl:0<=b.result/\b.result<L2.vars.length:=by rw [hvv];omega
 rw [UA] at Wp
 refine ax 0 (aq (aD 16 (ZY 10 16 [0,1,2,3,4,5] [2,0] (dx 6 (Uh 3 ka L2.vars b.result b.result.toNat (hq:=rfl)) (Ua 7 (Qv 3 ka L2.vars b.result.toNat xr hxr) (Zs 6 8 [8,9] (db (b:=(xr != 0)) 35 (fun Zd=>?_) (fun Zd=>?_))))))))
 ·have YL:xr≠0:=(Ys).1 Zd
  refine ZY 3 6 [10,11,12] [0] (Z9 13 (dc 13 [2,2,2,2,2,2,2] [] [] (GS c ka kb kc kd ke kf L2 ln b.result (hlk:=Zk.len) (hq:=(fun y hy=>⟨Zk.nn y hy,by have:=Zk.bd y hy;omega⟩))) ?_))
  rintro _ _ (⟨wa2,wb2,wc2,wd2,we2,wf2,L'1,rfl,rfl,X3⟩|⟨rfl,rfl,Xf⟩)
  ·have hE:=hB.trans (Z5u hgr (by assumption) X3)
   have kx:=Zk.take X3
   have hxv:L'1.vars.length=L2.vars.length:=by rw [(JL X3).2.1]
   refine Zs 0 2 [14,15] (de (VF (ak (Ye 2 (ic [0,0,0,0,0,0,0] (PY c wa2 wb2 wc2 wd2 we2 wf2 L'1 ln mm (hlk:=(by first|exact kx.len|exact Zk.len)) (hlb:=om) (hm:=om)) ?_)))))
   rintro _ _ (⟨wa3,wb3,wc3,wd3,we3,wf3,L'2,rfl,rfl,XS⟩|⟨rfl,rfl,Wh⟩)
   ·exact Zl (r1 [0,0,0,0,0,0,0] (.inl ⟨wa3,wb3,wc3,wd3,we3,wf3,L'2,rfl,rfl,(by first|exact hE|(rw [hE];exact XS)|(rw [hB,Ey hgr (by assumption)];exact XS))⟩))
   exact Zl (r1 [] (.inr ⟨rfl,rfl,(by first|exact hE|(rw [hE];exact Wh)|(rw [hB,Ey hgr (by assumption)];exact Wh))⟩))
  have hE:=hB.trans (Z5t hgr (by assumption) Xf)
  exact Zs 0 2 [14,15] (de (Vo (ar (Zl (r1 [] (.inr ⟨rfl,rfl,(by first|exact hE|(rw [hE];exact Xf)|(rw [hB,Ey hgr (by assumption)];exact Xf))⟩))))))
 have WZ:¬(xr≠0):=Y2 Ys Zd
 refine Zs 0 6 [10,11,12,13,14,15] (de (VF (ak (Ye 2 (ic [2,2,2,2,2,2,2] (PY c ka kb kc kd ke kf L2 ln mm (hlk:=(by first|exact kx.len|exact Zk.len)) (hlb:=om) (hm:=om)) ?_)))))
 rintro _ _ (⟨wa4,wb4,wc4,wd4,we4,wf4,L'3,rfl,rfl,Vs⟩|⟨rfl,rfl,UL⟩)
 ·exact Zl (r1 [0,0,0,0,0,0,0] (.inl ⟨wa4,wb4,wc4,wd4,we4,wf4,L'3,rfl,rfl,(by first|exact hE|(rw [hE];exact Vs)|(rw [hB,Ey hgr (by assumption)];exact Vs))⟩))
 exact Zl (r1 [] (.inr ⟨rfl,rfl,(by first|exact hE|(rw [hE];exact UL)|(rw [hB,Ey hgr (by assumption)];exact UL))⟩))
theorem Zbg (n:ZF) (ln:LI) (hn:XA n) (hln:ln.length<=4294967296) (m:Nat):∀(b2:Z8) (c:Nat) (ra:Hd) (rb:Hd) (rc:Hd) (rd:Hd) (re:Hd) (rf:Hd) (M:ZM) (mm:Nat) (p:Int),(b2.sz<m+1)->(XN n.decls M p)->(0<=W9 n M.vars b2)->(mm<=M.vars.length)->(M.vars.length+4*b2.sz<=1000000000)->(0<=p/\p+4*b2.sz<=999999990)->Zp 255 [.p c 0,YF n,Yn b2,.i mm] [.obj c [.h ra,.h rb,.h rc,.h rd,.h re,.h rf,Z4 ln],rV ra M.vars,rV rb M.own,rV rc M.par,rV rd M.con,rV re M.fst,rV rf M.tok] (fun r h=>(∃(wa:Hd) (wb:Hd) (wc:Hd) (wd:Hd) (we:Hd) (wf:Hd) (M':ZM),r=.b true/\h=[.obj c [.h wa,.h wb,.h wc,.h wd,.h we,.h wf,Z4 ln],rV wa M'.vars,rV wb M'.own,rV wc M'.par,rV wd M'.con,rV we M'.fst,rV wf M'.tok]/\U7 n ln M mm b2=some M')∨(r=.b false/\h=[]/\U7 n ln M mm b2=none)):=by
 induction m with
 | zero=>intro b c ga gb gc gd ge gf L mm q h;have:=b.sz_pos;omega
 | succ m ih=>
  intro b c ga gb gc gd ge gf L mm q h1 hk ht hm hb hp
  exact Zbf c ga gb gc gd ge gf n b L ln q mm hn hk ht hm hb hp hln fun s c ga gb gc gd ge gf L q h2 hk ht hb hp=>R3 c ga gb gc gd ge gf n s L ln q hn hk ht hb hp hln
   fun b2 c ga gb gc gd ge gf L mm q h3 hk ht hm hb hp=>ih b2 c ga gb gc gd ge gf L mm q om hk ht hm hb hp
theorem Zbm (n:ZF) (ln:LI) (hn:XA n) (hln:ln.length<=4294967296) (m:Nat):∀(s2:Z6) (c:Nat) (ra:Hd) (rb:Hd) (rc:Hd) (rd:Hd) (re:Hd) (rf:Hd) (M:ZM) (p:Int),(s2.sz<m+1)->(XN n.decls M p)->(0<=X2 n M.vars s2)->(M.vars.length+4*s2.sz<=1000000000)->(0<=p/\p+4*s2.sz<=999999990)->Zp 173 [.p c 0,YF n,X6 s2] [.obj c [.h ra,.h rb,.h rc,.h rd,.h re,.h rf,Z4 ln],rV ra M.vars,rV rb M.own,rV rc M.par,rV rd M.con,rV re M.fst,rV rf M.tok] (fun r h=>(∃(wa:Hd) (wb:Hd) (wc:Hd) (wd:Hd) (we:Hd) (wf:Hd) (M':ZM),r=.b true/\h=[.obj c [.h wa,.h wb,.h wc,.h wd,.h we,.h wf,Z4 ln],rV wa M'.vars,rV wb M'.own,rV wc M'.par,rV wd M'.con,rV we M'.fst,rV wf M'.tok]/\QI n ln M s2=some M')∨(r=.b false/\h=[]/\QI n ln M s2=none)):=by
 intro s c ga gb gc gd ge gf L q h2 hk ht hb hp
 exact R3 c ga gb gc gd ge gf n s L ln q hn hk ht hb hp hln fun b2 c ga gb gc gd ge gf L mm q h3 hk ht hm hb hp=>Zbg n ln hn hln m b2 c ga gb gc gd ge gf L mm q om hk ht hm hb hp
theorem Zbl (c:Nat) (ra:Hd) (rb:Hd) (rc:Hd) (rd:Hd) (re:Hd) (rf:Hd) (n:ZF) (s2:Z6) (M:ZM) (ln:LI) (p:Int) (hn:XA n) (hln:ln.length<=4294967296) (hk:XN n.decls M p) (ht:0<=X2 n M.vars s2) (hb:M.vars.length+4*s2.sz<=1000000000) (hp:0<=p/\p+4*s2.sz<=999999990):Zp 173 [.p c 0,YF n,X6 s2] [.obj c [.h ra,.h rb,.h rc,.h rd,.h re,.h rf,Z4 ln],rV ra M.vars,rV rb M.own,rV rc M.par,rV rd M.con,rV re M.fst,rV rf M.tok] (fun r h=>(∃(wa:Hd) (wb:Hd) (wc:Hd) (wd:Hd) (we:Hd) (wf:Hd) (M':ZM),r=.b true/\h=[.obj c [.h wa,.h wb,.h wc,.h wd,.h we,.h wf,Z4 ln],rV wa M'.vars,rV wb M'.own,rV wc M'.par,rV wd M'.con,rV we M'.fst,rV wf M'.tok]/\QI n ln M s2=some M')∨(r=.b false/\h=[]/\QI n ln M s2=none)):=Zbm n ln hn hln s2.sz s2 c ra rb rc rd re rf M p om hk ht hb hp
theorem Zfv (rt:YC) (hp:rt.params.length<=1000000:=by exact ob) (hl:rt.lent.length<=4294967296:=by exact ob):Zp 172 [JT rt] [] (fun r h=>∃(c:Nat) (wa:Hd) (wb:Hd) (wc:Hd) (wd:Hd) (we:Hd) (wf:Hd),r=.p c 0/\h=[.obj c [.h wa,.h wb,.h wc,.h wd,.h we,.h wf,Z4 rt.lent],rV wa ((KC rt).vars),rV wb ((KC rt).own),rV wc ((KC rt).par),rV wd ((KC rt).con),rV we ((KC rt).fst),rV wf ((KC rt).tok)]):=by
 refine ZG 45 Tryz.func172 (ar (iA (JB rt) fun b1=>Z1 (Zq 2 [0] (ic [] (WQ rt.lent) ?_))))
 rintro _ _ ⟨v1,rfl,rfl⟩
 refine ZT 1 [(8,.agg [nl,nl,nl,nl,nl,nl,Z4 rt.lent])] (iA [nl,nl,nl,nl,nl,nl,Z4 rt.lent] fun b2=>?_)
 refine Xm (Zhf 0 b2 [nl,nl,nl,nl,nl,nl,Z4 rt.lent] [.h hN,.h hN,.h hN,.h hN,.h hN,.h hN,Z4 rt.lent] (.cons (Ze.hd (v:=hN)) (.cons (Ze.hd (v:=hN)) (.cons (Ze.hd (v:=hN)) (.cons (Ze.hd (v:=hN)) (.cons (Ze.hd (v:=hN)) (.cons (Ze.hd (v:=hN)) (.cons (lr _) .nil)))))))) (Xm (Ed) (Xm (Ed) (Xm (Ed) (Xm (Ed) (Xm (Ed) (Xm (Ed) (Z1 (Y4 (ab 0 (Y5 (fun fz gz m F h=>∃(k:Nat) (L2:ZM) (ka:Hd) (kb:Hd) (kc:Hd) (kd:Hd) (ke:Hd) (kf:Hd),(k<=rt.params.length)/\(Tv L2)/\(L2.vars.length=k)/\(B8 rt.lent (rt.params.drop k) k L2=KC rt)/\F=sF [1,3] fz [(4,.i k)]/\h=[.obj b2 [.h ka,.h kb,.h kc,.h kd,.h ke,.h kf,Z4 rt.lent],Zj gz 8,rV ka L2.vars,rV kb L2.own,rV kc L2.par,rV kd L2.con,rV ke L2.fst,rV kf L2.tok]/\m=rt.params.length-k) _ _ _ ⟨0,(ZM.mk [] [] [] [] [] []),hN,hN,hN,hN,hN,hN,ob,⟨rfl,rfl,rfl,rfl,rfl⟩,rfl,rfl,rfl,rfl,rfl⟩ (wk [6,7,0,0,0,0,0,0] (Yg fl) (e:=(rc (rc (rv (xs:=[]) ob (rv (xs:=[]) ob (rv (xs:=[]) ob (rv (xs:=[]) ob (rv (xs:=[]) ob (rv (xs:=[]) ob rz)))))))))) ?_))))))))))
 rintro m F h ⟨k,L2,ka,kb,kc,kd,ke,kf,Yi,Zk,ZA,YO,rfl,rfl,rfl⟩
 refine Yt 3 [1] (iw (Yb rt.params) (Y0 ((k:Int)<(rt.params.length:Int)) (fun Za=>?_) (fun Za=>?_)))
 ·refine ak (aq (ab 1 (Zq 3 [1] ?_)))
  obtain ⟨x1,Z3⟩:=Zu rt.params k om
  refine Zm (Zi none (k:Int) 1 (Y6 Z3)) (XC [1,3,4] [(29,.b ((x1 != 0)&&(!(decide ((k:Int)∈rt.lent)))))] (fun gz=>gz) ?_ ?_)
  ·refine Z0 3 (ib (b:=(x1 != 0)) 23 (fun Zd=>?_) (fun Zd=>?_))
   ·exact Zy 3 [1] (Zt [] (US rt.lent (k:Int)) (Z1 (Zx 8 (Zo (!(decide ((k:Int)∈rt.lent))) Zd fl))))
   exact Z1 (Zx 8 (Zo false Zd fl))
  refine ac ((x1 != 0)&&(!(decide ((k:Int)∈rt.lent)))) (p:=(x1≠0)/\(¬((k:Int)∈rt.lent))) (YG Ys (Y1 dq)) (fun Zh=>?_) (fun Zh=>?_)
  ·refine az (Zy 4 [1] (Zm (Zi none (k:Int) 1 (Y6 Z3)) (Z0 1 (ic [0,1,1,1,1,1,1] (Ky b2 ka kb kc kd ke kf L2 rt.lent x1 1 (-1) (hlk:=Zk)) ?_))))
   rintro _ _ ⟨wa1,wb1,wc1,wd1,we1,wf1,rfl⟩
   exact ie (az (Z0 1 (ZE k (Z1 (ZH ⟨k+1,(L2.grow x1 1 (-1)),wa1,wb1,wc1,wd1,we1,wf1,ob,(Tv.grow Zk),(by simp [ZM.grow];omega),(by rw [Yh Z3,B8] at YO;first|(rw [Zb Zh] at YO;exact YO)|(rw [Z5 Zh] at YO;exact YO)),rfl,rfl,rfl⟩ (wk [0,6,0,0,0,0,0,0] (ZL k fl)))))))
  refine az (Zy 4 [1] (Zm (Zi none (k:Int) 1 (Y6 Z3)) (Z0 1 (ic [0,1,1,1,1,1,1] (Ky b2 ka kb kc kd ke kf L2 rt.lent x1 0 (-1) (hlk:=Zk)) ?_))))
  rintro _ _ ⟨wa2,wb2,wc2,wd2,we2,wf2,rfl⟩
  exact ie (az (Z0 1 (ZE k (Z1 (ZH ⟨k+1,(L2.grow x1 0 (-1)),wa2,wb2,wc2,wd2,we2,wf2,ob,(Tv.grow Zk),(by simp [ZM.grow];omega),(by rw [Yh Z3,B8] at YO;first|(rw [Zb Zh] at YO;exact YO)|(rw [Z5 Zh] at YO;exact YO)),rfl,rfl,rfl⟩ (wk [0,6,0,0,0,0,0,0] (ZL k fl)))))))
 refine ax 0 (Y8 ?_)
 have hNl:L2=KC rt:=by rw [<-YO,Xt om];rfl
 exact ZU (r1 [0,1,1,1,1,1,1] ⟨b2,ka,kb,kc,kd,ke,kf,rfl,rfl⟩ (eq:=(rc (rv (xs:=L2.vars) (by rw [hNl]) (rv (xs:=L2.own) (by rw [hNl]) (rv (xs:=L2.par) (by rw [hNl]) (rv (xs:=L2.con) (by rw [hNl]) (rv (xs:=L2.fst) (by rw [hNl]) (rv (xs:=L2.tok) (by rw [hNl]) rz)))))))))
end Go.Abs
