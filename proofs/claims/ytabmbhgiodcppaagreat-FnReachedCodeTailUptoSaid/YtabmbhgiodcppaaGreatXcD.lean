/-
  A part of the proofs of several laws (see the last file): no condition.
-/
import Derived.Test.YtabmbhgiodcppaaGreatXcC
set_option linter.all false
set_option linter.unusedVariables false
set_option linter.unusedSimpArgs false
set_option linter.unusedSectionVars false
set_option maxRecDepth 10000
set_option maxHeartbeats 4000000
namespace Go.Abs
open Go.Proofs
theorem Pl (rd:Nat) (bs:LI) (p:Nat) (g:Wb) (gb:Nat) (rs:List Func) (vs:LI) (t:Int) (b:Nat) (ZL:∀z∈bs,0<=z/\z<=255) (hp:p+40000<=1000000000:=by exact ob) (hg:GP g:=by exact ob) (Wo:g.funcs <+: rs:=by exact ob) (hv:vs.length+3*b<=900:=by exact ob) (hb:b<=20:=by exact ob):Zm 184 [.p rd 0,.agg (Ws g gb),Z3 vs,.i t,.i b] [YF rd bs p,XW gb rs] (fun r h=>∃(e:Z2) (p2:Nat),r=Yb e/\h=[YF rd bs p2,XW gb rs]/\GE g vs.length 30 e/\p<=p2/\p2<=p+40000):=by
 have Zjz:=Gm hb
 refine ZF 34 Tryz.func184 (ar (iA (Ws g gb) fun b1=>iA [.i 0,.i 0,nl] fun b2=>ie (Zq 5 [1] (ic [2,2] (Kc rd bs p g gb rs vs t b (ZL:=ob)) ?_))))
 rintro _ _ ⟨e1,p21,rfl,rfl,Ya⟩
 have Xn:=Ya.1
 refine iA [.i 0,.i 0,nl] fun b3=>?_
 refine Zz 0 b3 (X0 e1) (ie (aq (ab 0 (Y3 (fun fz gz m F h=>∃(bq:Nat) (eQ:Z2) (pq:Nat),(GE g vs.length (bS bq) eQ)/\(bq<=b)/\(p<=pq/\pq+1900*bq<=p+1900*(b+1))/\F=sF [0,2,3,6,10,11] fz [(4,.i bq)]/\h=[.obj b3 (X0 eQ),YF rd bs pq,Zh gz 2,Zh gz 3,Zh gz 4]/\m=bq+1) _ _ _ ⟨b,e1,p21,Xn,ob,ob,rfl,rfl,rfl⟩ (Zy 5 fl) ?_))))
 rintro m F h ⟨bq,eQ,pq,Yi,Zj,Zw,rfl,rfl,rfl⟩
 refine Yr 1 [0] (ic [] (Ps eQ (hz:=(by have h1:=Yi.2;have h2:=(Gm (b:=bq) om).1;omega))) ?_)
 rintro _ _ ⟨w1,rfl,rfl,Ys⟩
 have LS:=Ys
 have hq20:=Gm (b:=bq) om
 have hq21:=Gm (b:=bq / 2) om
 have XS:=Yi.2
 refine Xs [0,2,3,4,6,10,11] [(24,.b ((decide (w1<0))&&(decide ((bq:Int)>2))))] (fun gz=>gz) ?_ ?_
 ·refine Z0 2 (ib (b:=(decide (w1<0))) 21 (fun Ze=>?_) (fun Ze=>?_))
  ·exact Z1 (Zy 5 (Zo (decide ((bq:Int)>2)) Ze fl))
  exact Z1 (Zy 5 (Zo false Ze fl))
 refine ac ((decide (w1<0))&&(decide ((bq:Int)>2))) (p:=(w1<0)/\((bq:Int)>2)) (Yt dq dq) (fun Zc=>?_) (fun Zc=>?_)
 ·refine ak (ab 1 (Yc 1 (Zp (E2 bq 2 om om) (Z1 (az (ZC 5 [4] (ic [1,1] (Kc rd bs pq g gb rs vs t (bq / 2) (ZL:=ob)) ?_)))))))
  rintro _ _ ⟨e2,p22,rfl,rfl,Xk⟩
  have Xn:=Xk.1
  exact Zz 2 b3 (X0 e2) (ie (ZG ⟨(bq / 2),e2,p22,Xn,ob,ob,rfl,rfl,rfl⟩ (Zy 5 (fc (x:=.i (bq / 2:Nat)) li fl))))
 exact ax 0 (Zq 1 [0] (Zz 3 b2 (X0 eQ) (ie (ZV (r3 [2,2] [Yb eQ] [0] [(b2,b2)] ⟨eQ,pq,rfl,rfl,⟨⟨Yi.1,by omega⟩,by omega⟩⟩ (lr _))))))
theorem Z9n (rd:Nat) (bs:LI) (p:Nat) (t:Int) (ZL:∀z∈bs,0<=z/\z<=255) (hp:p+14<=1000000000:=by exact ob):Zm 214 [.p rd 0,.i t] [YF rd bs p] (fun r h=>∃(e:Z2) (p2:Nat),r=Yb e/\h=[YF rd bs p2]/\(∀g:Wb,SE g 9 e)/\p<=p2/\p2<=p+14):=by
 refine ZF 45 Tryz.func214 (ar (iA [.i 0,.i 0,nl] fun b1=>ie (ar (iL (YB []) 0 3 fun v1=>ZU 0 [(10,XH [])] (Zu [] (XX 6 0 []) (iA [.i 0,.i 0,nl] fun b2=>Zz 0 b2 (X0 (Z2.mk 6 0 [])) (ie (Xh (Yx (t==3) Zg (fun Zc=>?_) (fun Zc=>?_))))))))))
 ·refine ar (iL (YB []) 0 3 fun v2=>ZU 0 [(14,XH [])] (Zu [] (XX 6 2 []) (iA [.i 0,.i 0,nl] fun b3=>?_)))
  refine Zz 0 b3 (X0 (Z2.mk 6 2 [])) (ie (aD 9 (ZY 6 9 [0,1,4] [0,0] (BJ (fun fz gz F h=>∃(k1:Int) (b4:Nat),(Pk 9 k1)/\F=sF [0,4,6] fz [(7,.p b4 0)]/\h=[.obj b4 (X0 (Z2.mk 6 3 [Z2.mk 6 2 [],Z2.mk 0 k1 [],Z2.mk 6 2 []])),.obj rd [Um bs,.i (p+1:Nat)],Zh gz 0,Zh gz 1,Zh gz 2,Zh gz 3,Zh gz 4]) ?_ ?_))))
  ·refine Ur 2 7 ?_ ?_
   ·refine dc 2 [5] [0,0] [b3,b3] (W0 rd bs p 9 (ZL:=ob)) ?_
    rintro _ _ ⟨k1,rfl,rfl,Ya⟩
    have qhp1:=Ya.lt om
    refine Ur 3 7 ?_ ?_
    ·refine YL 3 [] [1,1] [b3,b3] (B7 k1) (Ur 5 7 ?_ ?_)
     ·refine WE 5 [] [] [Yb (Z2.mk 6 2 []),Yb (Z2.mk 0 k1 []),Yb (Z2.mk 6 2 [])] (YB [Z2.mk 6 2 [],Z2.mk 0 k1 [],Z2.mk 6 2 []]) (XV [Z2.mk 6 2 [],Z2.mk 0 k1 [],Z2.mk 6 2 []]).symm 3 3 fun v3=>Yv 3 3 [] [(21,XH [Z2.mk 6 2 [],Z2.mk 0 k1 [],Z2.mk 6 2 []])] (Ur 6 7 ?_ ?_)
      ·exact YL 6 [] [] [] (XX 6 3 [Z2.mk 6 2 [],Z2.mk 0 k1 [],Z2.mk 6 2 []]) (Z9 7 (dA 7 [] [] [.i 0,.i 0,nl] fun b4=>Z9 8 (YX 8 0 [] [] b4 (X0 (Z2.mk 6 3 [Z2.mk 6 2 [],Z2.mk 0 k1 [],Z2.mk 6 2 []])) (de (ZJ ⟨k1,b4,(by assumption),rfl,rfl⟩ (wk [0,1,1,1,1,1,1] fl))))))
      exact dA 7 [] [] [.i 0,.i 0,nl] fun b5=>Z9 6 (YL 6 [] [] [] (XX 6 3 [Z2.mk 6 2 [],Z2.mk 0 k1 [],Z2.mk 6 2 []]) (Z9 8 (YX 8 0 [] [] b5 (X0 (Z2.mk 6 3 [Z2.mk 6 2 [],Z2.mk 0 k1 [],Z2.mk 6 2 []])) (de (ZJ ⟨k1,b5,(by assumption),rfl,rfl⟩ (wk [0,1,1,1,1,1,1] fl))))))
     exact dA 7 [1,1] [b3,b3] [.i 0,.i 0,nl] fun b6=>Z9 5 (WE 5 [] [] [Yb (Z2.mk 6 2 []),Yb (Z2.mk 0 k1 []),Yb (Z2.mk 6 2 [])] (YB [Z2.mk 6 2 [],Z2.mk 0 k1 [],Z2.mk 6 2 []]) (XV [Z2.mk 6 2 [],Z2.mk 0 k1 [],Z2.mk 6 2 []]).symm 3 3 fun v4=>Yv 2 2 [] [(21,XH [Z2.mk 6 2 [],Z2.mk 0 k1 [],Z2.mk 6 2 []])] (Z9 6 (YL 6 [] [] [] (XX 6 3 [Z2.mk 6 2 [],Z2.mk 0 k1 [],Z2.mk 6 2 []]) (Z9 8 (YX 8 1 [] [] b6 (X0 (Z2.mk 6 3 [Z2.mk 6 2 [],Z2.mk 0 k1 [],Z2.mk 6 2 []])) (de (ZJ ⟨k1,b6,(by assumption),rfl,rfl⟩ (wk [0,1,1,1,1,1,1] fl))))))))
    exact dA 7 [1,1] [b3,b3] [.i 0,.i 0,nl] fun b7=>Z9 3 (YL 3 [] [2,2] [b3,b3] (B7 k1) (Z9 5 (WE 5 [] [] [Yb (Z2.mk 6 2 []),Yb (Z2.mk 0 k1 []),Yb (Z2.mk 6 2 [])] (YB [Z2.mk 6 2 [],Z2.mk 0 k1 [],Z2.mk 6 2 []]) (XV [Z2.mk 6 2 [],Z2.mk 0 k1 [],Z2.mk 6 2 []]).symm 3 3 fun v5=>Yv 2 2 [] [(21,XH [Z2.mk 6 2 [],Z2.mk 0 k1 [],Z2.mk 6 2 []])] (Z9 6 (YL 6 [] [] [] (XX 6 3 [Z2.mk 6 2 [],Z2.mk 0 k1 [],Z2.mk 6 2 []]) (Z9 8 (YX 8 1 [] [] b7 (X0 (Z2.mk 6 3 [Z2.mk 6 2 [],Z2.mk 0 k1 [],Z2.mk 6 2 []])) (de (ZJ ⟨k1,b7,(by assumption),rfl,rfl⟩ (wk [0,1,1,1,1,1,1] fl))))))))))
   refine dA 7 [0,0] [b3,b3] [.i 0,.i 0,nl] fun b8=>Z9 2 (dc 2 [6] [1,1] [b3,b3] (W0 rd bs p 9 (ZL:=ob)) ?_)
   rintro _ _ ⟨k2,rfl,rfl,Ys⟩
   have qhp2:=Ys.lt om
   exact Z9 3 (YL 3 [] [2,2] [b3,b3] (B7 k2) (Z9 5 (WE 5 [] [] [Yb (Z2.mk 6 2 []),Yb (Z2.mk 0 k2 []),Yb (Z2.mk 6 2 [])] (YB [Z2.mk 6 2 [],Z2.mk 0 k2 [],Z2.mk 6 2 []]) (XV [Z2.mk 6 2 [],Z2.mk 0 k2 [],Z2.mk 6 2 []]).symm 3 3 fun v6=>Yv 2 2 [] [(21,XH [Z2.mk 6 2 [],Z2.mk 0 k2 [],Z2.mk 6 2 []])] (Z9 6 (YL 6 [] [] [] (XX 6 3 [Z2.mk 6 2 [],Z2.mk 0 k2 [],Z2.mk 6 2 []]) (Z9 8 (YX 8 2 [] [] b8 (X0 (Z2.mk 6 3 [Z2.mk 6 2 [],Z2.mk 0 k2 [],Z2.mk 6 2 []])) (de (ZJ ⟨k2,b8,(by assumption),rfl,rfl⟩ (wk [0,1,1,1,1,1,1] fl))))))))))
  rintro F h ⟨k1,b4,Ya,rfl,rfl⟩
  have qhp1:=Ya.lt om
  refine aD 8 (ZY 5 8 [0,1,4] [0,2] (Z9 2 (dc 2 [1] [1,0] [b3,b4] (W0 rd bs (p+1) 9 (ZL:=ob)) ?_)))
  rintro _ _ ⟨k3,rfl,rfl,YR⟩
  have qhp3:=YR.lt om
  exact Z9 3 (YL 3 [] [2,1] [b3,b4] (B7 k3) (Z9 5 (WE 5 [] [] [Yb (Z2.mk 6 3 [Z2.mk 6 2 [],Z2.mk 0 k1 [],Z2.mk 6 2 []]),Yb (Z2.mk 0 k3 []),Yb (Z2.mk 6 2 [])] (YB [Z2.mk 6 3 [Z2.mk 6 2 [],Z2.mk 0 k1 [],Z2.mk 6 2 []],Z2.mk 0 k3 [],Z2.mk 6 2 []]) (XV [Z2.mk 6 3 [Z2.mk 6 2 [],Z2.mk 0 k1 [],Z2.mk 6 2 []],Z2.mk 0 k3 [],Z2.mk 6 2 []]).symm 3 3 fun v7=>Yv 2 2 [] [(28,XH [Z2.mk 6 3 [Z2.mk 6 2 [],Z2.mk 0 k1 [],Z2.mk 6 2 []],Z2.mk 0 k3 [],Z2.mk 6 2 []])] (Z9 6 (YL 6 [] [] [] (XX 6 3 [Z2.mk 6 3 [Z2.mk 6 2 [],Z2.mk 0 k1 [],Z2.mk 6 2 []],Z2.mk 0 k3 [],Z2.mk 6 2 []]) (Z9 7 (YX 7 7 [] [] b1 (X0 (Z2.mk 6 3 [Z2.mk 6 3 [Z2.mk 6 2 [],Z2.mk 0 k1 [],Z2.mk 6 2 []],Z2.mk 0 k3 [],Z2.mk 6 2 []])) (de (ZV (r3 [2] [Yb (Z2.mk 6 3 [Z2.mk 6 3 [Z2.mk 6 2 [],Z2.mk 0 k1 [],Z2.mk 6 2 []],Z2.mk 0 k3 [],Z2.mk 6 2 []])] [0] [(b1,b1)] ⟨(Z2.mk 6 3 [Z2.mk 6 3 [Z2.mk 6 2 [],Z2.mk 0 k1 [],Z2.mk 6 2 []],Z2.mk 0 k3 [],Z2.mk 6 2 []]),(p+1)+1,rfl,rfl,⟨fun g=>SE.three (s1:=4) (s2:=1) (s3:=1) om om (SE.three (s1:=1) (s2:=1) (s3:=1) om om (SE.nil om om om) (SE.int om om) (SE.nil om om om) om) (SE.int om om) (SE.nil om om om) om,by omega⟩⟩ (lr _)))))))))))
 refine ak (Zq 1 [0] (iA [.i 0,.i 0,nl] fun b9=>Zz 0 b9 (X0 (Z2.mk 6 0 [])) (ie (YN 1 (ic [4] (W0 rd bs p 3 (ZL:=ob)) ?_)))))
 rintro _ _ ⟨k4,rfl,rfl,X2⟩
 have qhp4:=X2.lt om
 refine ia ((1+k4)) ((1)+(k4)) (Z1 (ab 0 (Y3 (fun fz gz m F h=>∃(j:Int) (eQ:Z2) (pq:Nat),(0<=j/\j<=3)/\(∀g:Wb,SE g (7-2*j.toNat) eQ)/\(p+1<=pq/\pq+4*j.toNat<=p+13)/\F=sF [0,4,8] fz [(9,.i j)]/\h=[YF rd bs pq,.obj b9 (X0 eQ),Zh gz 4]/\m=j.toNat) _ _ _ ⟨(1+k4),(Z2.mk 6 0 []),p+1,ob,(fun g=>SE.nil om om om),ob,rfl,rfl,rfl⟩ (wk [0,0,2] fl) ?_)))
 rintro m F h ⟨j,eQ,pq,Yi,Zj,Zw,rfl,rfl,rfl⟩
 refine Xh (Y2 (j>0) (fun Zi=>?_) (fun Zi=>?_))
 ·refine ak (aq (ab 1 (aE 7 (ZY 5 7 [0,3] [1] (Z9 1 (dc 1 [0] [0] [b9] (Pv rd bs pq (ZL:=ob)) ?_))))))
  rintro _ _ ⟨z1,rfl,rfl,Xk⟩
  have hz:=Xk
  exact Z9 2 (YL 2 [] [1] [b9] (B7 z1) (Z9 4 (WE 4 [] [] [Yb (Z2.mk 0 z1 []),Yb eQ] (YB [Z2.mk 0 z1 [],eQ]) (XV [Z2.mk 0 z1 [],eQ]).symm 2 3 fun v8=>Yv 2 2 [] [(42,XH [Z2.mk 0 z1 [],eQ])] (Z9 5 (YL 5 [] [] [] (XX 6 1 [Z2.mk 0 z1 [],eQ]) (Z9 6 (YX 6 2 [] [] b9 (X0 (Z2.mk 6 1 [Z2.mk 0 z1 [],eQ])) (de (az (Z0 1 (ia ((j-1)) ((j)-(1)) (Z1 (ZG ⟨(j-1),(Z2.mk 6 1 [Z2.mk 0 z1 [],eQ]),pq+4,ob,(fun g=>SE.two om om (SE.int (q:=1) om om) (Zj g) om),ob,rfl,rfl,rfl⟩ (wk [2,0,1] fl))))))))))))))
 exact ax 0 (Zq 1 [1] (Zz 2 b1 (X0 eQ) (ie (ZV (r3 [1] [Yb eQ] [0] [(b1,b1)] ⟨eQ,pq,rfl,rfl,⟨fun g=>(⟨(Zj g).1,by have:=(Zj g).2;omega⟩:SE g 9 _),by omega⟩⟩ (lr _))))))
theorem Z9q (rd:Nat) (bs:LI) (p:Nat) (g:Wb) (gb:Nat) (rs:List Func) (ZL:∀z∈bs,0<=z/\z<=255) (hp:p+1600<=1000000000:=by exact ob) (hg:GP g:=by exact ob) (Wo:g.funcs <+: rs:=by exact ob):Zm 180 [.p rd 0,.agg (Ws g gb)] [YF rd bs p,XW gb rs] (fun r h=>∃(e:Z2) (p2:Nat),r=Yb e/\h=[YF rd bs p2,XW gb rs]/\GE g 0 200 e/\p<=p2/\p2<=p+1600):=by
 have hbv:=EL
 refine ZF 27 Tryz.func180 (ar (iA (Ws g gb) fun b1=>iA [.i 0,.i 0,nl] fun b2=>ie (Yc 1 (iL (Z6 [1,1,3]) 3 1 fun v1=>ZU 0 [(8,Z3 [1,1,3])] (ic [3] (UA rd bs p [1,1,3] (ZL:=ob)) ?_)))))
 rintro _ _ ⟨z1,rfl,rfl,Ya⟩
 have hz:=C5 (a:=1) (b:=3) Ya (by decide)
 refine Z1 (Zq 3 [3] (iL (Z6 [z1]) 1 1 fun v2=>ZU 0 [(13,Z3 [z1])] (ic [1,4] (Kc rd bs (p+1) g gb rs [z1] 0 16 (ZL:=ob) (hv:=(by simp))) ?_)))
 rintro _ _ ⟨e1,p21,rfl,rfl,Ys⟩
 have Xn:=Ys.1
 have Kg:=Ys.2
 rw [hbv.2.2.2.1] at Xn
 refine iA [.i 0,.i 0,nl] fun b3=>Zz 0 b3 (X0 e1) (ie (YN 1 (ic [1] (W0 rd bs p21 3 (ZL:=ob)) ?_)))
 rintro _ _ ⟨k1,rfl,rfl,YR⟩
 have qhp3:=YR.lt om
 refine Z1 (Xy (fun fz gz F h=>∃(eQ:Z2),(GE g 1 151 eQ)/\F=sF [0,4,5,6] fz []/\h=[Zh gz 0,.obj b3 (X0 eQ),Zh gz 2,Zh gz 5]) ?_ ?_)
 ·refine ac (k1==0) Zg (fun Zc=>?_) (fun Zc=>?_)
  ·exact az (ZC 1 [1] (UP [Yb e1] (YB [e1]) (XV [e1]).symm 1 3 fun v3=>ZU 0 [(19,XH [e1])] (Zu [] (XX 5 0 [e1]) (Zz 2 b3 (X0 (Z2.mk 5 0 [e1])) (ie (ZJ ⟨(Z2.mk 5 0 [e1]),(GE.one om om Xn om),rfl,rfl⟩ (wk [2,0,1,3] fl)))))))
  exact ak (ZJ ⟨e1,(GE.le Xn om),rfl,rfl⟩ (wk [0,0,0,2] fl))
 rintro F h ⟨eQ,Jf,rfl,rfl⟩
 refine aD 7 (ZY 4 7 [0,1,3] [1] (Z9 2 (dc 2 [0] [0] [b3] (Z9n rd bs (p21+1) z1 (ZL:=ob)) ?_)))
 rintro _ _ ⟨e2,p22,rfl,rfl,X2⟩
 have hli:=X2.1
 exact Z9 4 (WE 4 [] [] [Yb e2,Yb eQ] (YB [e2,eQ]) (XV [e2,eQ]).symm 2 3 fun v4=>Yv 2 2 [] [(25,XH [e2,eQ])] (Z9 5 (YL 5 [] [] [] (XX 13 0 [e2,eQ]) (Z9 6 (YX 6 4 [] [] b2 (X0 (Z2.mk 13 0 [e2,eQ])) (de (ZV (r3 [2,3] [Yb (Z2.mk 13 0 [e2,eQ])] [0] [(b2,b2)] ⟨(Z2.mk 13 0 [e2,eQ]),p22,rfl,rfl,⟨GE.letS ((hli g).ge (Xa _)) Jf om,by omega⟩⟩ (lr _)))))))))
theorem Z9y (rd:Nat) (bs:LI) (p:Nat) (g:Wb) (gb:Nat) (rs:List Func) (f:Func) (i:Int) (w:Int) (ZL:∀z∈bs,0<=z/\z<=255) (hp:p+1000<=1000000000:=by exact ob) (hg:GP g:=by exact ob) (Wo:g.funcs <+: rs:=by exact ob) (hi:0<=i:=by exact ob) (hf:g.funcs[i.toNat]? = some f:=by exact ob) (hw:0<=w/\w<f.params.length:=by exact ob):Zm 181 [.p rd 0,.agg (Ws g gb),.i i,.i w] [YF rd bs p,XW gb rs] (fun r h=>∃(e:Z2) (p2:Nat),r=Yb e/\h=[YF rd bs p2,XW gb rs]/\GE g f.params.length 200 e/\p<=p2/\p2<=p+1000):=by
 obtain ⟨hil,_⟩:=X4.1 hf
 have hgl:=hg.len
 have hso:=(hg.sigs f (Y1 hf)).bd
 have hbv:=EL
 refine ZF 136 Tryz.func181 (ar (iA (Ws g gb) fun b1=>iA [.i 0,.i 0,nl] fun b2=>ie (Zq 3 [1] (Zp (XC gb g.funcs.length 4 i.toNat 5 i) (Z0 1 (Vm (WC 3 gb 4 4 5 (i.toNat * 5+0) (Z8 (Xu rs)) [Z3 f.params] 29 (Z3 f.params) (UL Wo hf 0 rfl (Vg rfl))) (Z1 (Yc 1 (iw (Yd f.params) (Z1 (Yc 1 (iL (Z6 [0,1]) 2 1 fun v1=>ZU 0 [(26,Z3 [0,1])] (ic [] (TK f.params [0,1]) ?_)))))))))))))
 rintro _ _ ⟨v2,rfl,rfl⟩
 refine Z1 (ar (iL (YB []) 0 3 fun v3=>?_))
 refine Z1 (Y5 (ab 0 (Y3 (fun fz gz m F h=>∃(k:Nat) (ys:List Z2) (u:Value) (pq:Nat),(k<=f.params.length)/\(ys.length=k)/\(∀e∈ys,GE g (f.params.length+2) 3 e)/\(p<=pq/\pq<=p+k)/\F=sF [0,2,3,5,8,9,10] fz [(11,Z3 (f.params++[0,1])),(12,QP ys u),(13,.i k)]/\h=[Zh gz 3,Zh gz 4,YF rd bs pq,Zh gz 6,.tail u 3]/\m=f.params.length-k) _ _ _ ⟨0,[],v3,p,ob,ob,(fun e he=>by cases he),ob,rfl,rfl,rfl⟩ (wk [3,3,3,3,0] (fc (x:=ZI (f.params++[0,1]) v2) (Zd.forget _ _) (fr (Yf fl)))) ?_)))
 rintro m F h ⟨k,ys,u,pq,Yi,Zj,Zw,YO,rfl,rfl,rfl⟩
 refine Xh (Y2 ((k:Int)<(f.params.length:Int)) (fun Zc=>?_) (fun Zc=>?_))
 ·refine ak (aq (ab 1 (ar (Yx ((k:Int)==w) Zg (fun Zi=>?_) (fun Zi=>?_)))))
  ·exact az (Z0 2 (ia (((f.params.length+1:Nat):Int)) (((f.params.length:Int))+(1)) (Zu [] (Ql ((f.params.length+1:Nat):Int)) (UP [Yb (Z2.mk 12 ((f.params.length+1:Nat):Int) [])] (YB [(Z2.mk 12 ((f.params.length+1:Nat):Int) [])]) (XV [(Z2.mk 12 ((f.params.length+1:Nat):Int) [])]).symm 1 3 fun v4=>ZU 0 [(41,XH [(Z2.mk 12 ((f.params.length+1:Nat):Int) [])])] (ip 5 (YB (ys++[(Z2.mk 12 ((f.params.length+1:Nat):Int) [])])) (YB ys) (YB [(Z2.mk 12 ((f.params.length+1:Nat):Int) [])]) u none 3 (Ti _) (Ti _) (An _) (by simp<;>omega) (by simp [Am,YB]) fun v5=>Z1 (az (Z0 1 (ZD k (Z1 (ZG ⟨k+1,(ys++[(Z2.mk 12 ((f.params.length+1:Nat):Int) [])]),v5,pq,ob,ob,(XI Zw (GE.var om om om)),ob,rfl,rfl,rfl⟩ (wk [2,2,2,2,0] (fw (ZK k fl)))))))))))))
  refine aq (Xy (fun fz gz F h=>∃(wb:Bool) (p5:Nat),(pq<=p5/\p5<=pq+1)/\F=sF [0,2,3,5,8,9,10,11,12,13] fz [(52,.b wb)]/\h=[Zh gz 0,Zh gz 1,YF rd bs p5,Zh gz 3,Zh gz 4]) ?_ ?_)
  ·refine az (Z0 2 ?_)
   obtain ⟨x1,Z4⟩:=Zt f.params k om
   refine Zp (Zk none (k:Int) 1 (Y4 Z4)) (Z0 3 (ib (b:=(x1==0)) 48 (fun Ze=>?_) (fun Ze=>?_)))
   ·refine Z0 1 (ic [2] (W0 rd bs pq 2 (ZL:=ob)) ?_)
    rintro _ _ ⟨k1,rfl,rfl,Ys⟩
    have qhp2:=Ys.lt om
    exact Z1 (ZJ ⟨(k1==0),pq+1,om,rfl,rfl⟩ (wk [1,1,0,0,0] fl))
   exact Z1 (ZJ ⟨false,pq,ob,rfl,rfl⟩ (Zy 5 fl))
  rintro F h ⟨wb,p5,kR10_0,rfl,rfl⟩
  refine ac wb Iff.rfl (fun ZB=>?_) (fun ZB=>?_)
  ·exact az (Z0 2 (Zu [] (Ql (k:Int)) (Z0 1 (Zu [] (Ql (f.params.length:Int)) (UP [Yb (Z2.mk 12 (k:Int) []),Yb (Z2.mk 12 (f.params.length:Int) [])] (YB [(Z2.mk 12 (k:Int) []),(Z2.mk 12 (f.params.length:Int) [])]) (XV [(Z2.mk 12 (k:Int) []),(Z2.mk 12 (f.params.length:Int) [])]).symm 2 3 fun v6=>ZU 0 [(58,XH [(Z2.mk 12 (k:Int) []),(Z2.mk 12 (f.params.length:Int) [])])] (Zu [] (XX 1 0 [(Z2.mk 12 (k:Int) []),(Z2.mk 12 (f.params.length:Int) [])]) (UP [Yb (Z2.mk 1 0 [(Z2.mk 12 (k:Int) []),(Z2.mk 12 (f.params.length:Int) [])])] (YB [(Z2.mk 1 0 [(Z2.mk 12 (k:Int) []),(Z2.mk 12 (f.params.length:Int) [])])]) (XV [(Z2.mk 1 0 [(Z2.mk 12 (k:Int) []),(Z2.mk 12 (f.params.length:Int) [])])]).symm 1 3 fun v7=>ZU 0 [(60,XH [(Z2.mk 1 0 [(Z2.mk 12 (k:Int) []),(Z2.mk 12 (f.params.length:Int) [])])])] (ip 6 (YB (ys++[(Z2.mk 1 0 [(Z2.mk 12 (k:Int) []),(Z2.mk 12 (f.params.length:Int) [])])])) (YB ys) (YB [(Z2.mk 1 0 [(Z2.mk 12 (k:Int) []),(Z2.mk 12 (f.params.length:Int) [])])]) u none 3 (Ti _) (Ti _) (An _) (by simp<;>omega) (by simp [Am,YB]) fun v8=>Z1 (az (Z0 1 (ZD k (Z1 (ZG ⟨k+1,(ys++[(Z2.mk 1 0 [(Z2.mk 12 (k:Int) []),(Z2.mk 12 (f.params.length:Int) [])])]),v8,p5,ob,ob,(XI Zw (GE.two (s1:=1) (s2:=1) om om (GE.var om om om) (GE.var om om om) om)),ob,rfl,rfl,rfl⟩ (wk [3,3,3,3,0] (fw (ZK k fl))))))))))))))))
  exact az (Z0 2 (Zu [] (Ql (k:Int)) (UP [Yb (Z2.mk 12 (k:Int) [])] (YB [(Z2.mk 12 (k:Int) [])]) (XV [(Z2.mk 12 (k:Int) [])]).symm 1 3 fun v9=>ZU 0 [(65,XH [(Z2.mk 12 (k:Int) [])])] (ip 5 (YB (ys++[(Z2.mk 12 (k:Int) [])])) (YB ys) (YB [(Z2.mk 12 (k:Int) [])]) u none 3 (Ti _) (Ti _) (An _) (by simp<;>omega) (by simp [Am,YB]) fun v10=>Z1 (az (Z0 1 (ZD k (Z1 (ZG ⟨k+1,(ys++[(Z2.mk 12 (k:Int) [])]),v10,p5,ob,ob,(XI Zw (GE.var om om om)),ob,rfl,rfl,rfl⟩ (wk [2,2,2,2,0] (fw (ZK k fl))))))))))))
 refine ax 0 (ar (ZU 2 [(68,XH ys)] (Zu [] (XX 9 i ys) (iA [.i 0,.i 0,nl] fun b3=>Zz 0 b3 (X0 (Z2.mk 9 i ys)) (ie (Zq 1 [0] (iA [.i 0,.i 0,nl] fun b4=>?_)))))))
 refine Zz 0 b4 (X0 (Z2.mk 9 i ys)) (ie (aq (aq (Xy (fun fz gz F h=>∃(wb:Bool) (p5:Nat),(pq<=p5/\p5<=pq+1)/\F=sF [0,2,3,5,8,9,10,11,14,15] fz [(82,.b wb)]/\h=[Zh gz 0,Zh gz 1,Zh gz 2,Zh gz 3,YF rd bs p5,Zh gz 5]) ?_ ?_))))
 ·refine az (ZC 3 [3] (Zp (XC gb g.funcs.length 4 i.toNat 5 i) (Z0 1 (Vm (WC 5 gb 4 4 5 (i.toNat * 5+1) (Z8 (Xu rs)) [.i f.result] 3 (.i f.result) (UL Wo hf 1 rfl (Vg rfl))) (Z0 2 (ib (b:=(f.result==1)) 78 (fun ZE=>?_) (fun ZE=>?_)))))))
  ·refine Z0 1 (ic [4] (W0 rd bs pq 5 (ZL:=ob)) ?_)
   rintro _ _ ⟨k2,rfl,rfl,Xk⟩
   have qhp5:=Xk.lt om
   exact Z1 (ZJ ⟨(decide (k2>0)),pq+1,ob,rfl,rfl⟩ (wk [1,1,1,1,0,0] fl))
  exact Z1 (ZJ ⟨false,pq,ob,rfl,rfl⟩ (Zy 6 fl))
 rintro F h ⟨wb,p5,kR15_0,rfl,rfl⟩
 refine Xy (fun fz gz F h=>∃(eQ:Z2) (p6:Nat),(GE g (f.params.length+2) 41 eQ)/\(p5<=p6/\p6<=p5+302)/\F=sF [0,2,3,5,8,9,15] fz []/\h=[.obj b4 (X0 eQ),Zh gz 2,Zh gz 3,YF rd bs p6,Zh gz 5]) ?_ ?_
 ·refine ac wb Iff.rfl (fun Y7=>?_) (fun Y7=>?_)
  ·refine Zq 3 [3] (ic [4,4] (Kc rd bs p5 g gb rs (f.params++[0,1]) 0 4 (ZL:=ob) (hv:=(by first|omega|(simp only [Yo,Yq,YY];omega)))) ?_)
   rintro _ _ ⟨e1,p21,rfl,rfl,Wi⟩
   have Xn:=Wi.1
   have Kg:=Wi.2
   try rw [Yo] at Xn
   rw [hbv.2.1] at Xn
   refine iA [.i 0,.i 0,nl] fun b5=>?_
   refine Zz 0 b5 (X0 e1) (ie (aq (aq (Xy (fun fz gz F h=>∃(wc:Bool),(True)/\F=sF [0,2,3,5,8,9,10,14,15,16] fz [(94,.b wc)]/\h=gz) ?_ ?_))))
   ·refine az (Z0 3 (ib (b:=(decide ((f.params.length:Int)>1))) 89 (fun Ym=>?_) (fun Ym=>?_)))
    ·refine Z0 1 ?_
     obtain ⟨x2,Zv⟩:=Zt f.params 0 om
     exact Zp (Zk none 0 1 (Y4 Zv)) (Z1 (ZJ ⟨(x2==2),ob,rfl,rfl⟩ (Zy 7 fl)))
    exact Z1 (ZJ ⟨false,ob,rfl,rfl⟩ (Zy 7 fl))
   rintro F h ⟨wc,kR17_0,rfl,rfl⟩
   refine Xy (fun fz gz F h=>∃(eA:Z2),(GE g (f.params.length+2) 30 eA)/\F=sF [0,2,3,5,8,9,14,15,16] fz []/\h=[.obj b5 (X0 eA),Zh gz 1,Zh gz 2,Zh gz 3,Zh gz 4,Zh gz 5,Zh gz 6]) ?_ ?_
   ·refine ac wc Iff.rfl (fun YM=>?_) (fun YM=>?_)
    ·exact az (Zu [] (Ql 0) (Z0 1 (Zu [] (Ql (f.params.length:Int)) (UP [Yb (Z2.mk 12 0 []),Yb (Z2.mk 12 (f.params.length:Int) [])] (YB [Z2.mk 12 0 [],(Z2.mk 12 (f.params.length:Int) [])]) (XV [Z2.mk 12 0 [],(Z2.mk 12 (f.params.length:Int) [])]).symm 2 3 fun v11=>ZU 0 [(98,XH [Z2.mk 12 0 [],(Z2.mk 12 (f.params.length:Int) [])])] (Zu [] (XX 11 0 [Z2.mk 12 0 [],(Z2.mk 12 (f.params.length:Int) [])]) (Zz 1 b5 (X0 (Z2.mk 11 0 [Z2.mk 12 0 [],(Z2.mk 12 (f.params.length:Int) [])])) (ie (ZJ ⟨(Z2.mk 11 0 [Z2.mk 12 0 [],(Z2.mk 12 (f.params.length:Int) [])]),(GE.two (s1:=1) (s2:=1) om om (GE.var om om om) (GE.var om om om) om),rfl,rfl⟩ (wk [0,1,1,1,1,1,1] fl)))))))))
    exact ak (ZJ ⟨e1,Xn,rfl,rfl⟩ (Zy 7 fl))
   rintro F h ⟨eA,Zby,rfl,rfl⟩
   exact az (ZC 2 [0,4] (UP [Yb eA,Yb (Z2.mk 9 i ys)] (YB [eA,Z2.mk 9 i ys]) (XV [eA,Z2.mk 9 i ys]).symm 2 3 fun v12=>ZU 0 [(102,XH [eA,Z2.mk 9 i ys])] (Zu [] (XX 6 1 [eA,Z2.mk 9 i ys]) (Zz 4 b4 (X0 (Z2.mk 6 1 [eA,Z2.mk 9 i ys])) (ie (ZJ ⟨(Z2.mk 6 1 [eA,Z2.mk 9 i ys]),p21,(GE.two (s1:=30) (s2:=10) om om Zby (GE.node (L:=f.params.length) (s:=3) (q:=10) om (fun _=>by omega) om Zw om om om) om),ob,rfl,rfl⟩ (wk [0,5,5,2,2] fl)))))))
  refine Zq 3 [3] (Zp (XC gb g.funcs.length 4 i.toNat 5 i) (Z0 1 (Vm (WC 5 gb 4 4 5 (i.toNat * 5+1) (Z8 (Xu rs)) [.i f.result] 3 (.i f.result) (UL Wo hf 1 rfl (Vg rfl))) (Yx (f.result==0) Zg (fun YZ=>?_) (fun YZ=>?_)))))
  ·refine aE 11 (ZY 6 11 [0,3,4,5,7] [3,1] (Z9 1 (dL 1 [1,3] [b3,b1] (Z6 [1,2]) 2 1 fun v13=>Yv 5 5 [] [(112,Z3 [1,2])] (Z9 2 (dc 2 [5] [1,3] [b3,b1] (UA rd bs p5 [1,2] (ZL:=ob)) ?_)))))
   rintro _ _ ⟨z1,rfl,rfl,T5⟩
   have hz:=C5 (a:=1) (b:=2) T5 (by decide)
   refine Z9 6 (dc 6 [0,5] [1] [b3] (Kc rd bs (p5+1) g gb rs (f.params++[0,1]) 0 4 (ZL:=ob) (hv:=(by first|omega|(simp only [Yo,Yq,YY];omega)))) ?_)
   rintro _ _ ⟨e2,p22,rfl,rfl,TE⟩
   have Xn:=TE.1
   have Kg:=TE.2
   try rw [Yo] at Xn
   rw [hbv.2.1] at Xn
   exact Z9 8 (WE 8 [] [] [Yb e2,Yb (Z2.mk 9 i ys)] (YB [e2,Z2.mk 9 i ys]) (XV [e2,Z2.mk 9 i ys]).symm 2 3 fun v14=>Yv 2 2 [] [(119,XH [e2,Z2.mk 9 i ys])] (Z9 9 (YL 9 [] [] [] (XX z1 0 [e2,Z2.mk 9 i ys]) (Z9 10 (YX 10 4 [] [] b4 (X0 (Z2.mk z1 0 [e2,Z2.mk 9 i ys])) (de (ZJ ⟨(Z2.mk z1 0 [e2,Z2.mk 9 i ys]),p22,(GE.two (s1:=30) (s2:=10) om om Xn (GE.node (L:=f.params.length) (s:=3) (q:=10) om (fun _=>by omega) om Zw om om om) om),ob,rfl,rfl⟩ (wk [0,5,5,1,1] fl))))))))
  exact ak (ZJ ⟨(Z2.mk 9 i ys),p5,(GE.le (GE.node (L:=f.params.length) (s:=3) (q:=10) om (fun _=>by omega) om Zw om om om) om),ob,rfl,rfl⟩ (wk [0,1,1,1,1] fl))
 rintro F h ⟨eQ,p6,Jg,Fh,rfl,rfl⟩
 refine aD 16 (ZY 9 16 [0,2,3,4,5,6,7] [2,2] (dx 8 (XC gb g.funcs.length 4 i.toNat 5 i) (Zs 7 8 [9] (Uz 10 (WC 4 gb 4 4 5 (i.toNat * 5+1) (Z8 (Xu rs)) [.i f.result] 3 (.i f.result) (UL Wo hf 1 rfl (Vg rfl))) (ZY 5 6 [12] [0] (Z9 1 (YL 1 [] [0,4,2,2] [b4,gb,b1,b1] (Ql w) (Z9 11 (dc 11 [3,3] [0] [b4] (Kc rd bs p6 g gb rs f.params f.result 4 (ZL:=ob) (hv:=(by first|omega|(simp only [Yo,Yq,YY];omega)))) ?_)))))))))
 rintro _ _ ⟨e3,p23,rfl,rfl,T6⟩
 have Xn:=T6.1
 have Kg:=T6.2
 try rw [Yo] at Xn
 rw [hbv.2.1] at Xn
 exact Z9 13 (WE 13 [] [] [Yb (Z2.mk 12 w []),Yb e3,Yb eQ] (YB [Z2.mk 12 w [],e3,eQ]) (XV [Z2.mk 12 w [],e3,eQ]).symm 3 3 fun v15=>Yv 2 2 [] [(134,XH [Z2.mk 12 w [],e3,eQ])] (Z9 14 (YL 14 [] [] [] (XX 8 1 [Z2.mk 12 w [],e3,eQ]) (Z9 15 (YX 15 4 [] [] b2 (X0 (Z2.mk 8 1 [Z2.mk 12 w [],e3,eQ])) (de (ZV (r3 [2,2] [Yb (Z2.mk 8 1 [Z2.mk 12 w [],e3,eQ])] [0] [(b2,b2)] ⟨(Z2.mk 8 1 [Z2.mk 12 w [],e3,eQ]),p23,rfl,rfl,⟨GE.matchL hg (s1:=1) (s2:=30) (s3:=41) (GE.var om om om) Xn Jg om,by omega⟩⟩ (lr _)))))))))
theorem Z9z (rd:Nat) (bs:LI) (p:Nat) (g:Wb) (gb:Nat) (rs:List Func) (f:Func) (i:Int) (ZL:∀z∈bs,0<=z/\z<=255) (hp:p+1000<=1000000000:=by exact ob) (hg:GP g:=by exact ob) (Wo:g.funcs <+: rs:=by exact ob) (hi:0<=i:=by exact ob) (hf:g.funcs[i.toNat]? = some f:=by exact ob) (h0:0<f.params.length:=by exact ob):Zm 182 [.p rd 0,.agg (Ws g gb),.i i] [YF rd bs p,XW gb rs] (fun r h=>∃(e:Z2) (p2:Nat),r=Yb e/\h=[YF rd bs p2,XW gb rs]/\GE g f.params.length 200 e/\p<=p2/\p2<=p+1000):=by
 obtain ⟨hil,_⟩:=X4.1 hf
 have hgl:=hg.len
 have hso:=(hg.sigs f (Y1 hf)).bd
 have hbv:=EL
 refine ZF 96 Tryz.func182 (ar (iA (Ws g gb) fun b1=>iA [.i 0,.i 0,nl] fun b2=>ie (Zq 3 [1] (Zp (XC gb g.funcs.length 4 i.toNat 5 i) (Z0 1 (Vm (WC 3 gb 4 4 5 (i.toNat * 5+0) (Z8 (Xu rs)) [Z3 f.params] 29 (Z3 f.params) (UL Wo hf 0 rfl (Vg rfl))) (Z1 (Yc 1 (iw (Yd f.params) (Z1 (Yc 1 (Zu [] (Ql (f.params.length:Int)) (UP [Yb (Z2.mk 12 (f.params.length:Int) [])] (YB [(Z2.mk 12 (f.params.length:Int) [])]) (XV [(Z2.mk 12 (f.params.length:Int) [])]).symm 1 3 fun v1=>Z1 (Yc 1 (ia (((f.params.length+2:Nat):Int)) (((f.params.length:Int))+(2)) (Zu [] (Ql ((f.params.length+2:Nat):Int)) (UP [Yb (Z2.mk 12 ((f.params.length+2:Nat):Int) [])] (YB [(Z2.mk 12 ((f.params.length+2:Nat):Int) [])]) (XV [(Z2.mk 12 ((f.params.length+2:Nat):Int) [])]).symm 1 3 fun v2=>?_)))))))))))))))))
 refine Z1 (Y5 (ab 0 (Y3 (fun fz gz m F h=>∃(k:Nat) (ys:List Z2) (u:Value) (zs:List Z2) (w:Value),(1<=k/\k<=f.params.length)/\(ys.length=k)/\(zs.length=k)/\(∀e∈ys,GE g (f.params.length+3) 1 e)/\(∀e∈zs,GE g (f.params.length+3) 1 e)/\F=sF [0,2,4,6,7,8] fz [(9,QP ys u),(10,QP zs w),(11,.i k)]/\h=[Zh gz 2,Zh gz 3,Zh gz 4,Zh gz 5,.tail u 3,.tail w 3]/\m=f.params.length-k) _ _ _ ⟨1,[(Z2.mk 12 (f.params.length:Int) [])],v1,[(Z2.mk 12 ((f.params.length+2:Nat):Int) [])],v2,ob,ob,ob,(IH (GE.var om om om)),(IH (GE.var om om om)),rfl,rfl,rfl⟩ (wk [2,2,2,2,1,0] (fw (fc (x:=.i 1) li fl))) ?_)))
 rintro m F h ⟨k,ys,u,zs,w,Yi,Zj,Zw,YO,Wk,rfl,rfl,rfl⟩
 refine Xh (Y2 ((k:Int)<(f.params.length:Int)) (fun Zc=>?_) (fun Zc=>?_))
 ·exact ak (aq (ab 1 (Yc 2 (Zu [] (Ql (k:Int)) (UP [Yb (Z2.mk 12 (k:Int) [])] (YB [(Z2.mk 12 (k:Int) [])]) (XV [(Z2.mk 12 (k:Int) [])]).symm 1 3 fun v3=>ZU 0 [(38,XH [(Z2.mk 12 (k:Int) [])])] (ip 5 (YB (ys++[(Z2.mk 12 (k:Int) [])])) (YB ys) (YB [(Z2.mk 12 (k:Int) [])]) u none 3 (Ti _) (Ti _) (An _) (by simp<;>omega) (by simp [Am,YB]) fun v4=>Z1 (az (Z0 2 (Zu [] (Ql (k:Int)) (UP [Yb (Z2.mk 12 (k:Int) [])] (YB [(Z2.mk 12 (k:Int) [])]) (XV [(Z2.mk 12 (k:Int) [])]).symm 1 3 fun v5=>ZU 0 [(43,XH [(Z2.mk 12 (k:Int) [])])] (ip 7 (YB (zs++[(Z2.mk 12 (k:Int) [])])) (YB zs) (YB [(Z2.mk 12 (k:Int) [])]) w none 3 (Ti _) (Ti _) (An _) (by simp<;>omega) (by simp [Am,YB]) fun v6=>Z1 (az (Z0 1 (ZD k (Z1 (ZG ⟨k+1,(ys++[(Z2.mk 12 (k:Int) [])]),v4,(zs++[(Z2.mk 12 (k:Int) [])]),v6,ob,ob,ob,(XI YO (GE.var om om om)),(XI Wk (GE.var om om om)),rfl,rfl,rfl⟩ (wk [4,4,4,4,2,0] (fw (ZK k fl)))))))))))))))))))
 refine ax 0 (ar (ZU 2 [(46,XH ys)] (Zu [] (XX 9 i ys) (iA [.i 0,.i 0,nl] fun b3=>Zz 0 b3 (X0 (Z2.mk 9 i ys)) (ie (ar (ZU 2 [(49,XH zs)] (Zu [] (XX 9 i zs) (iA [.i 0,.i 0,nl] fun b4=>?_)))))))))
 refine Zz 0 b4 (X0 (Z2.mk 9 i zs)) (ie (aD 14 (ZY 9 14 [0,1,2,3,7] [1,3,0] (BJ (fun fz gz F h=>∃(e1:Z2) (p21:Nat) (b5:Nat),(GE g (f.params++[3,0,3]).length (bS 4) e1/\p<=p21/\p21<=p+bC 4)/\F=sF [0,2,4,6,7,8,12] fz [(14,.p b5 0)]/\h=[.obj b5 (X0 (Z2.mk 1 0 [Z2.mk 9 i ys,Z2.mk 1 0 [e1,Z2.mk 9 i zs]])),YF rd bs p21,Zh gz 5,Zh gz 0,Zh gz 1,Zh gz 2,Zh gz 3,Zh gz 6,Zh gz 7]) ?_ ?_))))
 ·refine Ur 4 12 ?_ ?_
  ·refine dL 4 [0,3,1] [b4,b1,b3] (Z6 [3,0,3]) 3 1 fun v7=>Yv 8 8 [] [(55,Z3 [3,0,3])] (Ur 5 12 ?_ ?_)
   ·refine dc 5 [] [0,3,1] [b4,b1,b3] (TK f.params [3,0,3]) ?_
    rintro _ _ ⟨v8,rfl,rfl⟩
    refine Yv 7 7 [] [(56,Z3 (f.params++[3,0,3]))] (Ur 6 12 ?_ ?_)
    ·refine dc 6 [6,6] [0,1] [b4,b3] (Kc rd bs p g gb rs (f.params++[3,0,3]) 0 4 (ZL:=ob) (hv:=(by first|omega|(simp only [Yo,Yq,YY];omega)))) ?_
     rintro _ _ ⟨e1,p21,rfl,rfl,Ya⟩
     have Xn:=Ya.1
     have Kg:=Ya.2
     try rw [Yo] at Xn
     rw [hbv.2.1] at Xn
     refine Ur 8 12 ?_ ?_
     ·refine WE 8 [3] [b3] [Yb e1,Yb (Z2.mk 9 i zs)] (YB [e1,Z2.mk 9 i zs]) (XV [e1,Z2.mk 9 i zs]).symm 2 3 fun v9=>Yv 5 5 [] [(59,XH [e1,Z2.mk 9 i zs])] (Ur 9 12 ?_ ?_)
      ·refine YL 9 [] [3] [b3] (XX 1 0 [e1,Z2.mk 9 i zs]) (Ur 10 12 ?_ ?_)
       ·refine WE 10 [] [] [Yb (Z2.mk 9 i ys),Yb (Z2.mk 1 0 [e1,Z2.mk 9 i zs])] (YB [Z2.mk 9 i ys,Z2.mk 1 0 [e1,Z2.mk 9 i zs]]) (XV [Z2.mk 9 i ys,Z2.mk 1 0 [e1,Z2.mk 9 i zs]]).symm 2 3 fun v10=>Yv 3 3 [] [(61,XH [Z2.mk 9 i ys,Z2.mk 1 0 [e1,Z2.mk 9 i zs]])] (Ur 11 12 ?_ ?_)
        ·exact YL 11 [] [] [] (XX 1 0 [Z2.mk 9 i ys,Z2.mk 1 0 [e1,Z2.mk 9 i zs]]) (Z9 12 (dA 12 [] [] [.i 0,.i 0,nl] fun b5=>Z9 13 (YX 13 0 [] [] b5 (X0 (Z2.mk 1 0 [Z2.mk 9 i ys,Z2.mk 1 0 [e1,Z2.mk 9 i zs]])) (de (ZJ ⟨e1,p21,b5,(by assumption),rfl,rfl⟩ (wk [0,2,2,4,4,4,4,4,4] fl))))))
        exact dA 12 [] [] [.i 0,.i 0,nl] fun b6=>Z9 11 (YL 11 [] [] [] (XX 1 0 [Z2.mk 9 i ys,Z2.mk 1 0 [e1,Z2.mk 9 i zs]]) (Z9 13 (YX 13 0 [] [] b6 (X0 (Z2.mk 1 0 [Z2.mk 9 i ys,Z2.mk 1 0 [e1,Z2.mk 9 i zs]])) (de (ZJ ⟨e1,p21,b6,(by assumption),rfl,rfl⟩ (wk [0,2,2,4,4,4,4,4,4] fl))))))
       exact dA 12 [3] [b3] [.i 0,.i 0,nl] fun b7=>Z9 10 (WE 10 [] [] [Yb (Z2.mk 9 i ys),Yb (Z2.mk 1 0 [e1,Z2.mk 9 i zs])] (YB [Z2.mk 9 i ys,Z2.mk 1 0 [e1,Z2.mk 9 i zs]]) (XV [Z2.mk 9 i ys,Z2.mk 1 0 [e1,Z2.mk 9 i zs]]).symm 2 3 fun v11=>Yv 2 2 [] [(61,XH [Z2.mk 9 i ys,Z2.mk 1 0 [e1,Z2.mk 9 i zs]])] (Z9 11 (YL 11 [] [] [] (XX 1 0 [Z2.mk 9 i ys,Z2.mk 1 0 [e1,Z2.mk 9 i zs]]) (Z9 13 (YX 13 1 [] [] b7 (X0 (Z2.mk 1 0 [Z2.mk 9 i ys,Z2.mk 1 0 [e1,Z2.mk 9 i zs]])) (de (ZJ ⟨e1,p21,b7,(by assumption),rfl,rfl⟩ (wk [0,2,2,4,4,4,4,4,4] fl))))))))
      exact dA 12 [3] [b3] [.i 0,.i 0,nl] fun b8=>Z9 9 (YL 9 [] [4] [b3] (XX 1 0 [e1,Z2.mk 9 i zs]) (Z9 10 (WE 10 [] [] [Yb (Z2.mk 9 i ys),Yb (Z2.mk 1 0 [e1,Z2.mk 9 i zs])] (YB [Z2.mk 9 i ys,Z2.mk 1 0 [e1,Z2.mk 9 i zs]]) (XV [Z2.mk 9 i ys,Z2.mk 1 0 [e1,Z2.mk 9 i zs]]).symm 2 3 fun v12=>Yv 2 2 [] [(61,XH [Z2.mk 9 i ys,Z2.mk 1 0 [e1,Z2.mk 9 i zs]])] (Z9 11 (YL 11 [] [] [] (XX 1 0 [Z2.mk 9 i ys,Z2.mk 1 0 [e1,Z2.mk 9 i zs]]) (Z9 13 (YX 13 1 [] [] b8 (X0 (Z2.mk 1 0 [Z2.mk 9 i ys,Z2.mk 1 0 [e1,Z2.mk 9 i zs]])) (de (ZJ ⟨e1,p21,b8,(by assumption),rfl,rfl⟩ (wk [0,2,2,4,4,4,4,4,4] fl))))))))))
     exact dA 12 [2,3] [b4,b3] [.i 0,.i 0,nl] fun b9=>Z9 8 (WE 8 [4] [b3] [Yb e1,Yb (Z2.mk 9 i zs)] (YB [e1,Z2.mk 9 i zs]) (XV [e1,Z2.mk 9 i zs]).symm 2 3 fun v13=>Yv 4 4 [] [(59,XH [e1,Z2.mk 9 i zs])] (Z9 9 (YL 9 [] [4] [b3] (XX 1 0 [e1,Z2.mk 9 i zs]) (Z9 10 (WE 10 [] [] [Yb (Z2.mk 9 i ys),Yb (Z2.mk 1 0 [e1,Z2.mk 9 i zs])] (YB [Z2.mk 9 i ys,Z2.mk 1 0 [e1,Z2.mk 9 i zs]]) (XV [Z2.mk 9 i ys,Z2.mk 1 0 [e1,Z2.mk 9 i zs]]).symm 2 3 fun v14=>Yv 2 2 [] [(61,XH [Z2.mk 9 i ys,Z2.mk 1 0 [e1,Z2.mk 9 i zs]])] (Z9 11 (YL 11 [] [] [] (XX 1 0 [Z2.mk 9 i ys,Z2.mk 1 0 [e1,Z2.mk 9 i zs]]) (Z9 13 (YX 13 2 [] [] b9 (X0 (Z2.mk 1 0 [Z2.mk 9 i ys,Z2.mk 1 0 [e1,Z2.mk 9 i zs]])) (de (ZJ ⟨e1,p21,b9,(by assumption),rfl,rfl⟩ (wk [0,2,2,4,4,4,4,4,4] fl))))))))))))
    refine dA 12 [0,3,1] [b4,b1,b3] [.i 0,.i 0,nl] fun b10=>Z9 6 (dc 6 [7,7] [1,2] [b4,b3] (Kc rd bs p g gb rs (f.params++[3,0,3]) 0 4 (ZL:=ob) (hv:=(by first|omega|(simp only [Yo,Yq,YY];omega)))) ?_)
    rintro _ _ ⟨e2,p22,rfl,rfl,Ys⟩
    have Xn:=Ys.1
    have Kg:=Ys.2
    try rw [Yo] at Xn
    rw [hbv.2.1] at Xn
    exact Z9 8 (WE 8 [4] [b3] [Yb e2,Yb (Z2.mk 9 i zs)] (YB [e2,Z2.mk 9 i zs]) (XV [e2,Z2.mk 9 i zs]).symm 2 3 fun v15=>Yv 4 4 [] [(59,XH [e2,Z2.mk 9 i zs])] (Z9 9 (YL 9 [] [4] [b3] (XX 1 0 [e2,Z2.mk 9 i zs]) (Z9 10 (WE 10 [] [] [Yb (Z2.mk 9 i ys),Yb (Z2.mk 1 0 [e2,Z2.mk 9 i zs])] (YB [Z2.mk 9 i ys,Z2.mk 1 0 [e2,Z2.mk 9 i zs]]) (XV [Z2.mk 9 i ys,Z2.mk 1 0 [e2,Z2.mk 9 i zs]]).symm 2 3 fun v16=>Yv 2 2 [] [(61,XH [Z2.mk 9 i ys,Z2.mk 1 0 [e2,Z2.mk 9 i zs]])] (Z9 11 (YL 11 [] [] [] (XX 1 0 [Z2.mk 9 i ys,Z2.mk 1 0 [e2,Z2.mk 9 i zs]]) (Z9 13 (YX 13 4 [] [] b10 (X0 (Z2.mk 1 0 [Z2.mk 9 i ys,Z2.mk 1 0 [e2,Z2.mk 9 i zs]])) (de (ZJ ⟨e2,p22,b10,(by assumption),rfl,rfl⟩ (wk [0,2,2,4,4,4,4,4,4] fl))))))))))))
   refine dA 12 [0,3,1] [b4,b1,b3] [.i 0,.i 0,nl] fun b11=>Z9 5 (dc 5 [] [1,4,2] [b4,b1,b3] (TK f.params [3,0,3]) ?_)
   rintro _ _ ⟨v17,rfl,rfl⟩
   refine Yv 6 6 [] [(56,Z3 (f.params++[3,0,3]))] (Z9 6 (dc 6 [7,7] [1,2] [b4,b3] (Kc rd bs p g gb rs (f.params++[3,0,3]) 0 4 (ZL:=ob) (hv:=(by first|omega|(simp only [Yo,Yq,YY];omega)))) ?_))
   rintro _ _ ⟨e3,p23,rfl,rfl,YR⟩
   have Xn:=YR.1
   have Kg:=YR.2
   try rw [Yo] at Xn
   rw [hbv.2.1] at Xn
   exact Z9 8 (WE 8 [4] [b3] [Yb e3,Yb (Z2.mk 9 i zs)] (YB [e3,Z2.mk 9 i zs]) (XV [e3,Z2.mk 9 i zs]).symm 2 3 fun v18=>Yv 4 4 [] [(59,XH [e3,Z2.mk 9 i zs])] (Z9 9 (YL 9 [] [4] [b3] (XX 1 0 [e3,Z2.mk 9 i zs]) (Z9 10 (WE 10 [] [] [Yb (Z2.mk 9 i ys),Yb (Z2.mk 1 0 [e3,Z2.mk 9 i zs])] (YB [Z2.mk 9 i ys,Z2.mk 1 0 [e3,Z2.mk 9 i zs]]) (XV [Z2.mk 9 i ys,Z2.mk 1 0 [e3,Z2.mk 9 i zs]]).symm 2 3 fun v19=>Yv 2 2 [] [(61,XH [Z2.mk 9 i ys,Z2.mk 1 0 [e3,Z2.mk 9 i zs]])] (Z9 11 (YL 11 [] [] [] (XX 1 0 [Z2.mk 9 i ys,Z2.mk 1 0 [e3,Z2.mk 9 i zs]]) (Z9 13 (YX 13 5 [] [] b11 (X0 (Z2.mk 1 0 [Z2.mk 9 i ys,Z2.mk 1 0 [e3,Z2.mk 9 i zs]])) (de (ZJ ⟨e3,p23,b11,(by assumption),rfl,rfl⟩ (wk [0,2,2,4,4,4,4,4,4] fl))))))))))))
  refine dA 12 [0,3,1] [b4,b1,b3] [.i 0,.i 0,nl] fun b12=>Z9 4 (dL 4 [1,4,2] [b4,b1,b3] (Z6 [3,0,3]) 3 1 fun v20=>Yv 7 7 [] [(55,Z3 [3,0,3])] (Z9 5 (dc 5 [] [1,4,2] [b4,b1,b3] (TK f.params [3,0,3]) ?_)))
  rintro _ _ ⟨v21,rfl,rfl⟩
  refine Yv 6 6 [] [(56,Z3 (f.params++[3,0,3]))] (Z9 6 (dc 6 [7,7] [1,2] [b4,b3] (Kc rd bs p g gb rs (f.params++[3,0,3]) 0 4 (ZL:=ob) (hv:=(by first|omega|(simp only [Yo,Yq,YY];omega)))) ?_))
  rintro _ _ ⟨e4,p24,rfl,rfl,X2⟩
  have Xn:=X2.1
  have Kg:=X2.2
  try rw [Yo] at Xn
  rw [hbv.2.1] at Xn
  exact Z9 8 (WE 8 [4] [b3] [Yb e4,Yb (Z2.mk 9 i zs)] (YB [e4,Z2.mk 9 i zs]) (XV [e4,Z2.mk 9 i zs]).symm 2 3 fun v22=>Yv 4 4 [] [(59,XH [e4,Z2.mk 9 i zs])] (Z9 9 (YL 9 [] [4] [b3] (XX 1 0 [e4,Z2.mk 9 i zs]) (Z9 10 (WE 10 [] [] [Yb (Z2.mk 9 i ys),Yb (Z2.mk 1 0 [e4,Z2.mk 9 i zs])] (YB [Z2.mk 9 i ys,Z2.mk 1 0 [e4,Z2.mk 9 i zs]]) (XV [Z2.mk 9 i ys,Z2.mk 1 0 [e4,Z2.mk 9 i zs]]).symm 2 3 fun v23=>Yv 2 2 [] [(61,XH [Z2.mk 9 i ys,Z2.mk 1 0 [e4,Z2.mk 9 i zs]])] (Z9 11 (YL 11 [] [] [] (XX 1 0 [Z2.mk 9 i ys,Z2.mk 1 0 [e4,Z2.mk 9 i zs]]) (Z9 13 (YX 13 6 [] [] b12 (X0 (Z2.mk 1 0 [Z2.mk 9 i ys,Z2.mk 1 0 [e4,Z2.mk 9 i zs]])) (de (ZJ ⟨e4,p24,b12,(by assumption),rfl,rfl⟩ (wk [0,2,2,4,4,4,4,4,4] fl))))))))))))
 rintro F h ⟨e1,p21,b5,Ya,rfl,rfl⟩
 have Xn:=Ya.1
 have Kg:=Ya.2
 try rw [Yo] at Xn
 rw [hbv.2.1] at Xn
 refine Yr 3 [6] (Zp (XC gb g.funcs.length 4 i.toNat 5 i) (Z0 1 (Vm (WC 2 gb 4 4 5 (i.toNat * 5+1) (Z8 (Xu rs)) [.i f.result] 3 (.i f.result) (UL Wo hf 1 rfl (Vg rfl))) (Z1 (Xy (fun fz gz F h=>∃(eQ:Z2) (p6:Nat),(GE g (f.params.length+3) 52 eQ)/\(p<=p6/\p6<=p+650)/\F=sF [0,2,4,6,7,14] fz []/\h=[.obj b5 (X0 eQ),YF rd bs p6,Zh gz 2,Zh gz 5,Zh gz 6]) ?_ ?_)))))
 ·refine ac (f.result==3) Zg (fun Zi=>?_) (fun Zi=>?_)
  ·refine aE 13 (ZY 8 13 [0,1,2,3,7] [4,6] (da 8 (((f.params.length+2:Nat):Int)) (((f.params.length:Int))+(2)) (Z9 4 (dL 4 [6,4] [b1,b3] (Z6 [3,0,3]) 3 1 fun v24=>Yv 6 6 [] [(74,Z3 [3,0,3])] (Z9 5 (dc 5 [] [6,4] [b1,b3] (TK f.params [3,0,3]) ?_))))))
   rintro _ _ ⟨v25,rfl,rfl⟩
   refine Yv 5 5 [] [(75,Z3 (f.params++[3,0,3]))] (Z9 6 (dc 6 [3,3] [2] [b3] (Kc rd bs p21 g gb rs (f.params++[3,0,3]) 0 4 (ZL:=ob) (hv:=(by first|omega|(simp only [Yo,Yq,YY];omega)))) ?_))
   rintro _ _ ⟨e5,p25,rfl,rfl,Xk⟩
   have Xn:=Xk.1
   have Kg:=Xk.2
   try rw [Yo] at Xn
   rw [hbv.2.1] at Xn
   exact Z9 9 (YL 9 [] [4] [b3] (Ql ((f.params.length+2:Nat):Int)) (Z9 10 (WE 10 [] [] [Yb (Z2.mk 9 i ys),Yb e5,Yb (Z2.mk 12 ((f.params.length+2:Nat):Int) [])] (YB [Z2.mk 9 i ys,e5,(Z2.mk 12 ((f.params.length+2:Nat):Int) [])]) (XV [Z2.mk 9 i ys,e5,(Z2.mk 12 ((f.params.length+2:Nat):Int) [])]).symm 3 3 fun v26=>Yv 2 2 [] [(80,XH [Z2.mk 9 i ys,e5,(Z2.mk 12 ((f.params.length+2:Nat):Int) [])])] (Z9 11 (YL 11 [] [] [] (XX 6 3 [Z2.mk 9 i ys,e5,(Z2.mk 12 ((f.params.length+2:Nat):Int) [])]) (Z9 12 (YX 12 5 [] [] b5 (X0 (Z2.mk 6 3 [Z2.mk 9 i ys,e5,(Z2.mk 12 ((f.params.length+2:Nat):Int) [])])) (de (ZJ ⟨(Z2.mk 6 3 [Z2.mk 9 i ys,e5,(Z2.mk 12 ((f.params.length+2:Nat):Int) [])]),p25,(GE.three (s1:=10) (s2:=30) (s3:=1) om om (GE.node (L:=f.params.length) (s:=1) (q:=10) om (fun _=>by omega) om YO om om om) Xn (GE.var om om om) om),ob,rfl,rfl⟩ (wk [0,1,1,5,5] fl))))))))))
  exact ak (ZJ ⟨(Z2.mk 1 0 [Z2.mk 9 i ys,Z2.mk 1 0 [e1,Z2.mk 9 i zs]]),p21,(GE.two (s1:=10) (s2:=41) om om (GE.node (L:=f.params.length) (s:=1) (q:=10) om (fun _=>by omega) om YO om om om) (GE.two (s1:=30) (s2:=10) om om Xn (GE.node (L:=f.params.length) (s:=1) (q:=10) om (fun _=>by omega) om Wk om om om) om) om),ob,rfl,rfl⟩ (wk [0,0,0,2,2] fl))
 rintro F h ⟨eQ,p6,VN,Bf,rfl,rfl⟩
 refine aD 15 (ZY 9 15 [1,2,3,4,5,6] [4,4] (dx 7 (XC gb g.funcs.length 4 i.toNat 5 i) (Zs 7 8 [8] (Uz 9 (WC 2 gb 4 4 5 (i.toNat * 5+1) (Z8 (Xu rs)) [.i f.result] 3 (.i f.result) (UL Wo hf 1 rfl (Vg rfl))) (ZY 5 6 [11] [0] (Z9 0 (YL 0 [] [0,2,4,4] [b5,gb,b1,b1] (Ql 0) (Z9 10 (dc 10 [1,1] [0] [b5] (Kc rd bs p6 g gb rs f.params f.result 4 (ZL:=ob) (hv:=(by first|omega|(simp only [Yo,Yq,YY];omega)))) ?_)))))))))
 rintro _ _ ⟨e6,p26,rfl,rfl,XU⟩
 have Xn:=XU.1
 have Kg:=XU.2
 try rw [Yo] at Xn
 rw [hbv.2.1] at Xn
 exact Z9 12 (WE 12 [] [] [Yb (Z2.mk 12 0 []),Yb e6,Yb eQ] (YB [Z2.mk 12 0 [],e6,eQ]) (XV [Z2.mk 12 0 [],e6,eQ]).symm 3 3 fun v27=>Yv 2 2 [] [(94,XH [Z2.mk 12 0 [],e6,eQ])] (Z9 13 (YL 13 [] [] [] (XX 8 3 [Z2.mk 12 0 [],e6,eQ]) (Z9 14 (YX 14 4 [] [] b2 (X0 (Z2.mk 8 3 [Z2.mk 12 0 [],e6,eQ])) (de (ZV (r3 [2,2] [Yb (Z2.mk 8 3 [Z2.mk 12 0 [],e6,eQ])] [0] [(b2,b2)] ⟨(Z2.mk 8 3 [Z2.mk 12 0 [],e6,eQ]),p26,rfl,rfl,⟨GE.matchT hg (s1:=1) (s2:=30) (s3:=52) (GE.var om om om) Xn VN om,by omega⟩⟩ (lr _)))))))))
theorem Z94 (rd:Nat) (bs:LI) (p:Nat) (g:Wb) (gb:Nat) (rs:List Func) (f:Func) (i:Int) (ZL:∀z∈bs,0<=z/\z<=255) (hp:p+1000<=1000000000:=by exact ob) (hg:GP g:=by exact ob) (Wo:g.funcs <+: rs:=by exact ob) (hi:0<=i:=by exact ob) (hf:g.funcs[i.toNat]? = some f:=by exact ob) (h0:0<f.params.length:=by exact ob):Zm 183 [.p rd 0,.agg (Ws g gb),.i i] [YF rd bs p,XW gb rs] (fun r h=>∃(e:Z2) (p2:Nat),r=Yb e/\h=[YF rd bs p2,XW gb rs]/\GE g f.params.length 200 e/\p<=p2/\p2<=p+1000):=by
 obtain ⟨hil,_⟩:=X4.1 hf
 have hgl:=hg.len
 have hso:=(hg.sigs f (Y1 hf)).bd
 have hbv:=EL
 refine ZF 75 Tryz.func183 (ar (iA (Ws g gb) fun b1=>iA [.i 0,.i 0,nl] fun b2=>ie (Zq 3 [1] (Zp (XC gb g.funcs.length 4 i.toNat 5 i) (Z0 1 (Vm (WC 3 gb 4 4 5 (i.toNat * 5+0) (Z8 (Xu rs)) [Z3 f.params] 29 (Z3 f.params) (UL Wo hf 0 rfl (Vg rfl))) (Z1 (ar (Zu [] (Ql 0) (Zu [] (B7 1) (UP [Yb (Z2.mk 12 0 []),Yb (Z2.mk 0 1 [])] (YB [Z2.mk 12 0 [],Z2.mk 0 1 []]) (XV [Z2.mk 12 0 [],Z2.mk 0 1 []]).symm 2 3 fun v1=>ZU 0 [(20,XH [Z2.mk 12 0 [],Z2.mk 0 1 []])] (Zu [] (XX 2 0 [Z2.mk 12 0 [],Z2.mk 0 1 []]) (UP [Yb (Z2.mk 2 0 [Z2.mk 12 0 [],Z2.mk 0 1 []])] (YB [Z2.mk 2 0 [Z2.mk 12 0 [],Z2.mk 0 1 []]]) (XV [Z2.mk 2 0 [Z2.mk 12 0 [],Z2.mk 0 1 []]]).symm 1 3 fun v2=>?_)))))))))))))
 refine Z1 (Y5 (ab 0 (Y3 (fun fz gz m F h=>∃(k:Nat) (ys:List Z2) (u:Value) (pq:Nat),(1<=k/\k<=f.params.length)/\(ys.length=k)/\(∀e∈ys,GE g f.params.length 4 e)/\(p<=pq/\pq<=p+30*k)/\F=sF [0,2,4,6,7] fz [(8,QP ys u),(9,.i k)]/\h=[Zh gz 2,Zh gz 3,YF rd bs pq,Zh gz 5,.tail u 3]/\m=f.params.length-k) _ _ _ ⟨1,[Z2.mk 2 0 [Z2.mk 12 0 [],Z2.mk 0 1 []]],v2,p,ob,ob,(IH (GE.two (s1:=1) (s2:=1) om om (GE.var om om om) (GE.int om om) om)),ob,rfl,rfl,rfl⟩ (wk [2,2,2,2,0] (fr (fc (x:=.i 1) li fl))) ?_)))
 rintro m F h ⟨k,ys,u,pq,Yi,Zj,Zw,YO,rfl,rfl,rfl⟩
 refine YN 2 (iw (Yd f.params) (Y2 ((k:Int)<(f.params.length:Int)) (fun Zc=>?_) (fun Zc=>?_)))
 ·refine ak (aq (ab 1 (aE 12 (ZY 6 12 [0,1,2,3,4,5] [1] ?_))))
  obtain ⟨x1,Z4⟩:=Zt f.params k om
  refine dx 6 (Zk none (k:Int) 1 (Y4 Z4)) (Zs 4 5 [7] (Z9 8 (dc 8 [2,2] [] [] (DV rd bs pq g gb rs f.params x1 (ZL:=ob)) ?_)))
  rintro _ _ ⟨e1,p21,rfl,rfl,Ya⟩
  have hle:=Ya.1
  exact Z9 9 (WE 9 [] [] [Yb e1] (YB [e1]) (XV [e1]).symm 1 3 fun v3=>Yv 2 2 [] [(38,XH [e1])] (Z9 10 (dp 10 5 [] [] (YB (ys++[e1])) (YB ys) (YB [e1]) u none 3 (Ti _) (Ti _) (An _) (by simp<;>omega) (by simp [Am,YB]) fun v4=>Zs 0 1 [11] (de (az (Z0 1 (ZD k (Z1 (ZG ⟨k+1,(ys++[e1]),v4,p21,ob,ob,(XI Zw hle),ob,rfl,rfl,rfl⟩ (wk [4,4,2,2,0] (fr (ZK k fl))))))))))))
 refine ax 0 (ar (ZU 2 [(41,XH ys)] (Zu [] (XX 9 i ys) (iA [.i 0,.i 0,nl] fun b3=>?_))))
 refine Zz 0 b3 (X0 (Z2.mk 9 i ys)) (ie (Yr 3 [2] (Zp (XC gb g.funcs.length 4 i.toNat 5 i) (Z0 1 (Vm (WC 4 gb 4 4 5 (i.toNat * 5+1) (Z8 (Xu rs)) [.i f.result] 3 (.i f.result) (UL Wo hf 1 rfl (Vg rfl))) (Z1 (Xy (fun fz gz F h=>∃(eQ:Z2) (p6:Nat),(GE g f.params.length 34 eQ)/\(p<=p6/\p6<=p+350)/\F=sF [0,2,4,6,7,10] fz []/\h=[.obj b3 (X0 eQ),Zh gz 1,Zh gz 2,YF rd bs p6,Zh gz 4]) ?_ ?_)))))))
 ·refine ac (f.result==1) Zg (fun Zi=>?_) (fun Zi=>?_)
  ·refine aE 8 (ZY 4 8 [0,1,2,4] [2,0] (Z9 3 (dc 3 [3,3] [0] [b3] (Kc rd bs pq g gb rs f.params 0 3 (ZL:=ob)) ?_)))
   rintro _ _ ⟨e2,p22,rfl,rfl,Ys⟩
   have Xn:=Ys.1
   have Kg:=Ys.2
   try rw [Yo] at Xn
   first|rw [hbv.2.1] at Xn|rw [hbv.1] at Xn
   exact Z9 5 (WE 5 [] [] [Yb e2,Yb (Z2.mk 9 i ys)] (YB [e2,Z2.mk 9 i ys]) (XV [e2,Z2.mk 9 i ys]).symm 2 3 fun v5=>Yv 2 2 [] [(55,XH [e2,Z2.mk 9 i ys])] (Z9 6 (YL 6 [] [] [] (XX 6 1 [e2,Z2.mk 9 i ys]) (Z9 7 (YX 7 3 [] [] b3 (X0 (Z2.mk 6 1 [e2,Z2.mk 9 i ys])) (de (ZJ ⟨(Z2.mk 6 1 [e2,Z2.mk 9 i ys]),p22,(GE.two (s1:=20) (s2:=13) om om Xn (GE.node (L:=f.params.length) (s:=4) (q:=13) om (fun _=>by omega) om Zw om om om) om),ob,rfl,rfl⟩ (wk [0,3,3,1,1] fl))))))))
  exact ak (ZJ ⟨(Z2.mk 9 i ys),pq,(GE.le (GE.node (L:=f.params.length) (s:=4) (q:=13) om (fun _=>by omega) om Zw om om om) om),ob,rfl,rfl⟩ (Zy 5 fl))
 rintro F h ⟨eQ,p6,VN,Bf,rfl,rfl⟩
 refine ar (Zu [] (B7 0) (Zu [] (Ql 0) (UP [Yb (Z2.mk 0 0 []),Yb (Z2.mk 12 0 [])] (YB [Z2.mk 0 0 [],Z2.mk 12 0 []]) (XV [Z2.mk 0 0 [],Z2.mk 12 0 []]).symm 2 3 fun v6=>ZU 0 [(59,XH [Z2.mk 0 0 [],Z2.mk 12 0 []])] (Zu [] (XX 4 0 [Z2.mk 0 0 [],Z2.mk 12 0 []]) (iA [.i 0,.i 0,nl] fun b4=>Zz 0 b4 (X0 (Z2.mk 4 0 [Z2.mk 0 0 [],Z2.mk 12 0 []])) (ie (aD 15 (ZY 7 15 [0,1,2,3,4,5,6,7] [0,2,4,4] (dx 8 (XC gb g.funcs.length 4 i.toNat 5 i) (Zs 5 6 [9] (Uz 10 (WC 6 gb 4 4 5 (i.toNat * 5+1) (Z8 (Xu rs)) [.i f.result] 3 (.i f.result) (UL Wo hf 1 rfl (Vg rfl))) (Z9 11 (dc 11 [5,5] [1,0] [b3,b4] (Kc rd bs p6 g gb rs f.params f.result 4 (ZL:=ob)) ?_)))))))))))))
 rintro _ _ ⟨e3,p23,rfl,rfl,YR⟩
 have Xn:=YR.1
 have Kg:=YR.2
 try rw [Yo] at Xn
 first|rw [hbv.2.1] at Xn|rw [hbv.1] at Xn
 exact Z9 12 (WE 12 [] [] [Yb (Z2.mk 4 0 [Z2.mk 0 0 [],Z2.mk 12 0 []]),Yb eQ,Yb e3] (YB [Z2.mk 4 0 [Z2.mk 0 0 [],Z2.mk 12 0 []],eQ,e3]) (XV [Z2.mk 4 0 [Z2.mk 0 0 [],Z2.mk 12 0 []],eQ,e3]).symm 3 3 fun v7=>Yv 2 2 [] [(73,XH [Z2.mk 4 0 [Z2.mk 0 0 [],Z2.mk 12 0 []],eQ,e3])] (Z9 13 (YL 13 [] [] [] (XX 7 0 [Z2.mk 4 0 [Z2.mk 0 0 [],Z2.mk 12 0 []],eQ,e3]) (Z9 14 (YX 14 6 [] [] b2 (X0 (Z2.mk 7 0 [Z2.mk 4 0 [Z2.mk 0 0 [],Z2.mk 12 0 []],eQ,e3])) (de (ZV (r3 [2,2] [Yb (Z2.mk 7 0 [Z2.mk 4 0 [Z2.mk 0 0 [],Z2.mk 12 0 []],eQ,e3])] [0] [(b2,b2)] ⟨(Z2.mk 7 0 [Z2.mk 4 0 [Z2.mk 0 0 [],Z2.mk 12 0 []],eQ,e3]),p23,rfl,rfl,⟨GE.three (s1:=3) (s2:=34) (s3:=30) om om (GE.two (s1:=1) (s2:=1) om om (GE.int om om) (GE.var om om om) om) VN Xn om,by omega⟩⟩ (lr _)))))))))
theorem Za1 (xs:LI) (t:Int) (hl:xs.length<=1000:=by exact ob):Zm 178 [Z3 xs,.i t] [] (fun r h=>∃(w:Int),r=.i w/\h=[]/\-1<=w/\w<xs.length):=by
 refine ZF 19 Tryz.func178 (Y0 (Y5 (ab 0 (Y3 (fun fz gz m F h=>∃(k:Nat),(k<=xs.length)/\F=sF [0,1] fz [(5,.i k)]/\h=gz/\m=xs.length-k) _ _ _ ⟨0,ob,rfl,rfl,rfl⟩ (wk [] (Yf fl)) ?_))))
 rintro m F h ⟨k,Yi,rfl,rfl,rfl⟩
 refine YN 2 (iw (Yd xs) (Y2 ((k:Int)<(xs.length:Int)) (fun Zc=>?_) (fun Zc=>?_)))
 ·refine ak (aq (ab 1 (Yc 2 ?_)))
  obtain ⟨x1,Z4⟩:=Zt xs k om
  refine Zp (Zk none (k:Int) 1 (Y4 Z4)) (Yx (x1==t) Zg (fun Zi=>?_) (fun Zi=>?_))
  ·exact ar (Zl (r1 [] ⟨(k:Int),rfl,rfl,ob⟩))
  exact ak (az (Z0 1 (ZD k (Z1 (ZG ⟨k+1,ob,rfl,rfl,rfl⟩ (wk [] (ZK k fl)))))))
 exact ax 0 (ar (Zl (r1 [] ⟨(-1),rfl,rfl,ob⟩)))
theorem Z8m (rd:Nat) (bs:LI) (p:Nat) (g:Wb) (gb:Nat) (rs:List Func) (f:Func) (i:Int) (ZL:∀z∈bs,0<=z/\z<=255) (hp:p+90000<=1000000000) (hg:GP g) (Wo:g.funcs <+: rs) (hi:0<=i) (hf:g.funcs[i.toNat]? = some f) (h0:i=0->f.params.length=0):Zm 151 [.p rd 0,.agg (Ws g gb),.i i] [YF rd bs p,XW gb rs] (fun r h=>∃(e:Z2) (p2:Nat),r=Yb e/\h=[YF rd bs p2,XW gb rs]/\GE g f.params.length 30 e/\p<=p2/\p2<=p+90000):=by
 obtain ⟨hil,_⟩:=X4.1 hf
 have hgl:=hg.len
 have hso:=(hg.sigs f (Y1 hf)).bd
 have hbv:=EL
 refine ZF 121 Tryz.func151 (ar (iA (Ws g gb) fun b1=>iA [.i 0,.i 0,nl] fun b2=>ie (Zq 3 [1] (Zp (XC gb g.funcs.length 4 i.toNat 5 i) (Z0 1 (Vm (WC 3 gb 4 4 5 (i.toNat * 5+0) (Z8 (Xu rs)) [Z3 f.params] 29 (Z3 f.params) (UL Wo hf 0 rfl (Vg rfl))) (Z1 (Zq 3 [1] (Zp (XC gb g.funcs.length 4 i.toNat 5 i) (Z0 1 (Vm (WC 3 gb 4 4 5 (i.toNat * 5+1) (Z8 (Xu rs)) [.i f.result] 3 (.i f.result) (UL Wo hf 1 rfl (Vg rfl))) (Z1 (Yc 1 (ic [] (Za1 f.params 1) ?_))))))))))))))
 rintro _ _ ⟨w1,rfl,rfl,Ya⟩
 have hpl:=Ya
 refine Z1 (ar (Zu [] (B7 0) (iA [.i 0,.i 0,nl] fun b3=>Zz 0 b3 (X0 (Z2.mk 0 0 [])) (ie (Yc 1 (ic [3] (W0 rd bs p 4 (ZL:=ob)) ?_))))))
 rintro _ _ ⟨k1,rfl,rfl,Ys⟩
 have qhp2:=Ys.lt om
 refine Z1 (aq (aq (Xy (fun fz gz F h=>∃(wb:Bool),(wb=true->i=0)/\F=sF [0,2,4,6,7,8,9,10,11] fz [(34,.b wb)]/\h=gz) ?_ ?_)))
 ·refine az (Z0 3 (ib (b:=(decide (k1<3))) 31 (fun Ze=>?_) (fun Ze=>?_)))
  ·have YR:k1<3:=(dq).1 Ze
   exact Z1 (ZJ ⟨(i==0),(by first|exact (fun h=>Bool.noConfusion h)|(intro h;omega)|(intro h;simp at h;omega)),rfl,rfl⟩ (Zy 5 fl))
  have X2:¬(k1<3):=Y9 dq Ze
  exact Z1 (ZJ ⟨false,(by first|exact (fun h=>Bool.noConfusion h)|(intro h;omega)|(intro h;simp at h;omega)),rfl,rfl⟩ (Zy 5 fl))
 rintro F h ⟨wb,kR6_0,rfl,rfl⟩
 refine Xy (fun fz gz F h=>∃(eQ:Z2) (p6:Nat),(GE g f.params.length 200 eQ)/\(p<=p6/\p6<=p+42000)/\F=sF [0,4,6,7,8,10] fz []/\h=[YF rd bs p6,.obj b3 (X0 eQ),Zh gz 2,Zh gz 3,Zh gz 4]) ?_ ?_
 ·refine ac wb Iff.rfl (fun Zc=>?_) (fun Zc=>?_)
  ·refine az (ZC 2 [3] (ic [0,3] (Z9q rd bs (p+1) g gb rs (ZL:=ob)) ?_))
   rintro _ _ ⟨e1,p21,rfl,rfl,Xk⟩
   have hbd:=Xk.1
   have hbp:=Xk.2
   exact Zz 2 b3 (X0 e1) (ie (ZJ ⟨e1,p21,(by rw [h0 (kR6_0 (by assumption))];exact hbd),ob,rfl,rfl⟩ (wk [1,0,1,1,0] fl)))
  refine aq (Xy (fun fz gz F h=>∃(wb:Bool),(wb=true->0<=w1)/\F=sF [0,2,4,6,7,8,9,10,11] fz [(51,.b wb)]/\h=gz) ?_ ?_)
  ·refine az (Z0 3 (ib (b:=(decide (k1<3))) 40 (fun ZE=>?_) (fun ZE=>?_)))
   ·have XU:k1<3:=(dq).1 ZE
    refine Z0 4 (ib (b:=(decide (w1>=0))) 44 (fun Ym=>?_) (fun Ym=>?_))
    ·have Wi:w1>=0:=(dq).1 Ym
     refine Z0 3 (ib (b:=(f.result==0)) 47 (fun X7=>?_) (fun X7=>?_))
     ·have V6:f.result=0:=(Zg).1 X7
      exact Z1 (ZJ ⟨true,(by first|exact (fun h=>Bool.noConfusion h)|(intro h;omega)|(intro h;simp at h;omega)),rfl,rfl⟩ (Zy 5 fl))
     have VD:¬(f.result=0):=Y9 Zg X7
     exact Z1 (ZJ ⟨(f.result==1),(by first|exact (fun h=>Bool.noConfusion h)|(intro h;omega)|(intro h;simp at h;omega)),rfl,rfl⟩ (Zy 5 fl))
    have T5:¬(w1>=0):=Y9 dq Ym
    exact Z1 (ZJ ⟨false,(by first|exact (fun h=>Bool.noConfusion h)|(intro h;omega)|(intro h;simp at h;omega)),rfl,rfl⟩ (Zy 5 fl))
   have TE:¬(k1<3):=Y9 dq ZE
   exact Z1 (ZJ ⟨false,(by first|exact (fun h=>Bool.noConfusion h)|(intro h;omega)|(intro h;simp at h;omega)),rfl,rfl⟩ (Zy 5 fl))
  rintro F h ⟨wb,kR8_0,rfl,rfl⟩
  refine ac wb Iff.rfl (fun Zi=>?_) (fun Zi=>?_)
  ·refine az (ZC 4 [3] (ic [0,3] (Z9y rd bs (p+1) g gb rs _ i w1 (ZL:=ob) (hw:=(by have:=kR8_0 (by assumption);omega))) ?_))
   rintro _ _ ⟨e2,p22,rfl,rfl,T6⟩
   have hbd:=T6.1
   have hbp:=T6.2
   exact Zz 2 b3 (X0 e2) (ie (ZJ ⟨e2,p22,(GE.le hbd om),ob,rfl,rfl⟩ (wk [1,0,1,1,0] fl)))
  refine aq (Xy (fun fz gz F h=>∃(wb:Bool),(wb=true->0<f.params.length)/\F=sF [0,2,4,6,7,8,10,11] fz [(77,.b wb)]/\h=gz) ?_ ?_)
  ·refine az (Z0 3 (ib (b:=(decide (k1<3))) 59 (fun XY=>?_) (fun XY=>?_)))
   ·have QM:k1<3:=(dq).1 XY
    refine Z0 1 (iw (Yd f.params) (Z0 3 (ib (b:=(decide ((f.params.length:Int)>0))) 64 (fun W9=>?_) (fun W9=>?_))))
    ·have Qo:(f.params.length:Int)>0:=(dq).1 W9
     refine Z0 1 ?_
     obtain ⟨x1,Z4⟩:=Zt f.params 0 om
     refine Zp (Zk none 0 1 (Y4 Z4)) (Z0 4 (ib (b:=(x1==3)) 70 (fun WO=>?_) (fun WO=>?_)))
     ·have JL:x1=3:=(Zg).1 WO
      refine Z0 3 (ib (b:=(f.result==0)) 73 (fun Vt=>?_) (fun Vt=>?_))
      ·have JM:f.result=0:=(Zg).1 Vt
       exact Z1 (ZJ ⟨true,(by first|exact (fun h=>Bool.noConfusion h)|(intro h;omega)|(intro h;simp at h;omega)),rfl,rfl⟩ (Zy 5 fl))
      have D3:¬(f.result=0):=Y9 Zg Vt
      exact Z1 (ZJ ⟨(f.result==3),(by first|exact (fun h=>Bool.noConfusion h)|(intro h;omega)|(intro h;simp at h;omega)),rfl,rfl⟩ (Zy 5 fl))
     have Bc:¬(x1=3):=Y9 Zg WO
     exact Z1 (ZJ ⟨false,(by first|exact (fun h=>Bool.noConfusion h)|(intro h;omega)|(intro h;simp at h;omega)),rfl,rfl⟩ (Zy 5 fl))
    have LT:¬((f.params.length:Int)>0):=Y9 dq W9
    exact Z1 (ZJ ⟨false,(by first|exact (fun h=>Bool.noConfusion h)|(intro h;omega)|(intro h;simp at h;omega)),rfl,rfl⟩ (Zy 5 fl))
   have LU:¬(k1<3):=Y9 dq XY
   exact Z1 (ZJ ⟨false,(by first|exact (fun h=>Bool.noConfusion h)|(intro h;omega)|(intro h;simp at h;omega)),rfl,rfl⟩ (Zy 5 fl))
  rintro F h ⟨wb,kR10_0,rfl,rfl⟩
  refine ac wb Iff.rfl (fun ZB=>?_) (fun ZB=>?_)
  ·refine az (ZC 3 [3] (ic [0,3] (Z9z rd bs (p+1) g gb rs _ i (ZL:=ob) (h0:=(kR10_0 (by assumption)))) ?_))
   rintro _ _ ⟨e3,p23,rfl,rfl,H8⟩
   have hbd:=H8.1
   have hbp:=H8.2
   exact Zz 2 b3 (X0 e3) (ie (ZJ ⟨e3,p23,(GE.le hbd om),ob,rfl,rfl⟩ (wk [1,0,1,1,0] fl)))
  refine aq (Xy (fun fz gz F h=>∃(wb:Bool),(wb=true->0<f.params.length)/\F=sF [0,2,4,6,7,8,10] fz [(102,.b wb)]/\h=gz) ?_ ?_)
  ·refine az (Z0 3 (ib (b:=(decide (k1<3))) 84 (fun Vb=>?_) (fun Vb=>?_)))
   ·have PD:k1<3:=(dq).1 Vb
    refine Z0 1 (iw (Yd f.params) (Z0 3 (ib (b:=(decide ((f.params.length:Int)>0))) 89 (fun UN=>?_) (fun UN=>?_))))
    ·have PE:(f.params.length:Int)>0:=(dq).1 UN
     refine Z0 1 ?_
     obtain ⟨x2,Zv⟩:=Zt f.params 0 om
     refine Zp (Zk none 0 1 (Y4 Zv)) (Z0 4 (ib (b:=(x2==0)) 95 (fun QJ=>?_) (fun QJ=>?_)))
     ·have PF:x2=0:=(Zg).1 QJ
      refine Z0 3 (ib (b:=(f.result==0)) 98 (fun QK=>?_) (fun QK=>?_))
      ·have PH:f.result=0:=(Zg).1 QK
       exact Z1 (ZJ ⟨true,(by first|exact (fun h=>Bool.noConfusion h)|(intro h;omega)|(intro h;simp at h;omega)),rfl,rfl⟩ (Zy 5 fl))
      have PI:¬(f.result=0):=Y9 Zg QK
      exact Z1 (ZJ ⟨(f.result==1),(by first|exact (fun h=>Bool.noConfusion h)|(intro h;omega)|(intro h;simp at h;omega)),rfl,rfl⟩ (Zy 5 fl))
     have PJ:¬(x2=0):=Y9 Zg QJ
     exact Z1 (ZJ ⟨false,(by first|exact (fun h=>Bool.noConfusion h)|(intro h;omega)|(intro h;simp at h;omega)),rfl,rfl⟩ (Zy 5 fl))
    have PK:¬((f.params.length:Int)>0):=Y9 dq UN
    exact Z1 (ZJ ⟨false,(by first|exact (fun h=>Bool.noConfusion h)|(intro h;omega)|(intro h;simp at h;omega)),rfl,rfl⟩ (Zy 5 fl))
   have PL:¬(k1<3):=Y9 dq Vb
   exact Z1 (ZJ ⟨false,(by first|exact (fun h=>Bool.noConfusion h)|(intro h;omega)|(intro h;simp at h;omega)),rfl,rfl⟩ (Zy 5 fl))
  rintro F h ⟨wb,kR12_0,rfl,rfl⟩
  refine ac wb Iff.rfl (fun Y7=>?_) (fun Y7=>?_)
  ·refine az (ZC 3 [3] (ic [0,3] (Z94 rd bs (p+1) g gb rs _ i (ZL:=ob) (h0:=(kR12_0 (by assumption)))) ?_))
   rintro _ _ ⟨e4,p24,rfl,rfl,H9⟩
   have hbd:=H9.1
   have hbp:=H9.2
   exact Zz 2 b3 (X0 e4) (ie (ZJ ⟨e4,p24,(GE.le hbd om),ob,rfl,rfl⟩ (wk [1,0,1,1,0] fl)))
  refine az (ZC 4 [3] (ic [0,3] (Pl rd bs (p+1) g gb rs f.params f.result 18 (ZL:=ob)) ?_))
  rintro _ _ ⟨e5,p25,rfl,rfl,Ha⟩
  have hbd:=Ha.1
  have hbp:=Ha.2
  exact Zz 2 b3 (X0 e5) (ie (ZJ ⟨e5,p25,(GE.le hbd om),ob,rfl,rfl⟩ (wk [1,0,1,1,0] fl)))
 rintro F h ⟨eQ,p6,Jf,M7,rfl,rfl⟩
 refine Yr 1 [1] (ic [] (Ps eQ (hz:=(by have:=Jf.2;omega))) ?_)
 rintro _ _ ⟨w2,rfl,rfl,LV⟩
 have LS:=LV
 have XS:=Jf.2
 refine Y2 (w2<0) (fun YM=>?_) (fun YM=>?_)
 ·refine Zq 4 [3] (ic [0,3] (Pl rd bs p6 g gb rs f.params f.result 12 (ZL:=ob)) ?_)
  rintro _ _ ⟨e6,p26,rfl,rfl,LX⟩
  have hbd:=LX.1
  have hbp:=LX.2
  exact Zz 3 b2 (X0 e6) (ie (ZV (r3 [1,1] [Yb e6] [0] [(b2,b2)] ⟨e6,p26,rfl,rfl,⟨hbd,by omega⟩⟩ (lr _))))
 exact ak (Zq 1 [1] (Zz 2 b2 (X0 eQ) (ie (ZV (r3 [1,3] [Yb eQ] [0] [(b2,b2)] ⟨eQ,p6,rfl,rfl,⟨⟨Jf.1,by omega⟩,by omega⟩⟩ (lr _))))))
theorem Q4 (ps:LI) (rt:Int) :Zm 150 [Z3 ps,.i rt] [] (Yw (EI (Func.mk ps rt (Z2.mk 0 0 [])))):=by
 exact ZF 8 Tryz.func150 (ar (iA [nl,.i 0,.i 0,.i 0,nl] fun b1=>ie (Yc 3 (Zz 0 b1 [Z3 ps,.i rt,.i 0,.i 0,nl] (ie (ZV (r3 [] [.agg [Z3 ps,.i rt,.i 0,.i 0,nl]] [0] [(b1,b1)] ⟨rfl,rfl⟩ (Zd.agg (.cons (Zd.sl _ (Yg Z6 ob)) (.cons li (.cons li (.cons li (.cons (Zd.sl _ rfl) .nil)))))))))))))
theorem Z9x (rd:Nat) (bs:LI) (p:Nat) (xs:LI) (ZL:∀z∈bs,0<=z/\z<=255) (hp:p+1<=1000000000:=by exact ob) (hx:0<xs.length/\xs.length<=1000000:=by exact ob) (hy:xs.all (fun x=>decide (0<=x))=true:=by exact ob):Zm 55 [.p rd 0,Z3 xs] [YF rd bs p] (fun r h=>∃(nn:Nat),r=.i nn/\h=[.obj rd [Um bs,.i (p+1:Nat)]]/\(nn:Int)∈xs):=(UA rd bs p xs ZL hp hx).mono fun r h ⟨z,hr,hh,hz⟩=>by
  have h0:0<=z:=of_decide_eq_true (AG.1 hy z hz)
  exact ⟨z.toNat,by rw [hr,Int.toNat_of_nonneg h0],hh,by rw [Int.toNat_of_nonneg h0];exact hz⟩
theorem Z8n (rd:Nat) (bs:LI) (p:Nat) (g:Wb) (gb:Nat) (rs:List Func) (f:Func) (i:Int) (nl:Nat) (ZL:∀z∈bs,0<=z/\z<=255) (hp:p+90000<=1000000000:=by exact ob) (hg:GP g:=by exact ob) (Wo:g.funcs <+: rs:=by exact ob) (hi:0<=i:=by exact ob) (hf:g.funcs[i.toNat]? = some f:=by exact ob) (h0:i=0->f.params.length=0:=by exact ob) (hn:g.funcs.length=nl:=by exact ob):Zm 151 [.p rd 0,.agg [Y6 g.decls,.ms gb 0 nl 4],.i i] [YF rd bs p,XW gb rs] (fun r h=>∃(e:Z2) (p2:Nat),r=Yb e/\h=[YF rd bs p2,XW gb rs]/\GE g f.params.length 30 e/\p<=p2/\p2<=p+90000):=(by subst hn;exact Z8m rd bs p g gb rs f i ZL hp hg Wo hi hf h0)
theorem Z9c (rd:Nat) (bs:LI) (p:Nat) (ZL:∀z∈bs,0<=z/\z<=255) (hp:p+400000<=1000000000):Zm 137 [.p rd 0] [YF rd bs p] (fun r h=>∃(rs:List Func) (ds:List Zf) (m:Nat) (gb:Nat) (p2:Nat),r=.agg [Y6 ds,.ms gb 0 m 4]/\h=[XW gb rs,YF rd bs p2]/\(GL ds m 0 rs/\GD ds/\1<=m/\m<=4)/\p<=p2/\p2<=p+400000):=by
 refine ZF 110 Tryz.func137 (ar (iA [nl,nl] fun b1=>ie (Yc 1 (ic [1] (Z99 rd bs p (ZL:=ob)) ?_))))
 rintro _ _ ⟨ds1,v1,rfl,rfl,Ya⟩
 have hgd:=Ya
 refine Z0 1 (iA [nl,nl] fun b2=>Zz 0 b2 [KQ ds1 v1,nl] (ie (ar (iL (Z6 [1]) 1 1 fun v2=>ZU 0 [(13,Z3 [1])] (Zu [] (Q4 [1] 0) (iL (Z6 [1,1]) 2 1 fun v3=>ZU 0 [(15,Z3 [1,1])] (Zu [] (Q4 [1,1] 1) (iL (Z6 [1]) 1 1 fun v4=>ZU 0 [(17,Z3 [1])] (Zu [] (Q4 [1] 1) (iL (Z6 [1,0]) 2 1 fun v5=>ZU 0 [(19,Z3 [1,0])] (Zu [] (Q4 [1,0] 1) (iL (Z6 [2,1]) 2 1 fun v6=>ZU 0 [(21,Z3 [2,1])] (Zu [] (Q4 [2,1] 1) (iL (Z6 [1,1]) 2 1 fun v7=>ZU 0 [(23,Z3 [1,1])] (Zu [] (Q4 [1,1] 0) (iL (Xu [Func.mk [1] 0 (Z2.mk 0 0 []),Func.mk [1,1] 1 (Z2.mk 0 0 []),Func.mk [1] 1 (Z2.mk 0 0 []),Func.mk [1,0] 1 (Z2.mk 0 0 []),Func.mk [2,1] 1 (Z2.mk 0 0 []),Func.mk [1,1] 0 (Z2.mk 0 0 [])]) 6 5 fun v8=>Z1 (ar (iL (Z6 [3]) 1 1 fun v9=>ZU 0 [(26,Z3 [3])] (Zu [] (Q4 [3] 0) (iL (Z6 [0]) 1 1 fun v10=>ZU 0 [(28,Z3 [0])] (Zu [] (Q4 [0] 1) (iL (Z6 [0,1]) 2 1 fun v11=>ZU 0 [(30,Z3 [0,1])] (Zu [] (Q4 [0,1] 1) (iL (Z6 [3,0]) 2 1 fun v12=>ZU 0 [(32,Z3 [3,0])] (Zu [] (Q4 [3,0] 3) (iL (Z6 [3]) 1 1 fun v13=>ZU 0 [(34,Z3 [3])] (Zu [] (Q4 [3] 1) (iL (Z6 [1,3,0]) 3 1 fun v14=>ZU 0 [(36,Z3 [1,3,0])] (Zu [] (Q4 [1,3,0] 0) (iL (Xu [Func.mk [3] 0 (Z2.mk 0 0 []),Func.mk [0] 1 (Z2.mk 0 0 []),Func.mk [0,1] 1 (Z2.mk 0 0 []),Func.mk [3,0] 3 (Z2.mk 0 0 []),Func.mk [3] 1 (Z2.mk 0 0 []),Func.mk [1,3,0] 0 (Z2.mk 0 0 [])]) 6 5 fun v15=>Z1 (ar (iL (Z6 [0]) 1 1 fun v16=>ZU 0 [(39,Z3 [0])] (Zu [] (Q4 [0] 0) (iL (Z6 [0,0]) 2 1 fun v17=>ZU 0 [(41,Z3 [0,0])] (Zu [] (Q4 [0,0] 0) (iL (Z6 [1,0]) 2 1 fun v18=>ZU 0 [(43,Z3 [1,0])] (Zu [] (Q4 [1,0] 0) (iL (Z6 [0]) 1 1 fun v19=>ZU 0 [(45,Z3 [0])] (Zu [] (Q4 [0] 1) (iL (Xu [Func.mk [0] 0 (Z2.mk 0 0 []),Func.mk [0,0] 0 (Z2.mk 0 0 []),Func.mk [1,0] 0 (Z2.mk 0 0 []),Func.mk [0] 1 (Z2.mk 0 0 [])]) 4 5 fun v20=>Z1 (aD 26 (Zs 23 26 [2,3,4] (dn 5 (.i (([Func.mk [1] 0 (Z2.mk 0 0 []),Func.mk [1,1] 1 (Z2.mk 0 0 []),Func.mk [1] 1 (Z2.mk 0 0 []),Func.mk [1,0] 1 (Z2.mk 0 0 []),Func.mk [2,1] 1 (Z2.mk 0 0 []),Func.mk [1,1] 0 (Z2.mk 0 0 [])].length:Nat):Int)) (.i (((Xu [Func.mk [1] 0 (Z2.mk 0 0 []),Func.mk [1,1] 1 (Z2.mk 0 0 []),Func.mk [1] 1 (Z2.mk 0 0 []),Func.mk [1,0] 1 (Z2.mk 0 0 []),Func.mk [2,1] 1 (Z2.mk 0 0 []),Func.mk [1,1] 0 (Z2.mk 0 0 [])]).length:Nat):Int)) (li (by rw [DH])) (Zs 19 22 [9,10,11] (dn 12 (.i (([Func.mk [3] 0 (Z2.mk 0 0 []),Func.mk [0] 1 (Z2.mk 0 0 []),Func.mk [0,1] 1 (Z2.mk 0 0 []),Func.mk [3,0] 3 (Z2.mk 0 0 []),Func.mk [3] 1 (Z2.mk 0 0 []),Func.mk [1,3,0] 0 (Z2.mk 0 0 [])].length:Nat):Int)) (.i (((Xu [Func.mk [3] 0 (Z2.mk 0 0 []),Func.mk [0] 1 (Z2.mk 0 0 []),Func.mk [0,1] 1 (Z2.mk 0 0 []),Func.mk [3,0] 3 (Z2.mk 0 0 []),Func.mk [3] 1 (Z2.mk 0 0 []),Func.mk [1,3,0] 0 (Z2.mk 0 0 [])]).length:Nat):Int)) (li (by rw [DH])) (Zs 15 18 [16,17,18] (dn 19 (.i (([Func.mk [0] 0 (Z2.mk 0 0 []),Func.mk [0,0] 0 (Z2.mk 0 0 []),Func.mk [1,0] 0 (Z2.mk 0 0 []),Func.mk [0] 1 (Z2.mk 0 0 [])].length:Nat):Int)) (.i (((Xu [Func.mk [0] 0 (Z2.mk 0 0 []),Func.mk [0,0] 0 (Z2.mk 0 0 []),Func.mk [1,0] 0 (Z2.mk 0 0 []),Func.mk [0] 1 (Z2.mk 0 0 [])]).length:Nat):Int)) (li (by rw [DH])) (Z9 0 (dL 0 [] [] (Z6 []) 0 1 fun v21=>Yv 13 13 [] [(48,Z3 [])] (Z9 1 (YL 1 [] [] [] (Q4 [] 0) (Z9 6 (dc 6 [22] [] [] (W0 rd bs (p+1) (([Func.mk [1] 0 (Z2.mk 0 0 []),Func.mk [1,1] 1 (Z2.mk 0 0 []),Func.mk [1] 1 (Z2.mk 0 0 []),Func.mk [1,0] 1 (Z2.mk 0 0 []),Func.mk [2,1] 1 (Z2.mk 0 0 []),Func.mk [1,1] 0 (Z2.mk 0 0 [])].length:Nat):Int) (ZL:=ob)) ?_)))))))))))))))))))))))))))))))))))))))))))))))))))))
 rintro _ _ ⟨k1,rfl,rfl,Ys⟩
 have qhp2:=Ys.lt (by simp)
 simp only [Yq,YY] at qhp2
 obtain ⟨x1,Z4⟩:=Zt [Func.mk [1] 0 (Z2.mk 0 0 []),Func.mk [1,1] 1 (Z2.mk 0 0 []),Func.mk [1] 1 (Z2.mk 0 0 []),Func.mk [1,0] 1 (Z2.mk 0 0 []),Func.mk [2,1] 1 (Z2.mk 0 0 []),Func.mk [1,1] 0 (Z2.mk 0 0 [])] k1.toNat (by simp only [Yq,YY];omega)
 refine dx 7 (Zk (some v8) k1 5 (GF Z4)) (Zs 9 10 [8] (Z9 13 (dc 13 [0] [] [] (W0 rd bs ((p+1)+1) (([Func.mk [3] 0 (Z2.mk 0 0 []),Func.mk [0] 1 (Z2.mk 0 0 []),Func.mk [0,1] 1 (Z2.mk 0 0 []),Func.mk [3,0] 3 (Z2.mk 0 0 []),Func.mk [3] 1 (Z2.mk 0 0 []),Func.mk [1,3,0] 0 (Z2.mk 0 0 [])].length:Nat):Int) (ZL:=ob)) ?_)))
 rintro _ _ ⟨k2,rfl,rfl,YR⟩
 have qhp3:=YR.lt (by simp)
 simp only [Yq,YY] at qhp3
 obtain ⟨x2,Zv⟩:=Zt [Func.mk [3] 0 (Z2.mk 0 0 []),Func.mk [0] 1 (Z2.mk 0 0 []),Func.mk [0,1] 1 (Z2.mk 0 0 []),Func.mk [3,0] 3 (Z2.mk 0 0 []),Func.mk [3] 1 (Z2.mk 0 0 []),Func.mk [1,3,0] 0 (Z2.mk 0 0 [])] k2.toNat (by simp only [Yq,YY];omega)
 refine dx 14 (Zk (some v15) k2 5 (GF Zv)) (Zs 6 7 [15] (Z9 20 (dc 20 [0] [] [] (W0 rd bs (((p+1)+1)+1) (([Func.mk [0] 0 (Z2.mk 0 0 []),Func.mk [0,0] 0 (Z2.mk 0 0 []),Func.mk [1,0] 0 (Z2.mk 0 0 []),Func.mk [0] 1 (Z2.mk 0 0 [])].length:Nat):Int) (ZL:=ob)) ?_)))
 rintro _ _ ⟨k3,rfl,rfl,X2⟩
 have qhp4:=X2.lt (by simp)
 simp only [Yq,YY] at qhp4
 obtain ⟨x3,YT⟩:=Zt [Func.mk [0] 0 (Z2.mk 0 0 []),Func.mk [0,0] 0 (Z2.mk 0 0 []),Func.mk [1,0] 0 (Z2.mk 0 0 []),Func.mk [0] 1 (Z2.mk 0 0 [])] k3.toNat (by simp only [Yq,YY];omega)
 refine dx 21 (Zk (some v20) k3 5 (GF YT)) (Zs 3 4 [22] (Z9 23 (dKN 23 [] [] (Z8 (Xu [Func.mk [] 0 (Z2.mk 0 0 []),x1,x2,x3])) 4 5 fun g1=>Zs 1 2 [24] (Z9 25 (YX 25 22 [] [] b2 [KQ ds1 v1,.ms g1 0 4 4] (de (Yc 1 (iL (Z6 [4,4,3,2,4]) 5 1 fun v22=>ZU 0 [(74,Z3 [4,4,3,2,4])] (ic [3] (Z9x rd bs ((((p+1)+1)+1)+1) [4,4,3,2,4] (ZL:=ob) (hy:=(by decide))) ?_)))))))))
 rintro _ _ ⟨nn1,rfl,rfl,Xk⟩
 have hnn:=Zdp (a:=2) (b:=4) Xk (by decide)
 refine Z1 (Zq 3 [2] (Zp (Rh 3 g1 4 4 nn1 5 (Z8 (Xu [Func.mk [] 0 (Z2.mk 0 0 []),x1,x2,x3]))) (Z0 1 (Zz 2 b2 [KQ ds1 v1,.ms g1 0 nn1 4] (ie (YN 1 (ia (((nn1:Int)-1)) (((nn1:Int))-(1)) (Z1 (ab 0 (Y3 (fun fz gz m F h=>∃(j:Nat) (rq:List Func) (pq:Nat),(j<=nn1)/\(GL ds1 nn1 j rq)/\(p<=pq/\pq+90000*j<=p+10+90000*nn1)/\F=sF [0,2,3] fz [(8,.i ((j:Int)-1))]/\h=[Zh gz 0,YF rd bs pq,Zh gz 25,Zh gz 24,XW g1 rq]/\m=j+1) _ _ _ ⟨nn1,[Func.mk [] 0 (Z2.mk 0 0 []),x1,x2,x3],((((p+1)+1)+1)+1)+1,ob,(GL.start (MW Z4 (by decide)) (MW Zv (by decide)) (MW YT (by decide))),ob,rfl,rfl,rfl⟩ (wk [0,0,23,22,1] fl) ?_))))))))))
 rintro m F h ⟨j,rq,pq,Yi,Zj,Zw,rfl,rfl,rfl⟩
 refine Xh (Y2 (((j:Int)-1)>=0) (fun Zc=>?_) (fun Zc=>?_))
 ·obtain ⟨f1,hf1⟩:=Zt (rq.take nn1) (((j:Int)-1).toNat) (by rw [Zj.len_take om];omega)
  have hfq:rq[j-1]? = some f1:=by have h:=hf1;rw [show ((j:Int)-1).toNat=j-1 by omega,List.getElem?_take_of_lt om] at h;exact h
  refine ak (aq (ab 1 (ar (QS 3 [(88,.agg [Y6 ds1,.ms g1 0 nn1 4])] [0] (ic [1,3] (Z8n rd bs pq (Wb.mk ds1 (rq.take nn1)) g1 rq f1 ((j:Int)-1) nn1 (ZL:=ob) (hg:=(Zj.gp hgd om)) (Wo:=(List.take_prefix nn1 rq)) (hf:=hf1) (h0:=(fun h=>Zj.zero f1 (by rw [<-hfq,show j-1=0 by omega]))) (hn:=(Zj.len_take om))) ?_)))))
  rintro _ _ ⟨e1,p21,rfl,rfl,XU⟩
  have hbw:eW ds1 nn1 f1.params.length e1/\(e1).sz<=30:=by have h:=XU.1;unfold GE at h;rw [show (Wb.mk ds1 (rq.take nn1)).funcs.length=nn1 from Zj.len_take om] at h;exact h
  exact iA [.i 0,.i 0,nl] fun b3=>Zz 0 b3 (X0 e1) (ie (aE 19 (ZY 13 19 [0,1,2,3,4,5] [3,3] (dx 6 (XC g1 nn1 4 (((j:Int)-1).toNat) 5 ((j:Int)-1)) (Zs 11 12 [7] (Uz 8 (WC 2 g1 4 4 5 ((((j:Int)-1).toNat)*5+0) (Z8 (Xu rq)) [Z3 f1.params] 29 (Z3 f1.params) (UL (List.take_prefix nn1 rq) hf1 0 rfl (Vg rfl))) (ZY 7 10 [9,10,11] [3] (dx 12 (XC g1 nn1 4 (((j:Int)-1).toNat) 5 ((j:Int)-1)) (Zs 5 6 [13] (Uz 14 (WC 2 g1 4 4 5 ((((j:Int)-1).toNat)*5+1) (Z8 (Xu rq)) [.i f1.result] 3 (.i f1.result) (UL (List.take_prefix nn1 rq) hf1 1 rfl (Vg rfl))) (ZY 2 4 [15,16] [0] (dx 17 (XC g1 nn1 4 (((j:Int)-1).toNat) 5 ((j:Int)-1)) (Z9 18 (QE 18 2 [] [] g1 4 4 5 ((((j:Int)-1).toNat)*5) [Z3 f1.params,.i f1.result,.i e1.op,.i e1.num,XH e1.kids] (Z8 (Xu rq)) (Z8 (Xu (rq.set ((j:Int)-1).toNat ⟨f1.params,f1.result,e1⟩))) (by rw [Lz,Zj.len];simp only [Yq,YY];omega) (Z81 ⟨f1.params,f1.result,e1⟩ (by rw [Zj.len];omega)) (de (az (Z0 1 (ia ((((j:Int)-1)-1)) (((j:Int)-1)-(1)) (Z1 (ZG ⟨(j-1),(rq.set ((j:Int)-1).toNat ⟨f1.params,f1.result,e1⟩),p21,ob,(by rw [show ((j:Int)-1).toNat=j-1 by omega];exact Zj.set om hfq hbw),ob,rfl,rfl,rfl⟩ (wk [3,2,2,2,0] (fc (x:=.i (((j:Int)-1)-1)) li fl))))))))))))))))))))))
 exact ax 0 (Zq 1 [0] (Zz 2 b1 [KQ ds1 v1,.ms g1 0 nn1 4] (ie (ZV (r3 [4,2] [.agg [KQ ds1 v1,.ms g1 0 nn1 4]] [0] [(b1,b1)] ⟨rq,ds1,nn1,g1,pq,rfl,rfl,⟨⟨by rw [show j=0 by omega] at Zj;exact Zj,hgd,by omega,by omega⟩,by omega⟩⟩ (Zd.agg (.cons (Zd.forget _ _) (.cons (lr _) .nil))))))))
theorem Z9b (rd:Nat) (bs:LI) (p:Nat) (ZL:∀z∈bs,0<=z/\z<=255) (hp:p+400000<=1000000000:=by exact ob):Zm 137 [.p rd 0] [YF rd bs p] (fun r h=>∃(g:Wb) (p2:Nat),r=AQ g/\h=[YF rd bs p2]/\Iv g/\p<=p2/\p2<=p+400000):=(WK.frzP (E:=List Func × List Zf × Nat × Nat) (ds:=fun e=>e.2.1) (rs:=fun e=>e.1) (m:=fun e=>e.2.2.1) (hs:=fun e=>[.obj rd [Um bs,.i (e.2.2.2:Nat)]]) (Q:=fun e=>(GL e.2.1 e.2.2.1 0 e.1/\GD e.2.1/\1<=e.2.2.1/\e.2.2.1<=4)/\p<=e.2.2.2/\e.2.2.2<=p+400000)
  ((Z9c rd bs p ZL hp).mono fun r h ⟨rs,ds,m,gb,p2,hr,hh,hq⟩=>⟨(rs,ds,m,p2),gb,hr,hh,hq⟩) fun e hq=>⟨hq.1.2.2.2,hq.1.1.len⟩).mono
  fun r h ⟨e,hr,hh,hq⟩=>⟨⟨e.2.1,e.1.take e.2.2.1⟩,e.2.2.2,hr,hh,hq.1.1.done hq.1.2.1 hq.1.2.2,hq.2⟩
theorem LL (a:Nat) (n:Nat) (ha:a<=1000000:=by exact ob) (hn:n<=1000000:=by exact ob):Zm 71 [.i a,.i n] [] (fun r h=>∃(xs:LI),r=Z3 xs/\h=[]/\xs.length=n/\∀i∈xs,(a:Int)<=i/\i<(a:Int)+n):=by
 refine ZF 20 Tryz.func71 (Y0 (ar (iL (Z6 []) 0 1 fun v1=>?_)))
 refine Z1 (Y5 (ab 0 (Y3 (fun fz gz m F h=>∃(k:Nat) (ys:LI) (u:Value),(k<=n)/\(ys.length=k)/\(∀i∈ys,(a:Int)<=i/\i<(a:Int)+n)/\F=sF [0,1] fz [(5,ZI ys u),(6,.i k)]/\h=[.tail u 1]/\m=n-k) _ _ _ ⟨0,[],v1,ob,ob,(fun i hi=>by cases hi),rfl,rfl,rfl⟩ (wk [0] (fr (Yf fl))) ?_)))
 rintro m F h ⟨k,ys,u,Yi,Zj,Zw,rfl,rfl,rfl⟩
 refine Xh (Y2 ((k:Int)<(n:Int)) (fun Zc=>?_) (fun Zc=>?_))
 ·exact ak (aq (ab 1 (az (Z0 3 (ia (((a+k:Nat):Int)) (((a:Int))+((k:Int))) (iL (Z6 [((a+k:Nat):Int)]) 1 1 fun v2=>ZU 0 [(17,Z3 [((a+k:Nat):Int)])] (ip 1 (Z6 (ys++[((a+k:Nat):Int)])) (Z6 ys) (Z6 [((a+k:Nat):Int)]) u none 1 (YE _) (YE _) (W6 _) (by simp<;>omega) (by simp [W8,Z6]) fun v3=>Z1 (az (Z0 1 (ZD k (Z1 (ZG ⟨k+1,(ys++[((a+k:Nat):Int)]),v3,ob,ob,(XI Zw om),rfl,rfl,rfl⟩ (wk [0] (fr (ZK k fl)))))))))))))))
 exact ax 0 (ar (Zl (r2 [] [ZI ys u] ⟨ys,rfl,rfl,⟨by omega,Zw⟩⟩ (Zd.forget _ _))))
theorem Pg (l:Nat) (xs:List Z7) (w:Value) (q:Nat) (s:Z7) (hl:xs.length<=4000000000:=by exact ob) (hq:q<=1000000:=by exact ob):Zm 211 [.p l 0,X5 s] [.obj l [Xl xs w,.i q],.tail w 5] (fun r h=>∃(w2:Value),r=.i q/\h=[.obj l [Xl (xs++[s]) w2,.i (((q+1):Nat):Int)],.tail w2 5]):=by
 exact ZF 28 Tryz.func211 (ar (iA (Wf s) fun b1=>Z1 (aD 11 (ZY 5 11 [0,1,2,3,4,5] [1,0] (Z9 6 (WE 6 [1] [l] [X5 s] (ZT [s]) (Ub [s]).symm 1 5 fun v1=>Yv 4 4 [] [(11,Vw [s])] (Z9 7 (dp 7 3 [] [] (ZT (xs++[s])) (ZT xs) (ZT [s]) w none 5 (XK _) (XK _) (Us _) (by simp<;>omega) (by simp [VC,ZT]) fun v2=>Zs 1 3 [8,9] (Z9 10 (YX 10 3 [] [] l [Xl (xs++[s]) v2,.i q] (de (Zq 5 [0] (ZD q (Z0 2 (Zz 0 l [Xl (xs++[s]) v2,.i (q+1:Nat)] (ie (Zq 4 [0] (ia ((((q+1:Nat):Int)-1)) ((((q+1:Nat):Int))-(1)) (Zl (r2 [0,0] [.i (((q+1:Nat):Int)-1)] ⟨v2,rfl,rfl⟩ li))))))))))))))))))))
theorem Pr (g:Wb) (e:Z2) (us:LI) (q:Nat) (bb:Nat) (he:eW g.decls g.funcs.length us.length e:=by exact ob) (hu:∀a∈us,0<=a/\a<(q:Int)) (hul:us.length+4*e.sz<=100000:=by exact ob) (hql:q+6*e.sz<=100000:=by exact ob) (hb:e.sz<bb:=by exact ob) (ih:∀(l:Nat) (e2:Z2) (us2:LI) (xs2:List Z7) (w2:Value) (q2:Nat),(eW g.decls g.funcs.length us2.length e2)->(∀a∈us2,0<=a/\a<(q2:Int))->(us2.length+4*e2.sz<=100000)->(xs2.length+6*e2.sz<=100000)->(q2+6*e2.sz<=100000)->(e2.sz<bb)->Zm 177 [.p l 0,AQ g,Yb e2,Z3 us2] [.obj l [Xl xs2 w2,.i q2],.tail w2 5] (fun r h=>∃(ys:List Z7) (v:Int) (w2:Value),r=.i v/\h=[.obj l [Xl (xs2++ys) w2,.i (((q2+Yu ys):Nat):Int)],.tail w2 5]/\LW g.decls g.funcs.length q2 e2 ys v)):Zm 149 [AQ g,Yb e,Z3 us,.i q] [] (fun r h=>∃(b:Za),r=Yp b/\h=[]/\LB g.decls g.funcs.length q e b):=by
 refine ZF 26 Tryz.func149 (ar (iA (Mc g) fun b1=>iA (X0 e) fun b2=>iA [nl,.i 0] fun b3=>ie (ar (iL (ZT []) 0 5 fun v1=>Z0 2 (iA [Xl [] v1,.i q] fun b4=>Z1 (Zq 4 [4,3] (ic [0,0] (ih b4 e us [] v1 q he hu ob ob ob ob) ?_)))))))
 rintro _ _ ⟨ys1,v2,w21,rfl,rfl,Ya⟩
 have hlw:=Ya
 exact Z1 (Zq 6 [0] (Zz 2 b3 [Xl ([]++ys1) w21,.i v2] (ie (ZV (r3 [] [.agg [Xl ([]++ys1) w21,.i v2]] [0] [(b3,b3)] ⟨(Za.mk ([]++ys1) v2),rfl,rfl,(by rw [Co];exact hlw.block)⟩ (Zd.agg (.cons (Zd.forget _ _) (.cons (lr _) .nil))))))))
theorem Z9p (l:Nat) (g:Wb) (e:Z2) (us:LI) (xs:List Z7) (w:Value) (q:Nat) (hd:GD g.decls) (he:eW g.decls g.funcs.length us.length e) (hu:∀a∈us,0<=a/\a<(q:Int)) (hul:us.length+4*e.sz<=100000) (hxl:xs.length+6*e.sz<=100000) (hql:q+6*e.sz<=100000) (ih:∀(l:Nat) (e2:Z2) (us2:LI) (xs2:List Z7) (w2:Value) (q2:Nat),(eW g.decls g.funcs.length us2.length e2)->(∀a∈us2,0<=a/\a<(q2:Int))->(us2.length+4*e2.sz<=100000)->(xs2.length+6*e2.sz<=100000)->(q2+6*e2.sz<=100000)->(e2.sz<e.sz)->Zm 177 [.p l 0,AQ g,Yb e2,Z3 us2] [.obj l [Xl xs2 w2,.i q2],.tail w2 5] (fun r h=>∃(ys:List Z7) (v:Int) (w2:Value),r=.i v/\h=[.obj l [Xl (xs2++ys) w2,.i (((q2+Yu ys):Nat):Int)],.tail w2 5]/\LW g.decls g.funcs.length q2 e2 ys v)):Zm 177 [.p l 0,AQ g,Yb e,Z3 us] [.obj l [Xl xs w,.i q],.tail w 5] (fun r h=>∃(ys:List Z7) (v:Int) (w2:Value),r=.i v/\h=[.obj l [Xl (xs++ys) w2,.i (((q+Yu ys):Nat):Int)],.tail w2 5]/\LW g.decls g.funcs.length q e ys v):=by
 have Xr:=hd.ok
 obtain ⟨ho,h12,h13,h7,h8,h9,hnum,hkl,hks⟩:=(Z6j e).1 he
 have hez:=e.sz_eq
 refine ZF 148 Tryz.func177 (ar (iA (Mc g) fun b1=>iA (X0 e) fun b2=>Z1 (Xh (WQ [0] (ab 0 (ar (Yx (e.op==12) Zg (fun Zc=>?_) (fun Zc=>?_))))))))
 ·refine Zq 3 [0] ?_
  obtain ⟨x1,Z4⟩:=Zt us e.num.toNat (by have:=h12 om;omega)
  have huv:=hu _ (Y1 Z4)
  exact Zp (Zk none e.num 1 (Y4 Z4)) (Zl (r1 [2,2] ⟨[],x1,w,rfl,rfl,(LW.var huv)⟩ (eq:=(ro (ls:=[Xl xs w,.i q]) (by simp [Yu]) (rc rz)))))
 refine ar (Yx (e.op==13) Zg (fun Zi=>?_) (fun Zi=>?_))
 ·refine aD 9 (ZY 5 9 [0,1,2,3] [1,0] ?_)
  obtain ⟨x2,Zv⟩:=Zt e.kids 0 (by have:=h13 om;omega)
  have hekx2:=DM hks Zv
  have hszx2:=CQ Zv
  have htzx2:=BN Zv
  rw [Wh] at hekx2
  rw [Z0t om] at hekx2
  refine dx 4 (Zk none 0 3 (DG Zv)) (Zs 2 4 [5,6] (Z9 7 (dc 7 [2,2] [] [] (ih l x2 us xs w q (by first|assumption|(rw [Yo];assumption)) (by first|assumption|exact G4 hu hlwhp1.v|exact Im hu) (by first|omega|(simp only [Yo,Yq,YY];omega)) (by first|omega|(simp only [Yo,Yq,YY];omega)) ob ob) ?_)))
  rintro _ _ ⟨ys1,v1,w21,rfl,rfl,Ya⟩
  have hlwhp1:=Ya
  have hldhp1:=Ya.dn
  refine Zs 0 1 [8] (de (aD 12 (ZY 8 12 [0,1,2,3] [3,2] ?_)))
  obtain ⟨x3,YT⟩:=Zt e.kids 1 (by have:=h13 om;omega)
  have hz2:=OC Zv YT
  have hz3:=x2.sz_eq
  have hekx3:=DM hks YT
  have hszx3:=CQ YT
  have htzx3:=BN YT
  rw [Wh] at hekx3
  rw [Z0t om] at hekx3
  refine dx 4 (Zk none 1 3 (DG YT)) (Zs 4 7 [5,6,7] (Z9 8 (dL 8 [1,2] [b2,b1] (Z6 [v1]) 1 1 fun v2=>Yv 3 3 [] [(45,Z3 [v1])] (Z9 9 (dc 9 [] [1,2] [b2,b1] (TK us [v1]) ?_)))))
  rintro _ _ ⟨v3,rfl,rfl⟩
  refine Yv 2 2 [] [(46,Z3 (us++[v1]))] (Z9 10 (dc 10 [2,2] [] [] (ih l x3 (us++[v1]) (xs++ys1) w21 (q+Yu ys1) (by first|assumption|(rw [Yo];assumption)) (by first|assumption|exact G4 hu hlwhp1.v|exact Im hu) (by first|omega|(simp only [Yo,Yq,YY];omega)) (by first|omega|(simp only [Yo,Yq,YY];omega)) ob ob) ?_))
  rintro _ _ ⟨ys2,v4,w22,rfl,rfl,Ys⟩
  have hlwhp2:=Ys
  have hldhp2:=Ys.dn
  exact Zs 0 1 [11] (de (ZV (r1 [0,0] ⟨(ys1++ys2),v4,w22,rfl,rfl,(LW.let_ hlwhp1 hlwhp2 (by have:=OC Zv YT;omega))⟩ (eq:=(ro (ls:=[Xl ((xs++ys1)++ys2) w22,.i ((((q+Yu ys1)+Yu ys2):Nat):Int)]) (by rw [Th,<-A5,Vf]) (rc rz))))))
 refine Y5 (Xy (fun fz gz F h=>F=sF [0,3,5,6] fz [(48,.b ((e.op==7)||(e.op==8)))]/\h=gz) ?_ ?_)
 ·refine ac (e.op==7) Zg (fun ZB=>?_) (fun ZB=>?_)
  ·exact ak (ZJ ⟨rfl,rfl⟩ (Zy 4 (fc (x:=.b (e.op==7)) (lb (by first|rfl|(rw [Zb ZB])|(rw [Z5 ZB])|(simp [ZB];done)|(rw [Ye];simp [ZB];done)|omega)) fl)))
  exact Vk (ZJ ⟨rfl,rfl⟩ (Zy 4 (fc (x:=.b (e.op==8)) (lb (by first|rfl|(rw [Zb ZB])|(rw [Z5 ZB])|(simp [ZB];done)|(rw [Ye];simp [ZB];done)|omega)) fl)))
 rintro F h ⟨rfl,rfl⟩
 refine ac ((e.op==7)||(e.op==8)) (p:=(e.op=7)∨(e.op=8)) (ZZ Zg Zg) (fun Y7=>?_) (fun Y7=>?_)
 ·refine aD 9 (ZY 5 9 [0,1,2,3] [1,0] ?_)
  obtain ⟨x4,Ul⟩:=Zt e.kids 0 om
  have hekx4:=DM hks Ul
  have hszx4:=CQ Ul
  have htzx4:=BN Ul
  rw [Wh] at hekx4
  rw [Zg6 om] at hekx4
  refine dx 4 (Zk none 0 3 (DG Ul)) (Zs 2 4 [5,6] (Z9 7 (dc 7 [2,2] [] [] (ih l x4 us xs w q (by first|assumption|(rw [Yo];assumption)) (by first|assumption|exact G4 hu hlwhp1.v|exact Im hu) (by first|omega|(simp only [Yo,Yq,YY];omega)) (by first|omega|(simp only [Yo,Yq,YY];omega)) ob ob) ?_)))
  rintro _ _ ⟨ys3,v5,w23,rfl,rfl,YR⟩
  have hlwhp3:=YR
  have hldhp3:=YR.dn
  refine Zs 0 1 [8] (de (ar (iL (XT []) 0 2 fun v6=>Z1 (Zq 4 [4,3] (ic [] (Jp g.decls e.num) ?_)))))
  rintro _ _ ⟨v7,rfl,rfl⟩
  refine Z1 (Y5 (ab 1 (Y3 (fun fz gz m F h=>∃(k:Nat) (cs:List Za) (u:Value),(1<=k/\k<=e.kids.length)/\(cs.length+1=k)/\(Uc g.decls g.funcs.length (V0 g.decls e.op e.num (q+Yu ys3)) 0 cs)/\(YU cs+6*x4.sz<=cs.length+6*XG (e.kids.take k))/\(Kl WS cs)/\F=sF [0,3,5,6,10] fz [(11,Qv cs u),(12,Z3 (ZX g.decls e.num)),(13,.i k)]/\h=[Zh gz 2,Zh gz 4,Zh gz 5,.tail u 2,Zh gz 3]/\m=e.kids.length-k) _ _ _ ⟨1,[],v6,ob,ob,True.intro,(by have h:XG (e.kids.take 1)=XG (e.kids.take 0)+x4.sz:=BN Ul;simp only [YU,YY];omega),True.intro,rfl,rfl,rfl⟩ (wk [2,3,3,1,1] (fr (fc (x:=ZI (ZX g.decls e.num) v7) (Zd.forget _ _) (fc (x:=.i 1) li fl)))) ?_)))
  rintro m F h ⟨k,cs,u,Yi,Zj,Zw,YO,Wk,rfl,rfl,rfl⟩
  refine Yr 3 [1] (iw (Lh e.kids) (Y2 ((k:Int)<(e.kids.length:Int)) (fun YM=>?_) (fun YM=>?_)))
  ·refine ak (aq (ab 2 (Y0 (Xh (WQ [1] (Xy (fun fz gz F h=>∃(mf:Nat),(V0 g.decls e.op e.num (q+Yu ys3) cs.length=(q+Yu ys3)+mf)/\(mf<=3)/\(Q9 g.decls e.op e.num us.length k=us.length+mf)/\F=sF [0,3,5,6,10,11,12,13] fz [(14,.i mf)]/\h=gz) ?_ ?_))))))
   ·refine ac (e.op==8) Zg (fun YZ=>?_) (fun YZ=>?_)
    ·refine aE 10 (ZY 6 10 [0,1,2,3] [2] (da 4 (((k-1:Nat):Int)) (((k:Int))-(1)) ?_))
     obtain ⟨x5,TF⟩:=Zt (ZX g.decls e.num) (k-1) (by have:=h8 om;omega)
     exact dx 5 (Zk none ((k-1:Nat):Int) 1 (Y4 TF)) (Zs 3 4 [6] (Z9 7 (YL 7 [] [] [] (Qx g.decls x5) (dn 8 (.i (((ZP g.decls x5).length:Nat):Int)) (.i (((Z6 (ZP g.decls x5)).length:Nat):Int)) (li (by rw [Yd])) (Zs 0 1 [9] (de (ZJ ⟨(ZP g.decls x5).length,(MT om (by rw [show cs.length=k-1 by omega];exact TF)),(by have:=Vr Xr x5;omega),(Zg7 om (show k=(k-1)+1 by omega) TF),rfl,rfl⟩ (Zy 5 (fc (x:=.i (((ZP g.decls x5).length:Nat):Int)) (li (by first|rfl|(rw [Zb YZ])|(rw [Z5 YZ])|(simp [YZ];done)|(rw [Ye];simp [YZ];done)|omega)) fl)))))))))
    exact ak (ZJ ⟨0,(MU om),om,(Z0u om),rfl,rfl⟩ (Zy 5 (fc (x:=.i 0) (li (by first|rfl|(rw [Zb YZ])|(rw [Z5 YZ])|(simp [YZ];done)|(rw [Ye];simp [YZ];done)|omega)) fl)))
   rintro F h ⟨mf,Zbz,Zk7,Zc0,rfl,rfl⟩
   refine aE 25 (ZY 20 25 [0,1,2,3,4] [2,1] ?_)
   obtain ⟨x6,D4⟩:=Zt e.kids k om
   have hekx6:=DM hks D4
   have hszx6:=CQ D4
   have htzx6:=BN D4
   rw [Wh] at hekx6
   rw [Zc0] at hekx6
   have htk:=B4 (xs:=e.kids) (k+1)
   have hbl:=Gq cs
   refine dx 5 (Zk none (k:Int) 3 (DG D4)) (ZY 7 19 [6,7,8,9,10,11,12,15,16,17,18,19] [0,0] (da 20 ((((q+Yu ys3)+mf:Nat):Int)) (((((q+Yu ys3):Nat):Int))+((mf:Int))) (Z9 13 (dc 13 [] [0,1,2] [l,b2,b1] (LL (q+Yu ys3) mf) ?_))))
   rintro _ _ ⟨xs1,rfl,rfl,X2⟩
   have hnx:=X2
   refine Z9 14 (dc 14 [] [0,1,2] [l,b2,b1] (TK us xs1) ?_)
   rintro _ _ ⟨v8,rfl,rfl⟩
   refine Yv 4 4 [] [(98,Z3 (us++xs1))] (Z9 21 (dc 21 [] [] [] (Pr g x6 (us++xs1) ((q+Yu ys3)+mf) e.sz (he:=(by rw [Yo,hnx.1];exact hekx6)) (hu:=(Zj6 hu hnx.2)) (hul:=(by rw [Yo,hnx.1];omega)) (hql:=om) (ih:=ih)) ?_))
   rintro _ _ ⟨b3,rfl,rfl,Xk⟩
   have hlb:=Xk
   exact Z9 22 (WE 22 [] [] [Yp b3] (XT [b3]) (K8 [b3]).symm 1 2 fun v9=>Yv 2 2 [] [(106,JT [b3])] (Z9 23 (dp 23 5 [] [] (XT (cs++[b3])) (XT cs) (XT [b3]) u none 2 (J8 _) (J8 _) (GC _) (by simp<;>omega) (by simp [CK,XT]) fun v10=>Zs 0 1 [24] (de (az (Z0 1 (ZD k (Z1 (ZG ⟨k+1,(cs++[b3]),v10,ob,ob,(OF Zw (by rw [Zbz];exact hlb.1)),(by have:=hlb.2;rw [Gp,Yo];simp only [YU,Yq,YY];omega),(S1 Wk hlb.op),rfl,rfl,rfl⟩ (wk [3,3,3,0,2] (fw (ZK k fl))))))))))))
  refine ax 1 (Zq 6 [1,1] (iL (Z6 [v5]) 1 1 fun v11=>ZU 2 [(116,.agg [.i e.op,.i e.num,.i 0,Z3 [v5],JT cs])] (ic [1,4] (Pg l (xs++ys3) w23 (q+Yu ys3) (Z7.mk e.op e.num 0 [v5] cs) (hl:=(by first|(have h1:=Jr zs;have h2:=B4 (xs:=e.kids) k;have h3:=AY zs;(try simp only [Yo]);omega)|((try simp only [Yo]);omega))) (hq:=(by first|(have h1:=Jr zs;have h2:=B4 (xs:=e.kids) k;have h3:=AY zs;(try simp only [Yo]);omega)|((try simp only [Yo]);omega)))) ?_)))
  rintro _ _ ⟨w24,rfl,rfl⟩
  refine Z1 ?_
  have hcb:YP e.op=false:=by simp [YP];omega
  exact ZV (r1 [0,0] ⟨(ys3++[Z7.mk e.op e.num 0 [v5] cs]),(((q+Yu ys3):Nat):Int),w24,rfl,rfl,(LW.branch (s0:=x4.sz) (sr:=XG (e.kids.take k)-x4.sz) om (fun h=>by have:=h7 h;omega) (fun h=>by have:=h8 h;omega) hnum hlwhp3.fs hlwhp3.v Zw om hlwhp3.sz (by have:=Gq cs;omega) (by have:=B4 (xs:=e.kids) k;omega) hlwhp3.op Wk)⟩ (eq:=(ro (ls:=[Xl ((xs++ys3)++[(Z7.mk e.op e.num 0 [v5] cs)]) w24,.i ((((q+Yu ys3)+1):Nat):Int)]) (by rw [EO (s:=Z7.mk e.op e.num 0 [v5] cs) hcb,<-A5,Vf]) (rc rz))))
 refine ak (ar (iL (Z6 []) 0 1 fun v12=>?_))
 refine Z1 (Y5 (ab 3 (Y3 (fun fz gz m F h=>∃(k:Nat) (asl:LI) (u:Value) (zs:List Z7) (w3:Value),(k<=e.kids.length)/\(asl.length=k)/\(We g.decls g.funcs.length q zs)/\(∀a∈asl,0<=a/\a<((q+Yu zs:Nat):Int))/\(Yy zs<=6*XG (e.kids.take k))/\(Q6 WS zs)/\F=sF [0,3,5,6] fz [(15,ZI asl u),(16,.i k)]/\h=[Zh gz 1,Zh gz 2,.obj l [Xl (xs++zs) w3,.i (((q+Yu zs):Nat):Int)],.tail u 1,.tail w3 5]/\m=e.kids.length-k) _ _ _ ⟨0,[],v12,[],w,ob,ob,True.intro,(fun a ha=>by cases ha),(by simp [Yy]),True.intro,rfl,rfl,rfl⟩ (wk [1,1,1,0,0] (fr (Yf fl)) (e:=(rc (rc (ro (ls:=[Xl xs w,.i q]) (by simp [Yu]) (rc (rc rz))))))) ?_)))
 rintro m F h ⟨k,asl,u,zs,w3,VB,XE,XJ,IR,Zju,O2,rfl,rfl,rfl⟩
 refine Yr 3 [0] (iw (Lh e.kids) (Y2 ((k:Int)<(e.kids.length:Int)) (fun WB=>?_) (fun WB=>?_)))
 ·refine ak (aq (ab 4 (aD 10 (ZY 5 10 [0,1,2,3,4] [1,0] ?_))))
  obtain ⟨x7,Hb⟩:=Zt e.kids k om
  have hzl:=Jr zs
  have hzd:=AY zs
  have htk:=B4 (xs:=e.kids) (k+1)
  have hekx7:=DM hks Hb
  have hszx7:=CQ Hb
  have htzx7:=BN Hb
  rw [Wh] at hekx7
  rw [Z0u om] at hekx7
  refine dx 5 (Zk none (k:Int) 3 (DG Hb)) (Zs 2 4 [6,7] (Z9 8 (dc 8 [2,3] [] [] (ih l x7 us (xs++zs) w3 (q+Yu zs) (by first|assumption|(rw [Yo];assumption)) (by first|assumption|exact G4 hu hlwhp1.v|exact Im hu) (by first|omega|(simp only [Yo,Yq,YY];omega)) (by first|omega|(simp only [Yo,Yq,YY];omega)) ob ob) ?_)))
  rintro _ _ ⟨ys4,v13,w25,rfl,rfl,XU⟩
  have hlwhp6:=XU
  have hldhp6:=XU.dn
  exact Zs 0 1 [9] (de (az (Z0 2 (iL (Z6 [v13]) 1 1 fun v14=>ZU 0 [(137,Z3 [v13])] (ip 5 (Z6 (asl++[v13])) (Z6 asl) (Z6 [v13]) u none 1 (YE _) (YE _) (W6 _) (by simp<;>omega) (by simp [W8,Z6]) fun v15=>Z1 (az (Z0 1 (ZD k (Z1 (ZG ⟨k+1,(asl++[v13]),v15,(zs++ys4),w25,ob,ob,(Aq.2 ⟨XJ,hlwhp6.fs⟩),(by rw [Th,<-A5];exact G4 IR hlwhp6.v),(by have:=hlwhp6.sz;rw [Qb];omega),(HG.2 ⟨O2,hlwhp6.op⟩),rfl,rfl,rfl⟩ (wk [4,4,2,0,1] (fr (ZK k fl)) (e:=(rc (rc (ro (ls:=[Xl ((xs++zs)++ys4) w25,.i ((((q+Yu zs)+Yu ys4):Nat):Int)]) (by rw [Th,<-A5,Vf]) (rc (rc rz)))))))))))))))))
 refine ax 3 (Zq 6 [0,0] (iL (XT []) 0 2 fun v16=>ZU 1 [(146,.agg [.i e.op,.i e.num,.i 0,Z3 asl,JT []])] (ic [3,4] (Pg l (xs++zs) w3 (q+Yu zs) (Z7.mk e.op e.num 0 asl []) (hl:=(by first|(have h1:=Jr zs;have h2:=B4 (xs:=e.kids) k;have h3:=AY zs;(try simp only [Yo]);omega)|((try simp only [Yo]);omega))) (hq:=(by first|(have h1:=Jr zs;have h2:=B4 (xs:=e.kids) k;have h3:=AY zs;(try simp only [Yo]);omega)|((try simp only [Yo]);omega)))) ?_)))
 rintro _ _ ⟨w26,rfl,rfl⟩
 refine Z1 ?_
 have hcb:YP e.op=false:=by simp [YP];omega
 exact ZV (r1 [0,0] ⟨(zs++[Z7.mk e.op e.num 0 asl []]),(((q+Yu zs):Nat):Int),w26,rfl,rfl,(LW.node om h9 hnum XJ IR om (by have:=B4 (xs:=e.kids) k;omega) O2)⟩ (eq:=(ro (ls:=[Xl ((xs++zs)++[(Z7.mk e.op e.num 0 asl [])]) w26,.i ((((q+Yu zs)+1):Nat):Int)]) (by rw [EO (s:=Z7.mk e.op e.num 0 asl []) hcb,<-A5,<-Vf]) (rc rz))))
theorem Z9o (l:Nat) (g:Wb) (e:Z2) (us:LI) (xs:List Z7) (w:Value) (q:Nat) (hd:GD g.decls) (he:eW g.decls g.funcs.length us.length e) (hu:∀a∈us,0<=a/\a<(q:Int)) (hul:us.length+4*e.sz<=100000) (hxl:xs.length+6*e.sz<=100000) (hql:q+6*e.sz<=100000):Zm 177 [.p l 0,AQ g,Yb e,Z3 us] [.obj l [Xl xs w,.i q],.tail w 5] (fun r h=>∃(ys:List Z7) (v:Int) (w2:Value),r=.i v/\h=[.obj l [Xl (xs++ys) w2,.i (((q+Yu ys):Nat):Int)],.tail w2 5]/\LW g.decls g.funcs.length q e ys v):=by
 have key:∀k:Nat,∀(l:Nat) (e2:Z2) (us2:LI) (xs2:List Z7) (w2:Value) (q2:Nat),(eW g.decls g.funcs.length us2.length e2)->(∀a∈us2,0<=a/\a<(q2:Int))->(us2.length+4*e2.sz<=100000)->(xs2.length+6*e2.sz<=100000)->(q2+6*e2.sz<=100000)->(e2.sz<k)->Zm 177 [.p l 0,AQ g,Yb e2,Z3 us2] [.obj l [Xl xs2 w2,.i q2],.tail w2 5] (fun r h=>∃(ys:List Z7) (v:Int) (w2:Value),r=.i v/\h=[.obj l [Xl (xs2++ys) w2,.i (((q2+Yu ys):Nat):Int)],.tail w2 5]/\LW g.decls g.funcs.length q2 e2 ys v):=by
  intro k
  induction k with
  | zero=>intro l e2 us2 xs2 w2 q2 h1 h2 h3 h4 h5 h6;omega
  | succ k ih=>intro l e2 us2 xs2 w2 q2 h1 h2 h3 h4 h5 h6;exact Z9p l g e2 us2 xs2 w2 q2 hd h1 h2 h3 h4 h5 fun l e3 us3 xs3 w3 q3 a1 a2 a3 a4 a5 a6=>ih l e3 us3 xs3 w3 q3 a1 a2 a3 a4 a5 om
 exact key (e.sz+1) l e us xs w q he hu hul hxl hql om
theorem LK (g:Wb) (e:Z2) (us:LI) (q:Nat) (hd:GD g.decls:=by exact ob) (he:eW g.decls g.funcs.length us.length e:=by exact ob) (hu:∀a∈us,0<=a/\a<(q:Int)) (hul:us.length+4*e.sz<=100000:=by exact ob) (hql:q+6*e.sz<=100000:=by exact ob):Zm 149 [AQ g,Yb e,Z3 us,.i q] [] (fun r h=>∃(b:Za),r=Yp b/\h=[]/\LB g.decls g.funcs.length q e b):=(Pr g e us q (e.sz+1) he hu hul hql om (fun l e2 us2 xs2 w2 q2 h1 h2 h3 h4 h5 _=>Z9o l g e2 us2 xs2 w2 q2 hd h1 h2 h3 h4 h5))
theorem Bn (ds:List Zf) (hd:Xt ds:=by exact ob):Zm 70 [Y6 ds] [] (Yw (Y6 ds)):=by
 have hdl:=hd.len
 refine ZF 55 Tryz.func70 (Y0 (ar (iL (Yz []) 0 3 fun v1=>?_)))
 refine Z1 (Y5 (ab 0 (Y3 (fun fz gz m F h=>∃(k:Nat) (v:Value),(k<=ds.length)/\F=sF [0] fz [(3,KQ (ds.take k) v),(4,.i k)]/\h=[.tail v 3]/\m=ds.length-k) _ _ _ ⟨0,v1,ob,rfl,rfl,rfl⟩ (wk [0] (fc (x:=KQ [] v1) (Zd.slh _ (Yg Yz rfl)) (Yf fl))) ?_)))
 rintro m F h ⟨k,v,Yi,rfl,rfl,rfl⟩
 refine YN 2 (iw (UI ds) (Y2 ((k:Int)<(ds.length:Int)) (fun Zc=>?_) (fun Zc=>?_)))
 ·obtain ⟨xd,hxd⟩:=Zt ds k om
  have hcl:=hd.cons_at hxd
  refine ak (aq (ab 1 (ar (iL (XA []) 0 1 fun v2=>?_))))
  refine Z1 (Y5 (ab 2 (Y3 (fun fz gz m F h=>∃(j:Nat) (u:Value),(j<=xd.cons.length)/\F=sF [0,3,4] fz [(5,Eb (xd.cons.take j) u),(6,.i j)]/\h=[.tail u 1,Zh gz 1]/\m=xd.cons.length-j) _ _ _ ⟨0,v2,ob,rfl,rfl,rfl⟩ (wk [0,0] (fc (x:=Eb [] v2) (Zd.slh _ (Yg XA rfl)) (Yf fl))) ?_)))
  rintro m F h ⟨j,u,VB,rfl,rfl,rfl⟩
  refine YN 3 (Zp (Zk none (k:Int) 3 (VK hxd)) (Z0 2 (iw (T4 xd.cons) (Y2 ((j:Int)<(xd.cons.length:Int)) (fun Zi=>?_) (fun Zi=>?_)))))
  ·refine ak (aq (ab 3 (az (Z0 3 (Zp (Zk none (k:Int) 3 (VK hxd)) (Z0 3 ?_))))))
   obtain ⟨x1,Z4⟩:=Zt xd.cons j om
   have hfl:=hd.fields_at hxd Z4
   refine Zp (Zk none (j:Int) 1 (BL Z4)) (Z0 2 (ic [] (WX x1.fields) ?_))
   rintro _ _ ⟨v3,rfl,rfl⟩
   exact ZU 1 [(36,Cv x1)] (iL (XA [x1]) 1 1 fun v4=>ZU 0 [(37,QO [x1])] (ip 2 (XA (xd.cons.take (j+1))) (XA (xd.cons.take j)) (XA [x1]) u none 1 (CM _) (CM _) (Ol _) (by simp<;>omega) (by rw [V1 Z4];simp [XA]) fun v5=>Z1 (az (Z0 1 (ZD j (Z1 (ZG ⟨j+1,v5,ob,rfl,rfl,rfl⟩ (wk [0,2] (fr (ZK j fl))))))))))
  exact ax 2 (aE 16 (Zs 13 16 [0,1,2] (dx 3 (Zk none (k:Int) 3 (VK hxd)) (Zs 8 12 [4,5,6,7] (dx 8 (Zk none (k:Int) 3 (VK hxd)) (Yv 3 7 [9,10,11,12] [(51,.agg [.i xd.frm,.i xd.to_,QO (xd.cons.take j)])] (Z9 13 (dL 13 [] [] (Yz [Zf.mk xd.frm xd.to_ (xd.cons.take j)]) 1 3 fun v6=>Yv 2 2 [] [(52,Y6 [Zf.mk xd.frm xd.to_ (xd.cons.take j)])] (Z9 14 (dp 14 2 [] [] (Yz (ds.take (k+1))) (Yz (ds.take k)) (Yz [Zf.mk xd.frm xd.to_ (xd.cons.take j)]) v none 3 (QF _) (QF _) (EP _) (by simp<;>omega) (by rw [V1 hxd];simp [Yz,Wg (show xd.cons.length<=j by omega)]) fun v7=>Zs 0 1 [15] (de (az (Z0 1 (ZD k (Z1 (ZG ⟨k+1,v7,ob,rfl,rfl,rfl⟩ (wk [0] (fr (ZK k fl)))))))))))))))))))
 exact ax 0 (ar (Zl (ZM (KQ (ds.take k) v) (Zd.sl _ (Yg Yz (by rw [Wg om]))))))
theorem Z9w (g:Wb) (hg:Iv g:=by exact ob):Zm 136 [AQ g] [] (fun r h=>∃(n:ZH),r=YH n/\h=[]/\FO n 181 WS):=by
 have hgl:=hg.gp.len
 have Xr:=hg.gp.decls.ok
 refine ZF 49 Tryz.func136 (ar (iA (Mc g) fun b1=>iA [nl,nl] fun b2=>ie (Zq 2 [1] (Zu [] (Bn g.decls) (iL (Xd []) 0 5 fun v1=>Z0 1 (iA [nl,nl] fun b3=>?_))))))
 refine Zz 0 b3 [Y6 g.decls,WV [] v1] (ie (Y5 (ab 0 (Y3 (fun fz gz m F h=>∃(k:Nat) (rs:List YD) (u:Value),(k<=g.funcs.length)/\(rs.length=k)/\(∀r∈rs,RN g.decls g.funcs.length r)/\F=sF [1,2,3] fz [(4,.i k)]/\h=[.obj b3 [Y6 g.decls,WV rs u],Zh gz 2,Zh gz 3,.tail u 5]/\m=g.funcs.length-k) _ _ _ ⟨0,[],v1,ob,ob,(fun r hr=>by cases hr),rfl,rfl,rfl⟩ (wk [0,1,1,0] (Yf fl)) ?_))))
 rintro m F h ⟨k,rs,u,Yi,Zj,Zw,rfl,rfl,rfl⟩
 refine Yr 3 [2] (iw (DH g.funcs) (Y2 ((k:Int)<(g.funcs.length:Int)) (fun Zc=>?_) (fun Zc=>?_)))
 ·refine ak (aq (ab 1 (Zq 3 [2] ?_)))
  obtain ⟨x1,Z4⟩:=Zt g.funcs k om
  have hso:=(hg.gp.sigs _ (Y1 Z4)).bd
  have hsi:=hg.gp.sigs _ (Y1 Z4)
  have hbo:=hg.body _ (Y1 Z4)
  refine Zp (Zk none (k:Int) 5 (GF Z4)) (Z0 1 (iA [nl,.i 0,.i 0,.i 0,nl] fun b4=>?_))
  refine Zz 0 b4 (Hp x1) (ie (Zq 2 [0] (iw (Yd x1.params) (Z1 (aD 9 (ZY 4 9 [0,1,2,3,5] [3,0] (BJ (fun fz gz F h=>∃(b5:Za) (b6:Nat) (xs1:LI),(xs1.length=x1.params.length/\∀i∈xs1,(0:Int)<=i/\i<(0:Int)+x1.params.length)/\(LB g.decls g.funcs.length x1.params.length x1.body b5)/\F=sF [1,2,3,4,5] fz [(7,.p b6 0)]/\h=[.obj b6 (W3 b5),Zh gz 0,Zh gz 1,Zh gz 2,Zh gz 3,Zh gz 4]) ?_ ?_)))))))
  ·refine Ur 4 7 ?_ ?_
   ·refine dc 4 [] [0,3] [b4,b1] (LL 0 x1.params.length) ?_
    rintro _ _ ⟨xs1,rfl,rfl,Ya⟩
    have hnx:=Ya
    refine Ur 6 7 ?_ ?_
    ·refine dc 6 [] [] [] (LK g x1.body xs1 x1.params.length (hd:=hg.gp.decls) (he:=(by rw [hnx.1];exact hbo.1)) (hu:=(fun a ha=>by have:=hnx.2 a ha;omega))) ?_
     rintro _ _ ⟨b5,rfl,rfl,Ys⟩
     have hlb:=Ys
     exact Z9 7 (dA 7 [] [] [nl,.i 0] fun b6=>Z9 8 (YX 8 0 [] [] b6 (W3 b5) (de (ZJ ⟨_,b6,_,(by assumption),(by assumption),rfl,rfl⟩ (Zy 6 fl)))))
    refine dA 7 [0,3] [b4,b1] [nl,.i 0] fun b7=>Z9 6 (dc 6 [] [] [] (LK g x1.body xs1 x1.params.length (hd:=hg.gp.decls) (he:=(by rw [hnx.1];exact hbo.1)) (hu:=(fun a ha=>by have:=hnx.2 a ha;omega))) ?_)
    rintro _ _ ⟨b8,rfl,rfl,YR⟩
    have hlb:=YR
    exact Z9 8 (YX 8 0 [] [] b7 (W3 b8) (de (ZJ ⟨_,b7,_,(by assumption),(by assumption),rfl,rfl⟩ (Zy 6 fl))))
   refine dA 7 [0,3] [b4,b1] [nl,.i 0] fun b9=>Z9 4 (dc 4 [] [1,4] [b4,b1] (LL 0 x1.params.length) ?_)
   rintro _ _ ⟨xs2,rfl,rfl,X2⟩
   have hnx:=X2
   refine Z9 6 (dc 6 [] [] [] (LK g x1.body xs2 x1.params.length (hd:=hg.gp.decls) (he:=(by rw [hnx.1];exact hbo.1)) (hu:=(fun a ha=>by have:=hnx.2 a ha;omega))) ?_)
   rintro _ _ ⟨b10,rfl,rfl,Xk⟩
   have hlb:=Xk
   exact Z9 8 (YX 8 0 [] [] b9 (W3 b10) (de (ZJ ⟨_,b9,_,(by assumption),(by assumption),rfl,rfl⟩ (Zy 6 fl))))
  rintro F h ⟨b5,b6,xs1,Ya,Ys,rfl,rfl⟩
  have hnx:=Ya
  have hlb:=Ys
  refine aE 14 (ZY 7 14 [0,1,2,3,6,7,8] [2,1,1,0] (Ur 4 5 ?_ ?_))
  ·refine dc 4 [] [0,1,2] [b6,b4,b3] (WX x1.params) ?_
   rintro _ _ ⟨v2,rfl,rfl⟩
   exact Z9 5 (dL 5 [0,1,2] [b6,b4,b3] (Z6 []) 0 1 fun v3=>Yv 4 5 [9] [(44,.agg [Z3 x1.params,Z3 [],.i x1.result,Vw b5.steps,.i b5.result])] (Z9 10 (dL 10 [2] [b3] (Xd [YD.mk x1.params [] x1.result (Za.mk b5.steps b5.result)]) 1 5 fun v4=>Yv 3 3 [] [(45,JU [YD.mk x1.params [] x1.result (Za.mk b5.steps b5.result)])] (Z9 11 (dp 11 8 [] [] (Xd (rs++[YD.mk x1.params [] x1.result (Za.mk b5.steps b5.result)])) (Xd rs) (Xd [YD.mk x1.params [] x1.result (Za.mk b5.steps b5.result)]) u none 5 (Tj _) (Tj _) (BM _) (by simp<;>omega) (by simp [DK,Xd]) fun v5=>Zs 1 2 [12] (Z9 13 (YX 13 6 [] [] b3 [Y6 g.decls,WV (rs++[YD.mk x1.params [] x1.result (Za.mk b5.steps b5.result)]) v5] (de (az (Z0 1 (ZD k (Z1 (ZG ⟨k+1,(rs++[YD.mk x1.params [] x1.result (Za.mk b5.steps b5.result)]),v5,ob,ob,(XI Zw (RN.of hsi hlb hbo.2)),rfl,rfl,rfl⟩ (wk [0,6,6,0] (ZK k fl)))))))))))))))
  refine dL 5 [0,1,1,2] [b6,b4,b4,b3] (Z6 []) 0 1 fun v6=>Z9 4 (dc 4 [] [0,1,2] [b6,b4,b3] (WX x1.params) ?_)
  rintro _ _ ⟨v7,rfl,rfl⟩
  exact Yv 4 5 [9] [(44,.agg [Z3 x1.params,Z3 [],.i x1.result,Vw b5.steps,.i b5.result])] (Z9 10 (dL 10 [2] [b3] (Xd [YD.mk x1.params [] x1.result (Za.mk b5.steps b5.result)]) 1 5 fun v8=>Yv 3 3 [] [(45,JU [YD.mk x1.params [] x1.result (Za.mk b5.steps b5.result)])] (Z9 11 (dp 11 8 [] [] (Xd (rs++[YD.mk x1.params [] x1.result (Za.mk b5.steps b5.result)])) (Xd rs) (Xd [YD.mk x1.params [] x1.result (Za.mk b5.steps b5.result)]) u none 5 (Tj _) (Tj _) (BM _) (by simp<;>omega) (by simp [DK,Xd]) fun v9=>Zs 1 2 [12] (Z9 13 (YX 13 6 [] [] b3 [Y6 g.decls,WV (rs++[YD.mk x1.params [] x1.result (Za.mk b5.steps b5.result)]) v9] (de (az (Z0 1 (ZD k (Z1 (ZG ⟨k+1,(rs++[YD.mk x1.params [] x1.result (Za.mk b5.steps b5.result)]),v9,ob,ob,(XI Zw (RN.of hsi hlb hbo.2)),rfl,rfl,rfl⟩ (wk [0,6,6,0] (ZK k fl))))))))))))))
 exact ax 0 (Zq 1 [0] (Zz 1 b2 [Y6 g.decls,WV rs u] (ie (ZV (r3 [] [.agg [Y6 g.decls,WV rs u]] [0] [(b2,b2)] ⟨(ZH.mk g.decls rs),rfl,rfl,(RN.all hg.gp.decls (by show 1<=rs.length/\rs.length<=4;omega) (by show ∀r∈rs,RN g.decls rs.length r;rw [show rs.length=g.funcs.length by omega];exact Zw) om)⟩ (Zd.agg (.cons (lr _) (.cons (Zd.forget _ _) .nil))))))))
theorem Zhx (n:ZH) (hz:A6 n:=by exact ob):Zm 142 [YH n] [] (Yw (.b (Kx n))):=by
 have hzl:=hz.len
 refine ZF 35 Tryz.func142 (ar (iA (Xb n) fun b1=>Z1 (Yr 1 [0] (Zu [] (Zhw n (hz:=hz.decls) (hr:=(fun r hr=>⟨hz.params r hr,hz.lent r hr⟩))) (Yx (!Ax n) (p:=¬(Ax n=true)) (Yl Iff.rfl) (fun Zc=>?_) (fun Zc=>?_))))))
 ·exact ar (Zl (ZM (.b false) (lb (by first|rfl|omega|grind [Kx]))))
 have hok:=RQ hz (by simpa using Zc)
 refine ak (Y5 (ab 0 (Y3 (fun fz gz m F h=>∃(k:Nat),(k<=n.routines.length)/\(Bm n (n.routines.drop k)=Bm n n.routines)/\F=sF [1] fz [(3,.i k)]/\h=gz/\m=n.routines.length-k) _ _ _ ⟨0,ob,ob,rfl,rfl,rfl⟩ (wk [0] (Yf fl)) ?_)))
 rintro m F h ⟨k,Yi,Zj,rfl,rfl,rfl⟩
 refine Yr 3 [0] (iw (Q2 n.routines) (Y2 ((k:Int)<(n.routines.length:Int)) (fun Zi=>?_) (fun Zi=>?_)))
 ·refine ak (aq (ab 1 (Zq 3 [0] ?_)))
  obtain ⟨x1,Z4⟩:=Zt n.routines k om
  have ZL:=hz.body _ (Y1 Z4)
  have hps:=hok.params_at Z4
  refine Zp (Zk none (k:Int) 5 (VT Z4)) (Z0 1 (iA [nl,nl,.i 0,nl,.i 0] fun b2=>Zz 0 b2 (JP x1) (ie (aD 15 (ZY 13 15 [0,1] [0] (Z9 2 (YL 2 [] [] [] (Zhn x1.body) (CG [1,3] [(34,.b ((decide ((Bq x1.body)<0))||((W7 n x1.params x1.body) != x1.result)))] (fun gz=>gz) ?_ ?_))))))))
  ·refine Zs 10 12 [3,4] (db (b:=(decide ((Bq x1.body)<0))) 24 (fun Ze=>?_) (fun Ze=>?_))
   ·exact Zs 0 10 [5,6,7,8,9,10,11,12,13,14] (de (wk [0,0] (Zo true Ze fl)))
   exact ZY 3 10 [5,6,7,8,9,11,12] [1,0,0,0] (Z9 10 (YL 10 [] [0] [b2] (Z1e n x1.params x1.body ob ob) (Zs 0 2 [13,14] (de (wk [0,0] (Zo ((W7 n x1.params x1.body) != x1.result) Ze fl))))))
  refine ac ((decide ((Bq x1.body)<0))||((W7 n x1.params x1.body) != x1.result)) (p:=((Bq x1.body)<0)∨((W7 n x1.params x1.body)≠x1.result)) (ZZ dq Yn) (fun ZB=>?_) (fun ZB=>?_)
  ·refine Y0 ?_
   rw [Yj Z4] at Zj
   exact ZV (ZM (.b false) (lb (by clear Z4;first|rfl|omega|grind [Bm,Kx])))
  refine ak (az (Z0 1 (ZD k (Z1 ?_))))
  have hdr:=Yj Z4
  exact ZG ⟨k+1,ob,(by rw [hdr] at Zj;clear hdr Z4;grind [Bm]),rfl,rfl,rfl⟩ (wk [1] (ZK k fl))
 refine ax 0 (Y0 ?_)
 try rw [Xp (xs:=n.routines) (k:=k) om] at Zj
 exact ZV (ZM (.b true) (lb (by first|rfl|omega|grind [Bm,Kx])))
theorem Z1h (op:Int) :Zm 210 [.i op] [] (Yw (.b (YP op))):=by
 exact ZF 5 Tryz.func210 (Y0 (Yc 1 (Zu [] (Ve op 14 17) (Zl (ZM (.b (decide (14<=op/\op<=17))) (lb (by first|rfl|omega|grind [YP])))))))
theorem Z1f (op:Int) :Zm 220 [.i op] [] (Yw (.b (Aj op))):=by
 refine ZF 17 Tryz.func220 (Y0 (ar (X8 6 [0] [(8,.b ((op==6)||(op==9)))] (fun gz=>gz) ?_ (fun hj1=>?_))))
 ·refine X8 10 [0] [(12,.b (((op==6)||(op==9))||(op==10)))] (fun gz=>gz) ?_ (fun hj2=>?_)
  ·refine X8 14 [] [(16,.b ((((op==6)||(op==9))||(op==10))||(op==11)))] (fun gz=>gz) ?_ (fun hj3=>?_)
   ·exact Zl (ZM (.b ((((op==6)||(op==9))||(op==10))||(op==11))) (lb (by first|rfl|omega|grind [Aj])))
   refine Z0 1 (ib (b:=(((op==6)||(op==9))||(op==10))) 13 (fun Ze=>?_) (fun Ze=>?_))
   ·exact Z0 3 (Y8 (wk [] (Zo true Ze fl)) hj3)
   exact Z0 3 (Y8 (wk [] (Zo (op==11) Ze fl)) hj3)
  refine Z0 1 (ib (b:=((op==6)||(op==9))) 9 (fun ZE=>?_) (fun ZE=>?_))
  ·exact Z0 3 (Y8 (wk [] (Zo true ZE fl)) hj2)
  exact Z0 3 (Y8 (wk [] (Zo (op==10) ZE fl)) hj2)
 refine Z0 3 (ib (b:=(op==6)) 5 (fun Ym=>?_) (fun Ym=>?_))
 ·exact Z0 3 (Y8 (wk [] (Zo true Ym fl)) hj1)
 exact Z0 3 (Y8 (wk [] (Zo (op==9) Ym fl)) hj1)
theorem FQ (n:ZH) (s:Z7) (i:Nat) (hn:Xz n:=by exact ob) (hnum:s.op=9->0<=s.num/\s.num<n.routines.length:=by exact ob):Zm 208 [YH n,X5 s,.i i] [] (Yw (.b (T8 n s.op s.num i))):=by
 refine ZF 21 Tryz.func208 (ar (iA (Xb n) fun b1=>iA (Wf s) fun b2=>Z1 (Zq 4 [0] (ib (b:=(s.op==9)) 10 (fun Ze=>?_) (fun Ze=>?_)))))
 ·have Ya:s.op=9:=(Zg).1 Ze
  refine ZC 4 [1,0] ?_
  obtain ⟨x1,Z4⟩:=Zt n.routines s.num.toNat om
  have hlt:=hn.lent_at Z4
  have hlr:=Zct (n:=n) Ya Z4
  exact Zp (Zk none s.num 5 (VT Z4)) (Z0 3 (Zu [] (UE x1.lent (i:Int)) (Zl (ZM (.b (decide ((i:Int)∈x1.lent))) (lb (by rw [T8,hlr]))))))
 have Ys:¬(s.op=9):=Y9 Zg Ze
 exact Zl (ZM (.b false) (lb (by rw [T8,E6,Z5 Ys];simp)))
theorem Ie (n:ZH) (us:LI) (s:Z7) (i:Nat) (a:Int) (hn:Xz n:=by exact ob) (hnum:s.op=9->0<=s.num/\s.num<n.routines.length:=by exact ob) (ha:s.args[i]? = some a:=by exact ob) (hi:0<=a/\a<us.length:=by exact ob):Zm 203 [YH n,Z3 us,X5 s,.i i] [] (Yw (.b (JC n us s.op s.num a i))):=by
 have hal:=(X4.1 ha).1
 refine ZF 30 Tryz.func203 (ar (iA (Xb n) fun b1=>iA (Wf s) fun b2=>Z1 (Zq 2 [0] (Zu [] (Z1f s.op) (Z0 1 (ib (b:=Aj s.op) 12 (fun Ze=>?_) (fun Ze=>?_)))))))
 ·refine ZC 4 [0] ?_
  obtain ⟨x1,Z4⟩:=Zt s.args i om
  have hxa:x1=a:=by rw [ha] at Z4;exact (AJ Z4).symm
  subst hxa
  refine Zp (Zk none (i:Int) 1 (Y4 Z4)) (Z0 1 ?_)
  obtain ⟨x2,Zv⟩:=Zt us x1.toNat om
  have hga:=Tp Zv
  refine Zp (Zk none x1 1 (Y4 Zv)) (Z0 4 (ib (b:=(x2 != 0)) 23 (fun ZE=>?_) (fun ZE=>?_)))
  ·exact ZC 3 [1,0] (Zu [] (FQ n s i) (Zl (ZM (.b (!T8 n s.op s.num i)) (lb (by clear Z4 Zv;first|rfl|(rw [JC];grind))))))
  exact Zl (ZM (.b false) (lb (by clear Z4 Zv;first|rfl|(rw [JC];grind))))
 exact Zl (ZM (.b false) (lb (by  first|rfl|(rw [JC];grind))))
theorem Z1m (xs:LI) (ys:LI) (hl_xs:xs.length<=4294967296:=by exact ob) (hl_ys:ys.length<=4294967296:=by exact ob):Zm 207 [Z3 xs,Z3 ys] [] (Yw (.b (decide (xs=ys)))):=by
 refine ZF 26 Tryz.func207 (Y0 (YN 1 (iw (Yd xs) (Z0 1 (iw (Yd ys) (Yx ((xs.length:Int) != (ys.length:Int)) Yn (fun Zc=>?_) (fun Zc=>?_)))))))
 ·exact ar (Zl (ZM (.b false) (lb (eq_comm.1 (decide_eq_false (fun q=>by rw [q] at Zc;exact Zc rfl))))))
 refine ak (Y5 (ab 0 (Y3 (fun fz gz m F h=>∃(k:Nat),(k<=xs.length)/\(xs.take k=ys.take k)/\F=sF [0,1] fz [(5,.i k)]/\h=gz/\m=xs.length-k) _ _ _ ⟨0,ob,ob,rfl,rfl,rfl⟩ (wk [] (Yf fl)) ?_)))
 rintro m F h ⟨k,Yi,Zj,rfl,rfl,rfl⟩
 refine YN 2 (iw (Yd xs) (Y2 ((k:Int)<(xs.length:Int)) (fun Zi=>?_) (fun Zi=>?_)))
 ·refine ak (aq (ab 1 (aD 9 (Zs 7 9 [0,1] ?_))))
  obtain ⟨x1,Z4⟩:=Zt xs k om
  refine dx 2 (Zk none (k:Int) 1 (Y4 Z4)) (Zs 3 6 [3,4,5] ?_)
  obtain ⟨x2,Zv⟩:=Zt ys k om
  refine dx 6 (Zk none (k:Int) 1 (Y4 Zv)) (Zs 0 2 [7,8] (de (ac (x1 != x2) Yn (fun ZB=>?_) (fun ZB=>?_))))
  ·exact ar (Zl (ZM (.b false) (lb (eq_comm.1 (decide_eq_false (fun q=>by subst q;rw [Z4] at Zv;cases Zv;exact ZB rfl))))))
  refine ak (az (Z0 1 (ZD k (Z1 ?_))))
  have hdr:=Yj Z4
  exact ZG ⟨k+1,ob,(by rw [V1 Z4,V1 Zv,Zj];have hxx:x1=x2:=om;rw [hxx]),rfl,rfl,rfl⟩ (wk [] (ZK k fl))
 exact ax 0 (ar (Zl (ZM (.b true) (lb (eq_comm.1 (decide_eq_true (by rw [Wg om,Wg om] at Zj;exact Zj)))))))
theorem Bo (xs:LI) (hlen:xs.length<=4294967296:=by exact ob):Zm 74 [Z3 xs] [] (fun r h=>∃(v:Hd),r=.h v/\h=[rV v xs]):=by
 exact ZF 6 Tryz.func74 (Y0 (ar (iVL [] 0 fun v1=>Z0 1 (Bd 0 v1 [] xs none fun v2=>Zl (r1 [0] ⟨v2,rfl,rfl⟩ (eq:=(rv (xs:=([]++xs)) ob rz)))))))
theorem KL (b:Nat) (ga:Hd) (gb:Hd) (gc:Hd) (gd:Hd) (ge:Hd) (gf:Hd) (L:ZO) (ln:LI) (t:Int) (o:Int) (p:Int) (hlb:L.vars.length<=1000000000:=by exact ob) (hlk:Tx L:=by exact ob):Zm 164 [.p b 0,.i t,.i o,.i p] [.obj b [.h ga,.h gb,.h gc,.h gd,.h ge,.h gf,Z3 ln],rV ga L.vars,rV gb L.own,rV gc L.par,rV gd L.con,rV ge L.fst,rV gf L.tok] (fun r h=>∃(wa:Hd) (wb:Hd) (wc:Hd) (wd:Hd) (we:Hd) (wf:Hd),h=[.obj b [.h wa,.h wb,.h wc,.h wd,.h we,.h wf,Z3 ln],rV wa ((L.grow t o p).vars),rV wb ((L.grow t o p).own),rV wc ((L.grow t o p).par),rV wd ((L.grow t o p).con),rV we ((L.grow t o p).fst),rV wf ((L.grow t o p).tok)]):=by
 obtain ⟨e1,e2,e3,e4,e5⟩:=hlk
 exact ZF 65 Tryz.func164 (Zq 6 [0] (iL (Z6 [t]) 1 1 fun v1=>ZU 0 [(14,Z3 [t])] (Bd 2 ga L.vars [t] none fun v2=>Z0 2 (Zz 2 b [.h v2,.h gb,.h gc,.h gd,.h ge,.h gf,Z3 ln] (ie (Zq 6 [0] (iL (Z6 [o]) 1 1 fun v3=>ZU 0 [(24,Z3 [o])] (Bd 4 gb L.own [o] none fun v4=>Z0 2 (Zz 2 b [.h v2,.h v4,.h gc,.h gd,.h ge,.h gf,Z3 ln] (ie (Zq 6 [0] (iL (Z6 [p]) 1 1 fun v5=>ZU 0 [(34,Z3 [p])] (Bd 6 gc L.par [p] none fun v6=>Z0 2 (Zz 2 b [.h v2,.h v4,.h v6,.h gd,.h ge,.h gf,Z3 ln] (ie (Zq 5 [0] (iL (Z6 [-1]) 1 1 fun v7=>ZU 0 [(43,Z3 [-1])] (Bd 8 gd L.con [-1] none fun v8=>Z0 2 (Zz 2 b [.h v2,.h v4,.h v6,.h v8,.h ge,.h gf,Z3 ln] (ie (Zq 5 [0] (iL (Z6 [-1]) 1 1 fun v9=>ZU 0 [(52,Z3 [-1])] (Bd 10 ge L.fst [-1] none fun v10=>Z0 2 (Zz 2 b [.h v2,.h v4,.h v6,.h v8,.h v10,.h gf,Z3 ln] (ie (az (ZC 5 [0] (iL (Z6 [-1]) 1 1 fun v11=>ZU 0 [(61,Z3 [-1])] (Bd 12 gf L.tok [-1] none fun v12=>Z0 2 (Zz 2 b [.h v2,.h v4,.h v6,.h v8,.h v10,.h v12,Z3 ln] (ie (r2 [0,10,8,6,4,2,0] [] ⟨v2,v4,v6,v8,v10,v12,rfl⟩ (lr _) (eq:=(rc (rv (xs:=(L.vars++[t])) ob (rv (xs:=(L.own++[o])) ob (rv (xs:=(L.par++[p])) ob (rv (xs:=(L.con++[-1])) ob (rv (xs:=(L.fst++[-1])) ob (rv (xs:=(L.tok++[-1])) ob rz))))))))))))))))))))))))))))))))))))))))
theorem Zcn (b:Nat) (ga:Hd) (gb:Hd) (gc:Hd) (gd:Hd) (ge:Hd) (gf:Hd) (L:ZO) (ln:LI) (hlb:L.vars.length<=1000000000:=by exact ob) (hlk:Tx L:=by exact ob) (hln:ln.length<=4294967296:=by exact ob):Zm 226 [.p b 0] [.obj b [.h ga,.h gb,.h gc,.h gd,.h ge,.h gf,Z3 ln],rV ga L.vars,rV gb L.own,rV gc L.par,rV gd L.con,rV ge L.fst,rV gf L.tok] (fun r h=>∃(c:Nat) (wa:Hd) (wb:Hd) (wc:Hd) (wd:Hd) (we:Hd) (wf:Hd),r=.p c 0/\h=[.obj c [.h wa,.h wb,.h wc,.h wd,.h we,.h wf,Z3 ln],rV wa L.vars,rV wb L.own,rV wc L.par,rV wd L.con,rV we L.fst,rV wf L.tok,.obj b [.h ga,.h gb,.h gc,.h gd,.h ge,.h gf,Z3 ln],rV ga L.vars,rV gb L.own,rV gc L.par,rV gd L.con,rV ge L.fst,rV gf L.tok]):=by
 obtain ⟨e1,e2,e3,e4,e5⟩:=hlk
 refine ZF 40 Tryz.func226 (Y0 (aD 38 (ZY 10 38 [0,1,2,3,5,6,7,8,10,11,12,13,15,16,17,18,20,21,22,23,25,26,27,28,30,31,32,33] [0,0,0,0,0,0,0] (Z9 4 (Ak 4 [1] [0,0,0,0,0,0] [b,b,b,b,b,b] [rV ga L.vars] (Bo L.vars) Dy (gL (v:=ga) 0 gN) (Jj Aw) ?_)))))
 rintro _ _ ⟨v1,rfl,rfl⟩
 refine Z9 9 (Ak 9 [3] [0,0,0,0,0] [b,b,b,b,b] [rV gb L.own] (Bo L.own) Dy (gL (v:=gb) 0 gN) (Jj Aw) ?_)
 rintro _ _ ⟨v2,rfl,rfl⟩
 refine Z9 14 (Ak 14 [5] [0,0,0,0] [b,b,b,b] [rV gc L.par] (Bo L.par) Dy (gL (v:=gc) 0 gN) (Jj Aw) ?_)
 rintro _ _ ⟨v3,rfl,rfl⟩
 refine Z9 19 (Ak 19 [7] [0,0,0] [b,b,b] [rV gd L.con] (Bo L.con) Dy (gL (v:=gd) 0 gN) (Jj Aw) ?_)
 rintro _ _ ⟨v4,rfl,rfl⟩
 refine Z9 24 (Ak 24 [9] [0,0] [b,b] [rV ge L.fst] (Bo L.fst) Dy (gL (v:=ge) 0 gN) (Jj Aw) ?_)
 rintro _ _ ⟨v5,rfl,rfl⟩
 refine Z9 29 (Ak 29 [11] [0] [b] [rV gf L.tok] (Bo L.tok) Dy (gL (v:=gf) 0 gN) (Jj Aw) ?_)
 rintro _ _ ⟨v6,rfl,rfl⟩
 refine Z9 34 (dc 34 [] [] [] (WX ln) ?_)
 rintro _ _ ⟨v7,rfl,rfl⟩
 exact Yv 2 3 [35] [(38,.agg [.h v1,.h v2,.h v3,.h v4,.h v5,.h v6,Z3 ln])] (Z9 36 (dA 36 [] [] [.h v1,.h v2,.h v3,.h v4,.h v5,.h v6,Z3 ln] fun b1=>Zs 0 1 [37] (de (ZV (r1 [0,11,9,7,5,3,1,7,6,5,4,3,2,1] ⟨b1,v1,v2,v3,v4,v5,v6,rfl,rfl⟩)))))
theorem Hu (b:Nat) (ga:Hd) (gb:Hd) (gc:Hd) (gd:Hd) (ge:Hd) (gf:Hd) (L:ZO) (ln:LI) (i:Int) (hlk:Tx L:=by exact ob) (hi:0<=i/\i<L.vars.length:=by exact ob) (hq:∀x∈L.own,0<=x/\x<=1000000000):Zm 165 [.p b 0,.i i] [.obj b [.h ga,.h gb,.h gc,.h gd,.h ge,.h gf,Z3 ln],rV ga L.vars,rV gb L.own,rV gc L.par,rV gd L.con,rV ge L.fst,rV gf L.tok] (fun r h=>(∃(wa:Hd) (wb:Hd) (wc:Hd) (wd:Hd) (we:Hd) (wf:Hd) (L':ZO),r=.b true/\h=[.obj b [.h wa,.h wb,.h wc,.h wd,.h we,.h wf,Z3 ln],rV wa L'.vars,rV wb L'.own,rV wc L'.par,rV wd L'.con,rV we L'.fst,rV wf L'.tok]/\Qc L i=some L')∨(r=.b false/\h=[]/\Qc L i=none)):=by
 obtain ⟨e1,e2,e3,e4,e5⟩:=hlk
 refine ZF 27 Tryz.func165 (Y0 (Yr 5 [0] (Zp (Uh 2 gb L.own i i.toNat (hq:=rfl)) ?_)))
 obtain ⟨x1,Z4⟩:=Zt L.own i.toNat om
 have hxq:=hq _ (Y1 Z4)
 have hgi:=Tp Z4
 refine Vm (Qy 2 gb L.own i.toNat x1 Z4) (Y2 (x1<1) (fun Zc=>?_) (fun Zc=>?_))
 ·exact ar (Zl (r1 [] (.inr ⟨rfl,rfl,(by rw [Qc,hgi,Zb Zc])⟩)))
 exact ak (aD 15 (ZY 5 15 [0,1,2,3,4,5,6,7,8,9] [0,0] (dx 10 (Uh 2 gb L.own i i.toNat (hq:=rfl)) (Uz 11 (Qy 2 gb L.own i.toNat x1 Z4) (da 12 ((x1-1)) ((x1)-(1)) (dx 13 (Uh 2 gb L.own i i.toNat (hq:=rfl)) (Z9 14 (CH 14 2 [] [] gb L.own i.toNat (x1-1) (de (ar (Zl (r1 [1,1,0,0,0,0,0] (.inl ⟨ga,gb,gc,gd,ge,gf,(ZO.mk L.vars (L.own.set i.toNat (x1-1)) L.par L.con L.fst L.tok),rfl,rfl,(by rw [Qc,hgi,Z5 Zc])⟩) (eq:=(rc (rv (xs:=L.vars) ob (rv (xs:=(L.own.set i.toNat (x1-1))) ob (rv (xs:=L.par) ob (rv (xs:=L.con) ob (rv (xs:=L.fst) ob (rv (xs:=L.tok) ob rz))))))))))))))))))))
theorem Ht (b:Nat) (ga:Hd) (gb:Hd) (gc:Hd) (gd:Hd) (ge:Hd) (gf:Hd) (L:ZO) (ln:LI) (i:Int) (hlk:Tx L:=by exact ob) (hln:ln.length<=4294967296:=by exact ob) (hi:0<=i/\i<L.vars.length:=by exact ob) (hd:∀j:Int,0<=j->j<L.vars.length->gI L.par j<j):Zm 115 [.p b 0,.i i] [.obj b [.h ga,.h gb,.h gc,.h gd,.h ge,.h gf,Z3 ln],rV ga L.vars,rV gb L.own,rV gc L.par,rV gd L.con,rV ge L.fst,rV gf L.tok] (fun r h=>r=.b (Tf L ln i)/\h=[.obj b [.h ga,.h gb,.h gc,.h gd,.h ge,.h gf,Z3 ln],rV ga L.vars,rV gb L.own,rV gc L.par,rV gd L.con,rV ge L.fst,rV gf L.tok]):=by
 obtain ⟨e1,e2,e3,e4,e5⟩:=hlk
 refine ZF 31 Tryz.func115 (Y0 (aq (ab 0 (Y3 (fun fz gz m F h=>∃(j:Int),(0<=j/\j<L.vars.length)/\(K3 L.own L.par ln (j.toNat+1) j=Tf L ln i)/\F=sF [0] fz [(1,.i j)]/\h=gz/\m=j.toNat) _ _ _ ⟨i,ob,ob,rfl,rfl,rfl⟩ (Zy 7 fl) ?_))))
 rintro m F h ⟨j,Yi,Zj,rfl,rfl,rfl⟩
 refine Yr 5 [0] (Zp (Uh 2 gb L.own j j.toNat (hq:=rfl)) ?_)
 obtain ⟨x1,Z4⟩:=Zt L.own j.toNat om
 have hg1:=Tp Z4
 refine Vm (Qy 2 gb L.own j.toNat x1 Z4) (Xs [0,1] [(21,.b ((decide (x1<1))&&(!(decide (j∈ln)))))] (fun gz=>gz) ?_ ?_)
 ·refine Z0 2 (ib (b:=(decide (x1<1))) 13 (fun Ze=>?_) (fun Ze=>?_))
  ·exact ZC 5 [0] (Zu [] (UE ln j) (Z1 (Zy 7 (Zo (!(decide (j∈ln))) Ze fl))))
  exact Z1 (Zy 7 (Zo false Ze fl))
 refine ac ((decide (x1<1))&&(!(decide (j∈ln)))) (p:=(x1<1)/\(¬(j∈ln))) (Yt dq (Yl dq)) (fun Zc=>?_) (fun Zc=>?_)
 ·refine ak (ab 1 (Zq 5 [0] (Zp (Uh 3 gc L.par j j.toNat (hq:=rfl)) ?_)))
  obtain ⟨x2,Zv⟩:=Zt L.par j.toNat om
  have hg2:=Tp Zv
  have hdj:=hd j om om
  rw [hg2] at hdj
  refine Vm (Qy 3 gc L.par j.toNat x2 Zv) (Z1 (ar (Y2 (x2<0) (fun Zi=>?_) (fun Zi=>?_))))
  ·exact ar (Zl (r2 [0,0,0,0,0,0,0] [.b false] ⟨rfl,rfl⟩ (lb (Z3k hg1 hg2 Zc Zi Zj))))
  exact ak (ZG ⟨x2,om,(Z3l hg1 hg2 Yi Zc Zi hd Zj),rfl,rfl,rfl⟩ (Zy 7 fl))
 exact ax 0 (ar (Zl (r2 [0,0,0,0,0,0,0] [.b true] ⟨rfl,rfl⟩ (lb (Z3m hg1 Zc Zj)))))
theorem Ru (b:Nat) (ga:Hd) (gb:Hd) (gc:Hd) (gd:Hd) (ge:Hd) (gf:Hd) (L:ZO) (ln:LI) (mm:Nat) (hlk:Tx L:=by exact ob) (hlb:L.vars.length<=1000000000:=by exact ob) (hm:mm<=L.vars.length:=by exact ob):Zm 239 [.p b 0,.i mm] [.obj b [.h ga,.h gb,.h gc,.h gd,.h ge,.h gf,Z3 ln],rV ga L.vars,rV gb L.own,rV gc L.par,rV gd L.con,rV ge L.fst,rV gf L.tok] (fun r h=>(∃(wa:Hd) (wb:Hd) (wc:Hd) (wd:Hd) (we:Hd) (wf:Hd) (L':ZO),r=.b true/\h=[.obj b [.h wa,.h wb,.h wc,.h wd,.h we,.h wf,Z3 ln],rV wa L'.vars,rV wb L'.own,rV wc L'.par,rV wd L'.con,rV we L'.fst,rV wf L'.tok]/\JD L mm=some L')∨(r=.b false/\h=[]/\JD L mm=none)):=by
 obtain ⟨e1,e2,e3,e4,e5⟩:=hlk
 refine ZF 88 Tryz.func239 (Y0 (Y5 (ab 0 (Y3 (fun fz gz m F h=>∃(k:Nat),(mm<=k/\k<=L.vars.length)/\(Ck (L.own.drop k) (L.tok.drop k)=Ck (L.own.drop mm) (L.tok.drop mm))/\F=sF [0,1] fz [(5,.i k)]/\h=gz/\m=L.vars.length-k) _ _ _ ⟨mm,ob,ob,rfl,rfl,rfl⟩ (Zy 7 fl) ?_))))
 rintro m F h ⟨k,Yi,Zj,rfl,rfl,rfl⟩
 refine Yr 5 [0] (Zp (Dn 1 ga L.vars) (Y2 ((k:Int)<(L.vars.length:Int)) (fun Zc=>?_) (fun Zc=>?_)))
 ·refine ak (aq (ab 1 (Zq 5 [0] (Zp (Uh 2 gb L.own (k:Int) k) ?_))))
  obtain ⟨x1,Z4⟩:=Zt L.own k om
  refine Vm (Qy 2 gb L.own k x1 Z4) (Z0 2 (ib (b:=(x1 != 0)) 24 (fun Ze=>?_) (fun Ze=>?_)))
  ·have Ya:x1≠0:=(Yn).1 Ze
   refine Z1 (Vq (Y0 ?_))
   obtain ⟨y2,hy2⟩:=Zt L.tok k om
   exact ZV (r1 [] (.inr ⟨rfl,rfl,(by rw [JD,<-Zj,Yj Z4,Yj hy2,Ck,Zb (show x1≠0∨0<=y2 by omega)];rfl)⟩))
  have Ys:¬(x1≠0):=Y9 Yn Ze
  refine ZC 5 [0] (Zp (Uh 6 gf L.tok (k:Int) k) ?_)
  obtain ⟨x2,Zv⟩:=Zt L.tok k om
  refine Vm (Qy 6 gf L.tok k x2 Zv) (Y2 (x2>=0) (fun Zi=>?_) (fun Zi=>?_))
  ·exact ar (Zl (r1 [] (.inr ⟨rfl,rfl,(by rw [JD,<-Zj,Yj Z4,Yj Zv,Ck,Zb (show x1≠0∨0<=x2 by omega)];rfl)⟩)))
  exact ak (az (Z0 1 (ZD k (Z1 (ZG ⟨k+1,ob,(by rw [Yj Z4,Yj Zv,Ck,Z5 om] at Zj;exact Zj),rfl,rfl,rfl⟩ (Zy 7 (ZK k fl)))))))
 exact ax 0 (Zq 6 [0] (Zp (Ez 1 ga L.vars mm) (Z0 2 (Xe (Eu 1 mm ga L.vars) (Zz 1 b [.h (ga.cut mm),.h gb,.h gc,.h gd,.h ge,.h gf,Z3 ln] (ie (Zq 6 [0] (Zp (Ez 2 gb L.own mm) (Z0 2 (Xe (Eu 2 mm gb L.own) (Zz 1 b [.h (ga.cut mm),.h (gb.cut mm),.h gc,.h gd,.h ge,.h gf,Z3 ln] (ie (Zq 6 [0] (Zp (Ez 3 gc L.par mm) (Z0 2 (Xe (Eu 3 mm gc L.par) (Zz 1 b [.h (ga.cut mm),.h (gb.cut mm),.h (gc.cut mm),.h gd,.h ge,.h gf,Z3 ln] (ie (Zq 6 [0] (Zp (Ez 4 gd L.con mm) (Z0 2 (Xe (Eu 4 mm gd L.con) (Zz 1 b [.h (ga.cut mm),.h (gb.cut mm),.h (gc.cut mm),.h (gd.cut mm),.h ge,.h gf,Z3 ln] (ie (Zq 6 [0] (Zp (Ez 5 ge L.fst mm) (Z0 2 (Xe (Eu 5 mm ge L.fst) (Zz 1 b [.h (ga.cut mm),.h (gb.cut mm),.h (gc.cut mm),.h (gd.cut mm),.h (ge.cut mm),.h gf,Z3 ln] (ie (Zq 6 [0] (Zp (Ez 6 gf L.tok mm) (Z0 2 (Xe (Eu 6 mm gf L.tok) (Zz 1 b [.h (ga.cut mm),.h (gb.cut mm),.h (gc.cut mm),.h (gd.cut mm),.h (ge.cut mm),.h (gf.cut mm),Z3 ln] (ie (ar (Zl (r1 [0,5,4,3,2,1,0] (.inl ⟨(ga.cut mm),(gb.cut mm),(gc.cut mm),(gd.cut mm),(ge.cut mm),(gf.cut mm),(ZO.mk (L.vars.take mm) (L.own.take mm) (L.par.take mm) (L.con.take mm) (L.fst.take mm) (L.tok.take mm)),rfl,rfl,(by rw [JD,Zb (by rw [<-Zj,Xp om];rfl)];rfl)⟩) (eq:=(rc (rv (xs:=(L.vars.take mm)) ob (rv (xs:=(L.own.take mm)) ob (rv (xs:=(L.par.take mm)) ob (rv (xs:=(L.con.take mm)) ob (rv (xs:=(L.fst.take mm)) ob (rv (xs:=(L.tok.take mm)) ob rz)))))))))))))))))))))))))))))))))))))))))))))))
theorem Zcp (b:Nat) (ga:Hd) (gb:Hd) (gc:Hd) (gd:Hd) (ge:Hd) (gf:Hd) (n:ZH) (s:Z7) (L:ZO) (ln:LI) (q:Int) (x:Int) (hn:Xz n:=by exact ob) (hk:XN n.decls L q:=by exact ob) (hlb:L.vars.length<=1000000000:=by exact ob) (ha:s.args[0]? = some x:=by exact ob) (hx:0<=x/\x<L.vars.length:=by exact ob) (hq:0<=q/\q<=999999990:=by exact ob):Zm 166 [.p b 0,YH n,X5 s] [.obj b [.h ga,.h gb,.h gc,.h gd,.h ge,.h gf,Z3 ln],rV ga L.vars,rV gb L.own,rV gc L.par,rV gd L.con,rV ge L.fst,rV gf L.tok] (fun r h=>(∃(wa:Hd) (wb:Hd) (wc:Hd) (wd:Hd) (we:Hd) (wf:Hd) (L':ZO),r=.b true/\h=[.obj b [.h wa,.h wb,.h wc,.h wd,.h we,.h wf,Z3 ln],rV wa L'.vars,rV wb L'.own,rV wc L'.par,rV wd L'.con,rV we L'.fst,rV wf L'.tok]/\Ay n.decls L s.op x=some L')∨(r=.b false/\h=[]/\Ay n.decls L s.op x=none)):=by
 obtain ⟨e1,e2,e3,e4,e5⟩:=hk.len
 have Xr:=hn.decls
 have hal:=(X4.1 ha).1
 obtain ⟨xcon,hxcon⟩:=Zt L.con ((x).toNat) om
 have hgcon:=Tp hxcon
 obtain ⟨xtok,hxtok⟩:=Zt L.tok ((x).toNat) om
 have hgtok:=Tp hxtok
 obtain ⟨xfst,hxfst⟩:=Zt L.fst ((x).toNat) om
 have hgfst:=Tp hxfst
 have hfl:=Vr Xr xcon
 have har:=hk.arm x om om
 rw [hgcon,hgfst] at har
 refine ZF 105 Tryz.func166 (ar (iA (Xb n) fun b1=>iA (Wf s) fun b2=>Z1 (Zq 2 [0] (Zp (Zk none 0 1 (Y4 ha)) (Z1 (Yr 5 [2] (Zp (Uh 6 gd L.con x x.toNat (hq:=rfl)) (Vm (Qy 6 gd L.con x.toNat xcon hxcon) (X8 23 [0,4,5,7] [(36,.b ((decide (xcon<0))||((s.op==17)&&(decide (xtok>=0)))))] (fun gz=>gz) ?_ (fun hj1=>?_))))))))))
 ·refine Z0 1 (ib (b:=((decide (xcon<0))||((s.op==17)&&(decide (xtok>=0))))) 37 (fun Ze=>?_) (fun Ze=>?_))
  ·have Ya:(xcon<0)∨((s.op=17)/\(xtok>=0)):=((ZZ dq (Yt Zg dq))).1 Ze
   exact Z1 (Vq (ar (Zl (r1 [] (.inr ⟨rfl,rfl,(by rw [Ay,hgcon,hgtok,Zb om])⟩)))))
  have Ys:¬((xcon<0)∨((s.op=17)/\(xtok>=0))):=Y9 (ZZ dq (Yt Zg dq)) Ze
  refine Z0 2 (ic [2,2,2,2,2,2,2] (Hu b ga gb gc gd ge gf L ln x (hlk:=hk.len) (hq:=(fun y hy=>⟨hk.nn y hy,by have:=hk.bd y hy;omega⟩))) ?_)
  rintro _ _ (⟨wa1,wb1,wc1,wd1,we1,wf1,L'1,rfl,rfl,YR⟩|⟨rfl,rfl,X2⟩)
  ·obtain ⟨t1,t2,t3,t4,t5,t6,t7⟩:=JX YR
   have hk1:=hk.take YR
   obtain ⟨f1,f2,f3,f4,f5⟩:=hk1.len
   have hxcon1:L'1.con[x.toNat]? = some xcon:=by rw [t4];exact hxcon
   have hvl:L'1.vars.length=L.vars.length:=by rw [t2]
   have har2:=har om
   have hxfst1:L'1.fst[x.toNat]? = some xfst:=by rw [t5];exact hxfst
   refine Z1 (V9 (ak (aD 11 (ZY 4 11 [0,1,2,3,4,5,6] [8,0] (dx 7 (Uh 4 wd1 L'1.con x x.toNat (hq:=rfl)) (Uz 8 (Qy 4 wd1 L'1.con x.toNat xcon hxcon1) (Z9 9 (YL 9 [] [] [] (Qx n.decls xcon) (Zs 0 1 [10] (de (Y5 (ab 0 (Y3 (fun fz gz m F h=>∃(k:Nat) (o:LI),(k<=(ZP n.decls xcon).length)/\(o.length=L.vars.length)/\(∀y∈o,0<=y/\y<=q+k)/\(QD o (xfst+k) ((ZP n.decls xcon).drop k)=QD L'1.own xfst (ZP n.decls xcon))/\F=sF [0,5,7,8] fz [(9,.i k)]/\h=[Zh gz 0,Zh gz 1,rV wb1 o,Zh gz 3,Zh gz 4,Zh gz 5,Zh gz 6,Zh gz 7]/\m=(ZP n.decls xcon).length-k) _ _ _ ⟨0,L'1.own,ob,om,(by intro y hy;have h1:=hk1.nn y hy;have h2:=hk1.bd y hy;omega),(by rw [show xfst+((0:Nat):Int)=xfst by omega,Cl]),rfl,rfl,rfl⟩ (Zy 8 (Yf fl)) ?_)))))))))))))
   rintro m F h ⟨k,o,Yi,Zj,Zw,YO,rfl,rfl,rfl⟩
   refine YN 2 (io (.i (((ZP n.decls xcon).length:Nat):Int)) (.i (((Z6 (ZP n.decls xcon)).length:Nat):Int)) (li (by rw [Yd])) (Y2 ((k:Int)<(((ZP n.decls xcon).length:Nat):Int)) (fun Zc=>?_) (fun Zc=>?_)))
   ·refine ak (aq (ab 1 (Yc 2 ?_)))
    obtain ⟨x1,Z4⟩:=Zt (ZP n.decls xcon) k om
    refine Zp (Zk none (k:Int) 1 (Y4 Z4)) (Yx (x1 != 0) Yn (fun Zi=>?_) (fun Zi=>?_))
    ·refine aE 31 (ZY 22 31 [0,1,2,3,4,5,6,7,8] [0,0] (dx 9 (Uh 5 we1 L'1.fst x x.toNat (hq:=rfl)) (Uz 10 (Qy 5 we1 L'1.fst x.toNat xfst hxfst1) (Zs 19 20 [11] (da 12 ((xfst+(k:Int))) ((xfst)+((k:Int))) (ZY 9 18 [13,14,15,16,17,18,19,20,21] [0,0] (dx 22 (Uh 5 we1 L'1.fst x x.toNat (hq:=rfl)) (Uz 23 (Qy 5 we1 L'1.fst x.toNat xfst hxfst1) (Zs 6 7 [24] (da 25 ((xfst+(k:Int))) ((xfst)+((k:Int))) (dx 26 (Uh 2 wb1 o (xfst+(k:Int)) ((xfst+(k:Int)).toNat) (hq:=rfl)) ?_)))))))))))
     obtain ⟨x2,Zv⟩:=Zt o ((xfst+(k:Int)).toNat) om
     have hy2:=Zw _ (Y1 Zv)
     exact Uz 27 (Qy 2 wb1 o ((xfst+(k:Int)).toNat) x2 Zv) (da 28 ((x2+1)) ((x2)+(1)) (dx 29 (Uh 2 wb1 o (xfst+(k:Int)) ((xfst+(k:Int)).toNat) (hq:=rfl)) (Z9 30 (CH 30 2 [] [] wb1 o ((xfst+(k:Int)).toNat) (x2+1) (de (az (Z0 1 (ZD k (Z1 (ZG ⟨k+1,(o.set (xfst+(k:Nat)).toNat (x2+1)),ob,ob,(by intro y hy;first|(rcases JS hy with hy|rfl<;>first|(have:=Zw y hy;omega)|omega)|(have:=Zw y hy;omega)),(by rw [Yj Z4,QD] at YO;first|(rw [Zb Zi,Tp Zv] at YO;rw [show xfst+((k+1:Nat):Int)=xfst+k+1 by omega];exact YO)|(rw [Z5 Zi] at YO;rw [show xfst+((k+1:Nat):Int)=xfst+k+1 by omega];exact YO)),rfl,rfl,rfl⟩ (wk [1,1,0,0,0,0,0,0] (ZK k fl) (e:=(rc (rc (rv (xs:=(o.set ((xfst+(k:Int)).toNat) (x2+1))) ob (rc (rc (rc (rc (rc rz))))))))))))))))))))
    exact ak (az (Z0 1 (ZD k (Z1 (ZG ⟨k+1,o,ob,ob,(by intro y hy;first|(rcases JS hy with hy|rfl<;>first|(have:=Zw y hy;omega)|omega)|(have:=Zw y hy;omega)),(by rw [Yj Z4,QD] at YO;first|(rw [Zb Zi,Tp Zv] at YO;rw [show xfst+((k+1:Nat):Int)=xfst+k+1 by omega];exact YO)|(rw [Z5 Zi] at YO;rw [show xfst+((k+1:Nat):Int)=xfst+k+1 by omega];exact YO)),rfl,rfl,rfl⟩ (Zy 8 (ZK k fl)))))))
   refine ax 0 (Xh (WQ [7] (ac (s.op==17) Zg (fun ZB=>?_) (fun ZB=>?_))))
   ·refine az (ZC 6 [0] (io (.i (((ZP n.decls xcon).length:Nat):Int)) (.i (((Z6 (ZP n.decls xcon)).length:Nat):Int)) (li (by rw [Yd])) (Zp (Uh 6 wf1 L'1.tok x x.toNat (hq:=rfl)) (LY 6 wf1 L'1.tok x.toNat (((ZP n.decls xcon).length:Nat):Int) (ie (Y0 ?_))))))
    have hof:o=QD L'1.own xfst (ZP n.decls xcon):=by rw [<-YO,Xp om];rfl
    exact ZV (r1 [1,1,1,1,1,1,0] (.inl ⟨wa1,wb1,wc1,wd1,we1,wf1,(ZO.mk L'1.vars o L'1.par L'1.con L'1.fst (L'1.tok.set x.toNat (((ZP n.decls xcon).length:Nat):Int))),rfl,rfl,(by rw [Ay,hgcon,hgfst,hgtok,Z5 om,YR,hof,t6];simp [ZB,t2,t3,t4,t5])⟩) (eq:=(rc (rv (xs:=L'1.vars) ob (rv (xs:=o) ob (rv (xs:=L'1.par) ob (rv (xs:=L'1.con) ob (rv (xs:=L'1.fst) ob (rv (xs:=(L'1.tok.set x.toNat (((ZP n.decls xcon).length:Nat):Int))) ob rz)))))))))
   refine ak (Y0 ?_)
   have hof:o=QD L'1.own xfst (ZP n.decls xcon):=by rw [<-YO,Xp om];rfl
   exact ZV (r1 [0,0,0,0,0,0,0] (.inl ⟨wa1,wb1,wc1,wd1,we1,wf1,(ZO.mk L'1.vars o L'1.par L'1.con L'1.fst L'1.tok),rfl,rfl,(by rw [Ay,hgcon,hgfst,hgtok,Z5 om,YR,hof,t6];simp [ZB,t2,t3,t4,t5])⟩) (eq:=(rc (rv (xs:=L'1.vars) ob (rv (xs:=o) ob (rv (xs:=L'1.par) ob (rv (xs:=L'1.con) ob (rv (xs:=L'1.fst) ob (rv (xs:=L'1.tok) ob rz)))))))))
  exact Z1 (Vq (ar (Zl (r1 [] (.inr ⟨rfl,rfl,(by rw [Ay,hgcon,hgtok,Z5 om,X2])⟩)))))
 refine Z0 2 (ib (b:=(decide (xcon<0))) 22 (fun ZE=>?_) (fun ZE=>?_))
 ·have Xk:xcon<0:=(dq).1 ZE
  exact Z0 14 (Y8 (Zy 9 (Zo true ZE fl)) hj1)
 have XU:¬(xcon<0):=Y9 dq ZE
 refine ZC 4 [0] (ib (b:=(s.op==17)) 26 (fun Ym=>?_) (fun Ym=>?_))
 ·have Wi:s.op=17:=(Zg).1 Ym
  exact ZC 5 [2] (Zp (Uh 8 gf L.tok x x.toNat (hq:=rfl)) (Vm (Qy 8 gf L.tok x.toNat xtok hxtok) (Z0 3 (Y8 (Zy 9 (Zo (decide (xtok>=0)) (And.intro ZE Ym) fl)) hj1))))
 have V6:¬(s.op=17):=Y9 Zg Ym
 exact Z0 10 (Y8 (Zy 9 (Zo false (And.intro ZE Ym) fl)) hj1)
theorem Zco (b:Nat) (ga:Hd) (gb:Hd) (gc:Hd) (gd:Hd) (ge:Hd) (gf:Hd) (n:ZH) (s:Z7) (L:ZO) (ln:LI) (q:Int) (hn:Xz n:=by exact ob) (hnum:s.op=9->0<=s.num/\s.num<n.routines.length:=by exact ob) (hk:XN n.decls L q:=by exact ob) (hlb:L.vars.length<=1000000000:=by exact ob) (hargs:∀a∈s.args,0<=a/\a<L.vars.length) (hinto:0<s.into->s.into<=L.vars.length:=by exact ob) (hal:s.args.length<=1000000000:=by exact ob) (hln:ln.length<=4294967296:=by exact ob) (hq:0<=q/\q<=999999990:=by exact ob):Zm 168 [.p b 0,YH n,X5 s] [.obj b [.h ga,.h gb,.h gc,.h gd,.h ge,.h gf,Z3 ln],rV ga L.vars,rV gb L.own,rV gc L.par,rV gd L.con,rV ge L.fst,rV gf L.tok] (fun r h=>(∃(wa:Hd) (wb:Hd) (wc:Hd) (wd:Hd) (we:Hd) (wf:Hd) (L':ZO),r=.b true/\h=[.obj b [.h wa,.h wb,.h wc,.h wd,.h we,.h wf,Z3 ln],rV wa L'.vars,rV wb L'.own,rV wc L'.par,rV wd L'.con,rV we L'.fst,rV wf L'.tok]/\JF n ln L s.op s.num s.into s.args=some L')∨(r=.b false/\h=[]/\JF n ln L s.op s.num s.into s.args=none)):=by
 obtain ⟨e1,e2,e3,e4,e5⟩:=hk.len
 refine ZF 79 Tryz.func168 (ar (iA (Xb n) fun b1=>iA (Wf s) fun b2=>?_))
 refine Z1 (Y5 (ab 0 (Y3 (fun fz gz m F h=>∃(k:Nat) (L2:ZO) (ka:Hd) (kb:Hd) (kc:Hd) (kd:Hd) (ke:Hd) (kf:Hd),(k<=s.args.length)/\(XN n.decls L2 q)/\(L2.vars=L.vars)/\(KH n s.op s.num (s.args.drop k) k L2=KH n s.op s.num s.args 0 L)/\F=sF [0,4,5] fz [(7,.i k)]/\h=[Zh gz 0,Zh gz 1,.obj b [.h ka,.h kb,.h kc,.h kd,.h ke,.h kf,Z3 ln],rV ka L2.vars,rV kb L2.own,rV kc L2.par,rV kd L2.con,rV ke L2.fst,rV kf L2.tok]/\m=s.args.length-k) _ _ _ ⟨0,L,ga,gb,gc,gd,ge,gf,ob,hk,ob,ob,rfl,rfl,rfl⟩ (Zy 9 (Yf fl)) ?_)))
 rintro m F h ⟨k,L2,ka,kb,kc,kd,ke,kf,Yi,Zj,Zw,YO,rfl,rfl,rfl⟩
 refine Yr 3 [0] (iw (Yd s.args) (Y2 ((k:Int)<(s.args.length:Int)) (fun Zc=>?_) (fun Zc=>?_)))
 ·obtain ⟨a1,ha1⟩:=Zt s.args k om
  obtain ⟨e6,e7,e8,e9,e10⟩:=Zj.len
  have hav:=hargs a1 (Y1 ha1)
  have hvl:L2.vars.length=L.vars.length:=by rw [Zw]
  refine ak (aq (ab 1 (aD 18 (ZY 11 18 [0,1,2,3,4,5,6] [1,2,0] (Z9 7 (Ak 7 [3] [] [] [rV ka L2.vars] (Ie n L2.vars s k a1 (ha:=ha1)) Gu (gS (gL (v:=ka) 0 (gS (gS gN)))) (Jj Aw) ?_))))))
  rintro _ _ ⟨rfl,rfl⟩
  refine Zs 9 10 [8] (db (b:=JC n L2.vars s.op s.num a1 k) 24 (fun Ze=>?_) (fun Ze=>?_))
  ·have Ya:JC n L2.vars s.op s.num a1 k=true:=(Iff.rfl).1 Ze
   refine ZY 5 9 [9,10,11,12] [1] (dx 13 (Zk none (k:Int) 1 (Y4 ha1)) (Zs 3 4 [14] (Z9 15 (dc 15 [3,0,2,2,2,2,2] [] [] (Hu b ka kb kc kd ke kf L2 ln a1 (hlk:=Zj.len) (hq:=(fun y hy=>⟨Zj.nn y hy,by have:=Zj.bd y hy;omega⟩))) ?_))))
   rintro _ _ (⟨wa1,wb1,wc1,wd1,we1,wf1,L'1,rfl,rfl,Ys⟩|⟨rfl,rfl,YR⟩)
   ·obtain ⟨t1,t2,t3,t4,t5,t6,t7⟩:=JX Ys
    have hk2:=Zj.take Ys
    exact Zs 0 2 [16,17] (de (V9 (ak (az (Z0 1 (ZD k (Z1 (ZG ⟨k+1,L'1,wa1,wb1,wc1,wd1,we1,wf1,ob,hk2,(t2.trans Zw),(by rw [Yj ha1,KH,Zb Ya] at YO;simp only [Ys] at YO;exact YO),rfl,rfl,rfl⟩ (wk [7,7,0,0,0,0,0,0,0] (ZK k fl))))))))))
   exact Zs 0 2 [16,17] (de (Vq (ar (Zl (r1 [] (.inr ⟨rfl,rfl,(by rw [JF,<-YO,Yj ha1,KH,Zb Ya,YR])⟩))))))
  have X2:¬(JC n L2.vars s.op s.num a1 k=true):=Y9 Iff.rfl Ze
  exact Zs 0 9 [9,10,11,12,13,14,15,16,17] (de (V9 (ak (az (Z0 1 (ZD k (Z1 (ZG ⟨k+1,L2,ka,kb,kc,kd,ke,kf,ob,Zj,Zw,(by rw [Yj ha1,KH,Z5 X2] at YO;exact YO),rfl,rfl,rfl⟩ (wk [1,1,1,0,0,0,0,0,0] (ZK k fl))))))))))
 have hT:KH n s.op s.num s.args 0 L=some L2:=by rw [<-YO,Xp om];rfl
 obtain ⟨e6,e7,e8,e9,e10⟩:=Zj.len
 have hvl:L2.vars.length=L.vars.length:=by rw [Zw]
 refine ax 0 (Y5 (ab 2 (Y3 (fun fz gz m F h=>∃(j:Nat),(j<=s.args.length)/\(BT n s.op s.num ln L2 (s.args.drop j) j=BT n s.op s.num ln L2 s.args 0)/\F=sF [0,4,5] fz [(8,.i j)]/\h=gz/\m=s.args.length-j) _ _ _ ⟨0,ob,ob,rfl,rfl,rfl⟩ (Zy 9 (Yf fl)) ?_)))
 rintro m F h ⟨j,VB,XE,rfl,rfl,rfl⟩
 refine Yr 3 [0] (iw (Yd s.args) (Y2 ((j:Int)<(s.args.length:Int)) (fun Zi=>?_) (fun Zi=>?_)))
 ·obtain ⟨a2,ha2⟩:=Zt s.args j om
  have hav:=hargs a2 (Y1 ha2)
  refine ak (aq (ab 3 (Zq 3 [1,0] (Zu [] (FQ n s j) (Xs [0,4,5,8] [(54,.b (T8 n s.op s.num j&&(!Tf L2 ln a2)))] (fun gz=>[Zh gz 2,Zh gz 3,Zh gz 4,Zh gz 5,Zh gz 6,Zh gz 7,Zh gz 8,Zh gz 0,Zh gz 1]) ?_ ?_)))))
  ·refine Z0 1 (ib (b:=T8 n s.op s.num j) 45 (fun ZE=>?_) (fun ZE=>?_))
   ·exact ZC 4 [0] (Zp (Zk none (j:Int) 1 (Y4 ha2)) (Z0 1 (Zu [2,2,2,2,2,2,2] (Ht b ka kb kc kd ke kf L2 ln a2 (hlk:=Zj.len) (hd:=Zj.down)) (Z1 (Zy 9 (Zo (!Tf L2 ln a2) ZE fl))))))
   exact Z1 (wk [2,2,2,2,2,2,2,0,0] (Zo false ZE fl))
  refine ac (T8 n s.op s.num j&&(!Tf L2 ln a2)) (p:=(T8 n s.op s.num j=true)/\(¬(Tf L2 ln a2=true))) (Yt Iff.rfl (Yl Iff.rfl)) (fun ZB=>?_) (fun ZB=>?_)
  ·refine Y0 ?_
   have hA:BT n s.op s.num ln L2 s.args 0=false:=by rw [<-XE,Yj ha2,BT,Zb ZB]
   exact ZV (r1 [] (.inr ⟨rfl,rfl,(by rw [JF,hT];simp only [hA];rfl)⟩))
  exact ak (az (Z0 1 (ZD j (Z1 (ZG ⟨j+1,ob,(by rw [Yj ha2,BT,Z5 ZB] at XE;exact XE),rfl,rfl,rfl⟩ (wk [7,7,0,0,0,0,0,0,0] (ZK j fl)))))))
 have hA:BT n s.op s.num ln L2 s.args 0=true:=by rw [<-XE,Xp om];rfl
 refine ax 2 (Xh (WQ [0] (WJ (s.into>0) (fun Y7=>?_) (fun Y7=>?_))))
 ·obtain ⟨xt,hxt⟩:=Zt L2.tok ((s.into-1).toNat) (by have:=hinto Y7;omega)
  have hgt:=Tp hxt
  refine aq (aD 13 (ZY 7 13 [0,1,2,3,4,5] [2,0] (da 6 ((s.into-1)) ((s.into)-(1)) (dx 7 (Uh 8 kf L2.tok (s.into-1) ((s.into-1).toNat) (hq:=rfl)) (Uz 8 (Qy 8 kf L2.tok ((s.into-1).toNat) xt hxt) (ZY 2 4 [9,10] [0] (dw 11 (Yd s.args) (Zs 0 1 [12] (de (ac (xt != (s.args.length:Int)) Yn (fun YM=>?_) (fun YM=>?_)))))))))))
  ·exact ar (Zl (r1 [] (.inr ⟨rfl,rfl,(by rw [JF,hT];simp only [hA,↓reduceIte];rw [EY,Zb Y7,hgt,Zb YM])⟩)))
  exact ak (aE 9 (ZY 3 9 [0,1,2,3,4,5] [2,0] (da 6 ((s.into-1)) ((s.into)-(1)) (dx 7 (Uh 8 kf L2.tok (s.into-1) ((s.into-1).toNat) (hq:=rfl)) (Z9 8 (CH 8 8 [] [] kf L2.tok ((s.into-1).toNat) (-1) (de (ar (Zl (r1 [3,3,3,3,3,3,0] (.inl ⟨ka,kb,kc,kd,ke,kf,(ZO.mk L2.vars L2.own L2.par L2.con L2.fst (L2.tok.set ((s.into-1).toNat) (-1))),rfl,rfl,(by rw [JF,hT];simp only [hA,↓reduceIte];rw [EY,Zb Y7,hgt,Z5 YM])⟩) (eq:=(rc (rv (xs:=L2.vars) ob (rv (xs:=L2.own) ob (rv (xs:=L2.par) ob (rv (xs:=L2.con) ob (rv (xs:=L2.fst) ob (rv (xs:=(L2.tok.set ((s.into-1).toNat) (-1))) ob rz))))))))))))))))))
 exact ak (ar (Zl (r1 [2,2,2,2,2,2,2] (.inl ⟨ka,kb,kc,kd,ke,kf,L2,rfl,rfl,(by rw [JF,hT];simp only [hA,↓reduceIte];rw [EY,Z5 Y7])⟩))))
theorem Z8t (b:Za) (t:Int) (hz:b.sz<=1000000) (ih:∀(b2:Za) (t:Int),(b2.sz<=1000000)->(b2.sz<b.sz)->Zm 219 [Yp b2,.i t] [] (fun r h=>∃(wr:Bool),r=.b wr/\h=[])):Zm 219 [Yp b,.i t] [] (fun r h=>∃(wr:Bool),r=.b wr/\h=[]):=by
 have ZL:=UG b
 have hbl:=Jr b.steps
 have hbe:=b.sz_eq
 refine ZF 53 Tryz.func219 (ar (iA (W3 b) fun b1=>?_))
 refine Z1 (Y5 (ab 0 (Y3 (fun fz gz m F h=>∃(k:Nat),(k<=b.steps.length)/\F=sF [1,2] fz [(5,.i k)]/\h=gz/\m=b.steps.length-k) _ _ _ ⟨0,ob,rfl,rfl,rfl⟩ (wk [0] (Yf fl)) ?_)))
 rintro m F h ⟨k,Yi,rfl,rfl,rfl⟩
 refine Yr 3 [0] (iw (UJ b.steps) (Y2 ((k:Int)<(b.steps.length:Int)) (fun Zc=>?_) (fun Zc=>?_)))
 ·refine ak (aq (ab 1 (Yr 3 [0] ?_)))
  obtain ⟨x1,Z4⟩:=Zt b.steps k om
  have hxs:=N5 (Y1 Z4)
  have hxe:=(x1).sz_eq
  have hxk:=Ki x1
  refine Zp (Zk none (k:Int) 5 (Va Z4)) (Xs [1,2,5] [(30,.b ((x1.op==10)&&(x1.num==t)))] (fun gz=>gz) ?_ ?_)
  ·refine Z0 4 (ib (b:=(x1.op==10)) 21 (fun Ze=>?_) (fun Ze=>?_))
   ·exact ZC 3 [0] (Zp (Zk none (k:Int) 5 (Va Z4)) (Z1 (wk [0] (Zo (x1.num==t) Ze fl))))
   exact Z1 (wk [0] (Zo false Ze fl))
  refine ac ((x1.op==10)&&(x1.num==t)) (p:=(x1.op=10)/\(x1.num=t)) (Yt Zg Zg) (fun Zi=>?_) (fun Zi=>?_)
  ·exact ar (Zl (r1 [] ⟨true,rfl,rfl⟩))
  refine ak (Y0 (ab 2 (Y3 (fun fz gz m F h=>∃(j:Nat),(j<=x1.kids.length)/\F=sF [1,2,5] fz [(6,.i j)]/\h=gz/\m=x1.kids.length-j) _ _ _ ⟨0,ob,rfl,rfl,rfl⟩ (wk [0] (Yf fl)) ?_)))
  rintro m F h ⟨j,VB,rfl,rfl,rfl⟩
  refine Yr 4 [0] (Zp (Zk none (k:Int) 5 (Va Z4)) (Z0 2 (iw (KF x1.kids) (Y2 ((j:Int)<(x1.kids.length:Int)) (fun ZB=>?_) (fun ZB=>?_)))))
  ·refine ak (aq (ab 3 (Zq 3 [0] (Zp (Zk none (k:Int) 5 (Va Z4)) (Z0 3 ?_)))))
   obtain ⟨x2,Zv⟩:=Zt x1.kids j om
   have hkx:=IN (Y1 Zv)
   refine Zp (Zk none (j:Int) 2 (T3 Zv)) (Z0 2 (ic [] (ih x2 t ob ob) ?_))
   rintro _ _ ⟨wr1,rfl,rfl⟩
   refine ie (ac wr1 Iff.rfl (fun Y7=>?_) (fun Y7=>?_))
   ·exact ar (Zl (r1 [] ⟨true,rfl,rfl⟩))
   exact ak (az (Z0 1 (ZD j (Z1 (ZG ⟨j+1,ob,rfl,rfl,rfl⟩ (wk [0] (ZK j fl)))))))
  exact ax 2 (az (Z0 1 (ZD k (Z1 (ZG ⟨k+1,ob,rfl,rfl,rfl⟩ (wk [0] (ZK k fl)))))))
 exact ax 0 (ar (Zl (r1 [] ⟨false,rfl,rfl⟩)))
theorem Z8s (b:Za) (t:Int) (hz:b.sz<=1000000:=by exact ob):Zm 219 [Yp b,.i t] [] (fun r h=>∃(wr:Bool),r=.b wr/\h=[]):=by
 have key:∀k:Nat,∀(b2:Za) (t:Int),(b2.sz<=1000000)->(b2.sz<k)->Zm 219 [Yp b2,.i t] [] (fun r h=>∃(wr:Bool),r=.b wr/\h=[]):=by
  intro k
  induction k with
  | zero=>intro b2 t h1 h2;omega
  | succ k ih=>intro b2 t h1 h2;exact Z8t b2 t h1 fun b3 t3 q1 q2=>ih b3 t3 q1 om
 exact key (b.sz+1) b t hz om
theorem Z9d (n:ZH) (t:Int) (qz:Nat) (hn:FN n qz:=by exact ob) (hqz:qz<=100000:=by exact ob):Zm 187 [YH n,.i t] [] (fun r h=>∃(wr:Bool),r=.b wr/\h=[]):=by
 have hnl:=hn.len
 refine ZF 21 Tryz.func187 (ar (iA (Xb n) fun b1=>?_))
 refine Z1 (Y5 (ab 0 (Y3 (fun fz gz m F h=>∃(k:Nat),(k<=n.routines.length)/\F=sF [1,2] fz [(5,.i k)]/\h=gz/\m=n.routines.length-k) _ _ _ ⟨0,ob,rfl,rfl,rfl⟩ (wk [0] (Yf fl)) ?_)))
 rintro m F h ⟨k,Yi,rfl,rfl,rfl⟩
 refine Yr 3 [0] (iw (Q2 n.routines) (Y2 ((k:Int)<(n.routines.length:Int)) (fun Zc=>?_) (fun Zc=>?_)))
 ·refine ak (aq (ab 1 (Zq 3 [0] ?_)))
  obtain ⟨x1,Z4⟩:=Zt n.routines k om
  have hbz:=(hn.body _ (Y1 Z4)).2
  refine Zp (Zk none (k:Int) 5 (VT Z4)) (Z0 3 (ic [] (Z8s x1.body t) ?_))
  rintro _ _ ⟨wr1,rfl,rfl⟩
  refine ie (ac wr1 Iff.rfl (fun Zi=>?_) (fun Zi=>?_))
  ·exact ar (Zl (r1 [] ⟨true,rfl,rfl⟩))
  exact ak (az (Z0 1 (ZD k (Z1 (ZG ⟨k+1,ob,rfl,rfl,rfl⟩ (wk [0] (ZK k fl)))))))
 exact ax 0 (ar (Zl (r1 [] ⟨false,rfl,rfl⟩)))
theorem Po (fs:LI) (q:Nat) (hl:fs.length<=1000000:=by exact ob) (hq:q<=1000000:=by exact ob):Zm 108 [Z3 fs,.i q] [] (fun r h=>∃(xs:LI),r=Z3 xs/\h=[]/\xs.length<=fs.length/\∀i∈xs,(q:Int)<=i/\i<(q:Int)+fs.length):=by
 refine ZF 26 Tryz.func108 (Y0 (ar (iL (Z6 []) 0 1 fun v1=>?_)))
 refine Z1 (Y5 (ab 0 (Y3 (fun fz gz m F h=>∃(k:Nat) (ys:LI) (u:Value),(k<=fs.length)/\(ys.length<=k)/\(∀i∈ys,(q:Int)<=i/\i<(q:Int)+fs.length)/\F=sF [0,1] fz [(5,ZI ys u),(6,.i k)]/\h=[.tail u 1]/\m=fs.length-k) _ _ _ ⟨0,[],v1,ob,ob,(fun i hi=>by cases hi),rfl,rfl,rfl⟩ (wk [0] (fr (Yf fl))) ?_)))
 rintro m F h ⟨k,ys,u,Yi,Zj,Zw,rfl,rfl,rfl⟩
 refine YN 2 (iw (Yd fs) (Y2 ((k:Int)<(fs.length:Int)) (fun Zc=>?_) (fun Zc=>?_)))
 ·refine ak (aq (ab 1 (Yc 2 ?_)))
  obtain ⟨x1,Z4⟩:=Zt fs k om
  refine Zp (Zk none (k:Int) 1 (Y4 Z4)) (Yx (x1 != 0) Yn (fun Zi=>?_) (fun Zi=>?_))
  ·exact az (Z0 3 (ia (((q+k:Nat):Int)) (((q:Int))+((k:Int))) (iL (Z6 [((q+k:Nat):Int)]) 1 1 fun v2=>ZU 0 [(23,Z3 [((q+k:Nat):Int)])] (ip 1 (Z6 (ys++[((q+k:Nat):Int)])) (Z6 ys) (Z6 [((q+k:Nat):Int)]) u none 1 (YE _) (YE _) (W6 _) (by simp<;>omega) (by simp [W8,Z6]) fun v3=>Z1 (az (Z0 1 (ZD k (Z1 (ZG ⟨k+1,(ys++[((q+k:Nat):Int)]),v3,ob,ob,(XI Zw om),rfl,rfl,rfl⟩ (wk [0] (fr (ZK k fl))))))))))))
  exact ak (az (Z0 1 (ZD k (Z1 (ZG ⟨k+1,ys,u,ob,ob,ob,rfl,rfl,rfl⟩ (wk [0] (fr (ZK k fl))))))))
 exact ax 0 (ar (Zl (r2 [] [ZI ys u] ⟨ys,rfl,rfl,⟨by omega,Zw⟩⟩ (Zd.forget _ _))))
theorem Ph (n:ZH) (qz:Nat) (hn:FN n qz:=by exact ob) (hqz:qz<=100000:=by exact ob):Zm 153 [YH n] [] (fun r h=>∃(xs:List LI),r=E7 xs/\h=[]/\LC n n.routines.length xs):=by
 have hnl:=hn.len
 refine ZF 31 Tryz.func153 (ar (iA (Xb n) fun b1=>Z1 (ar (iL (Vs []) 0 1 fun v1=>?_))))
 refine Z1 (Y5 (ab 0 (Y3 (fun fz gz m F h=>∃(k:Nat) (ys:List LI) (u:Value),(k<=n.routines.length)/\(ys.length=k)/\(LC n k ys)/\F=sF [1] fz [(3,Mu ys u),(4,.i k)]/\h=[Zh gz 1,.tail u 1]/\m=n.routines.length-k) _ _ _ ⟨0,[],v1,ob,ob,LC.nil,rfl,rfl,rfl⟩ (wk [1,0] (fr (Yf fl))) ?_)))
 rintro m F h ⟨k,ys,u,Yi,Zj,Zw,rfl,rfl,rfl⟩
 refine Yr 3 [0] (iw (Q2 n.routines) (Y2 ((k:Int)<(n.routines.length:Int)) (fun Zc=>?_) (fun Zc=>?_)))
 ·refine ak (aq (ab 1 (Zq 2 [0] (ic [] (Z9d n (k:Int) qz) ?_))))
  rintro _ _ ⟨wr1,rfl,rfl⟩
  refine ie (ac wr1 Iff.rfl (fun Zi=>?_) (fun Zi=>?_))
  ·exact az (Z0 1 (iL (Z6 []) 0 1 fun v2=>ZU 0 [(17,Z3 [])] (iL (Vs [[]]) 1 1 fun v3=>ZU 0 [(18,E7 [[]])] (ip 3 (Vs (ys++[[]])) (Vs ys) (Vs [[]]) u none 1 (DJ _) (DJ _) (Lj _) (by simp<;>omega) (by simp [Li,Vs]) fun v4=>Z1 (az (Z0 1 (ZD k (Z1 (ZG ⟨k+1,(ys++[[]]),v4,ob,ob,(Zw.snoc (by simp) (fun r hr v hv=>by cases hv)),rfl,rfl,rfl⟩ (wk [3,0] (fr (ZK k fl))))))))))))
  refine az (ZC 4 [0] ?_)
  obtain ⟨x1,Z4⟩:=Zt n.routines k om
  have hrp:=(FN.ok hn).params_at Z4
  have hss:=(Ty.bd (f:=⟨(x1).params,(x1).result,default⟩) (hn.sigs _ (Y1 Z4))).1
  refine Zp (Zk none (k:Int) 5 (VT Z4)) (Z0 2 (ic [] (Po x1.params 0) ?_))
  rintro _ _ ⟨xs1,rfl,rfl,Ya⟩
  have hhf:=Ya
  exact iL (Vs [xs1]) 1 1 fun v5=>ZU 0 [(28,E7 [xs1])] (ip 2 (Vs (ys++[xs1])) (Vs ys) (Vs [xs1]) u none 1 (DJ _) (DJ _) (Lj _) (by simp<;>omega) (by simp [Li,Vs]) fun v6=>Z1 (az (Z0 1 (ZD k (Z1 (ZG ⟨k+1,(ys++[xs1]),v6,ob,ob,(Zw.snoc om (fun r hr v hv=>by rw [Z4] at hr;cases hr;have:=hhf.2 v hv;omega)),rfl,rfl,rfl⟩ (wk [2,0] (fr (ZK k fl)))))))))
 exact ax 0 (ar (Zl (r2 [] [Mu ys u] ⟨ys,rfl,rfl,(by rw [show n.routines.length=k by omega];exact Zw)⟩ (Zd.forget _ _))))
theorem Z8w (n:ZH) (b:Za) (t:Int) (mq:Nat) (hn:Xz n) (hf:fB n.decls n.routines.length mq b) (hz:b.sz<=1000000) (ih:∀(b2:Za) (t:Int) (m2:Nat),(fB n.decls n.routines.length m2 b2)->(b2.sz<=1000000)->(b2.sz<b.sz)->Zm 188 [YH n,Yp b2,.i t] [] (fun r h=>∃(wr:Bool),r=.b wr/\h=[])):Zm 188 [YH n,Yp b,.i t] [] (fun r h=>∃(wr:Bool),r=.b wr/\h=[]):=by
 have hbl:=Jr b.steps
 have hbe:=b.sz_eq
 refine ZF 68 Tryz.func188 (ar (iA (Xb n) fun b1=>iA (W3 b) fun b2=>Z1 (Xh (WQ [0] (ac (b.result==t) Zg (fun Zc=>?_) (fun Zc=>?_))))))
 ·exact ar (Zl (r1 [] ⟨true,rfl,rfl⟩))
 refine ak (Y5 (ab 0 (Y3 (fun fz gz m F h=>∃(k:Nat),(k<=b.steps.length)/\F=sF [2,3,4] fz [(7,.i k)]/\h=gz/\m=b.steps.length-k) _ _ _ ⟨0,ob,rfl,rfl,rfl⟩ (wk [0,0] (Yf fl)) ?_)))
 rintro m F h ⟨k,Yi,rfl,rfl,rfl⟩
 refine Yr 3 [0] (iw (UJ b.steps) (Y2 ((k:Int)<(b.steps.length:Int)) (fun Zi=>?_) (fun Zi=>?_)))
 ·refine ak (aq (ab 1 (Zq 3 [0] ?_)))
  obtain ⟨x1,Z4⟩:=Zt b.steps k om
  have hfs:=(B5 x1).1 (DO ((Ja b).1 hf).1 Z4)
  have hxs:=N5 (Y1 Z4)
  have hxe:=(x1).sz_eq
  have hxk:=Ki x1
  refine Zp (Zk none (k:Int) 5 (Va Z4)) (Z0 1 (iA [.i 0,.i 0,.i 0,nl,nl] fun b3=>?_))
  refine Zz 0 b3 (Wf x1) (ie (Y5 (ab 2 (Y3 (fun fz gz m F h=>∃(j:Nat),(j<=x1.args.length)/\F=sF [2,3,4,7,8] fz [(9,.i j)]/\h=gz/\m=x1.args.length-j) _ _ _ ⟨0,ob,rfl,rfl,rfl⟩ (Zy 3 (Yf fl)) ?_))))
  rintro m F h ⟨j,VB,rfl,rfl,rfl⟩
  refine Yr 3 [0] (iw (Yd x1.args) (Y2 ((j:Int)<(x1.args.length:Int)) (fun ZB=>?_) (fun ZB=>?_)))
  ·refine ak (aq (ab 3 (Zq 3 [0] ?_)))
   obtain ⟨x2,Zv⟩:=Zt x1.args j om
   refine Zp (Zk none (j:Int) 1 (Y4 Zv)) (X8 12 [2,3,4,7,8,9] [(45,.b ((x2==t)&&Aj x1.op))] (fun gz=>gz) ?_ (fun hj1=>?_))
   ·refine Xs [2,3,4,7,8,9] [(52,.b (((x2==t)&&Aj x1.op)&&(!T8 n x1.op x1.num j)))] (fun gz=>gz) ?_ ?_
    ·refine Z0 1 (ib (b:=((x2==t)&&Aj x1.op)) 46 (fun Ze=>?_) (fun Ze=>?_))
     ·exact ZC 3 [2,0] (Zu [] (FQ n x1 j (hnum:=hfs.call)) (Z1 (Zy 3 (Zo (!T8 n x1.op x1.num j) Ze fl))))
     exact Z1 (Zy 3 (Zo false Ze fl))
    refine ac (((x2==t)&&Aj x1.op)&&(!T8 n x1.op x1.num j)) (p:=((x2=t)/\(Aj x1.op=true))/\(¬(T8 n x1.op x1.num j=true))) (Yt (Yt Zg Iff.rfl) (Yl Iff.rfl)) (fun Y7=>?_) (fun Y7=>?_)
    ·exact ar (Zl (r1 [] ⟨true,rfl,rfl⟩))
    exact ak (az (Z0 1 (ZD j (Z1 (ZG ⟨j+1,ob,rfl,rfl,rfl⟩ (Zy 3 (ZK j fl)))))))
   refine Z0 4 (ib (b:=(x2==t)) 41 (fun ZE=>?_) (fun ZE=>?_))
   ·exact ZC 2 [0] (Zu [] (Z1f x1.op) (Z0 1 (Y8 (Zy 3 (Zo (Aj x1.op) ZE fl)) hj1)))
   exact Z0 4 (Y8 (Zy 3 (Zo false ZE fl)) hj1)
  refine ax 2 (Y0 (ab 4 (Y3 (fun fz gz m F h=>∃(j:Nat),(j<=x1.kids.length)/\F=sF [2,3,4,7,8] fz [(10,.i j)]/\h=gz/\m=x1.kids.length-j) _ _ _ ⟨0,ob,rfl,rfl,rfl⟩ (Zy 3 (Yf fl)) ?_)))
  rintro m F h ⟨j,IS,rfl,rfl,rfl⟩
  refine Yr 3 [0] (iw (KF x1.kids) (Y2 ((j:Int)<(x1.kids.length:Int)) (fun YM=>?_) (fun YM=>?_)))
  ·refine ak (aq (ab 5 (aD 8 (ZY 4 8 [0,1,2,3] [2,0] ?_))))
   obtain ⟨x3,YT⟩:=Zt x1.kids j om
   have hkx:=IN (Y1 YT)
   have hfk:=BO hfs.kids YT
   refine dx 4 (Zk none (j:Int) 2 (T3 YT)) (Zs 1 3 [5,6] (Z9 7 (dc 7 [] [] [] (ih x3 t (V0 n.decls x1.op x1.num (mq+Yu (b.steps.take k)) (0+j)) hfk ob ob) ?_)))
   rintro _ _ ⟨wr1,rfl,rfl⟩
   refine de (ac wr1 Iff.rfl (fun YZ=>?_) (fun YZ=>?_))
   ·exact ar (Zl (r1 [] ⟨true,rfl,rfl⟩))
   exact ak (az (Z0 1 (ZD j (Z1 (ZG ⟨j+1,ob,rfl,rfl,rfl⟩ (Zy 3 (ZK j fl)))))))
  exact ax 4 (az (Z0 1 (ZD k (Z1 (ZG ⟨k+1,ob,rfl,rfl,rfl⟩ (wk [1,1] (ZK k fl)))))))
 exact ax 0 (ar (Zl (r1 [] ⟨false,rfl,rfl⟩)))
theorem Z8v (n:ZH) (b:Za) (t:Int) (mq:Nat) (hn:Xz n:=by exact ob) (hf:fB n.decls n.routines.length mq b:=by exact ob) (hz:b.sz<=1000000:=by exact ob):Zm 188 [YH n,Yp b,.i t] [] (fun r h=>∃(wr:Bool),r=.b wr/\h=[]):=by
 have key:∀k:Nat,∀(b2:Za) (t:Int) (m2:Nat),(fB n.decls n.routines.length m2 b2)->(b2.sz<=1000000)->(b2.sz<k)->Zm 188 [YH n,Yp b2,.i t] [] (fun r h=>∃(wr:Bool),r=.b wr/\h=[]):=by
  intro k
  induction k with
  | zero=>intro b2 t m2 h1 h2 h3;omega
  | succ k ih=>intro b2 t m2 h1 h2 h3;exact Z8w n b2 t m2 hn h1 h2 fun b3 t3 m3 q1 q2 q3=>ih b3 t3 m3 q1 q2 om
 exact key (b.sz+1) b t mq hf hz om
theorem Z9e (n:ZH) (rt:YD) (i:Nat) (qz:Nat) (hn:FN n qz:=by exact ob) (hqz:qz<=100000:=by exact ob) (hr:n.routines[i]? = some rt:=by exact ob):Zm 154 [YH n,.i i] [] (fun r h=>∃(xs:LI),r=Z3 xs/\h=[]/\xs.length<=rt.lent.length/\∀v∈xs,v∈rt.lent):=by
 have hok:=FN.ok hn
 have hrl:=hn.lent rt (Y1 hr)
 have hrb:=hn.body rt (Y1 hr)
 obtain ⟨hil,_⟩:=X4.1 hr
 have hnl:=hn.len
 refine ZF 50 Tryz.func154 (ar (iA (Xb n) fun b1=>Z1 (ar (iL (Z6 []) 0 1 fun v1=>?_))))
 refine Z1 (Y5 (ab 0 (Y3 (fun fz gz m F h=>∃(k:Nat) (ys:LI) (u:Value),(k<=rt.lent.length)/\(ys.length<=k)/\(∀v∈ys,v∈rt.lent)/\F=sF [1,2] fz [(5,ZI ys u),(6,.i k)]/\h=[Zh gz 1,.tail u 1]/\m=rt.lent.length-k) _ _ _ ⟨0,[],v1,ob,ob,(fun v hv=>by cases hv),rfl,rfl,rfl⟩ (wk [1,0] (fr (Yf fl))) ?_)))
 rintro m F h ⟨k,ys,u,Yi,Zj,Zw,rfl,rfl,rfl⟩
 refine Yr 4 [0] (Zp (Zk none (i:Int) 5 (VT hr)) (Z0 2 (iw (Yd rt.lent) (Y2 ((k:Int)<(rt.lent.length:Int)) (fun Zc=>?_) (fun Zc=>?_)))))
 ·refine ak (aq (ab 1 (aD 18 (ZY 14 18 [0,1,2,3] [0,0] (dx 4 (Zk none (i:Int) 5 (VT hr)) (ZY 8 13 [5,6,7,8,9] [0] (dx 10 (Zk none (i:Int) 5 (VT hr)) (Zs 4 7 [11,12,13] ?_))))))))
  obtain ⟨x1,Z4⟩:=Zt rt.lent k om
  refine dx 14 (Zk none (k:Int) 1 (Y4 Z4)) (Zs 2 3 [15] (Z9 16 (dc 16 [] [] [] (Z8v n rt.body x1 rt.params.length (hn:=hok) (hf:=hrb.1)) ?_)))
  rintro _ _ ⟨wr1,rfl,rfl⟩
  refine Zs 0 1 [17] (de (ac (!wr1) (p:=¬(wr1=true)) (Yl Iff.rfl) (fun Zi=>?_) (fun Zi=>?_)))
  ·exact az (ZC 4 [0] (Zp (Zk none (i:Int) 5 (VT hr)) (Z0 3 (Zp (Zk none (k:Int) 1 (Y4 Z4)) (Z0 1 (iL (Z6 [x1]) 1 1 fun v2=>ZU 0 [(47,Z3 [x1])] (ip 2 (Z6 (ys++[x1])) (Z6 ys) (Z6 [x1]) u none 1 (YE _) (YE _) (W6 _) (by simp<;>omega) (by simp [W8,Z6]) fun v3=>Z1 (az (Z0 1 (ZD k (Z1 (ZG ⟨k+1,(ys++[x1]),v3,ob,ob,(XI Zw (Y1 Z4)),rfl,rfl,rfl⟩ (wk [2,0] (fr (ZK k fl)))))))))))))))
  exact ak (az (Z0 1 (ZD k (Z1 (ZG ⟨k+1,ys,u,ob,ob,ob,rfl,rfl,rfl⟩ (wk [0,0] (fr (ZK k fl))))))))
 exact ax 0 (ar (Zl (r2 [] [ZI ys u] ⟨ys,rfl,rfl,⟨by omega,Zw⟩⟩ (Zd.forget _ _))))
theorem Zgw (s:Z7) (ih:∀(b2:Za),(b2.sz<s.sz)->(b2.sz<=1000000000)->Zm 186 [Yp b2] [] (Yw (Yp b2))) (hz:s.sz<=1000000000):Zm 218 [X5 s] [] (Yw (X5 s)):=by
 have hkz:=Ki s
 have haz:=JB s
 refine ZF 33 Tryz.func218 (ar (iA (Wf s) fun b1=>iA [.i 0,.i 0,.i 0,nl,nl] fun b2=>ie (ar (iL (XT []) 0 2 fun v1=>?_))))
 refine Z1 (Y5 (ab 0 (Y3 (fun fz gz m F h=>∃(k:Nat) (v:Value),(k<=s.kids.length)/\F=sF [1,2] fz [(3,Qv (s.kids.take k) v),(4,.i k)]/\h=[Zh gz 1,Zh gz 2,.tail v 2]/\m=s.kids.length-k) _ _ _ ⟨0,v1,ob,rfl,rfl,rfl⟩ (wk [1,1,0] (fc (x:=Qv [] v1) (Zd.slh _ (Yg XT rfl)) (Yf fl))) ?_)))
 rintro m F h ⟨k,v,Yi,rfl,rfl,rfl⟩
 refine Yr 3 [1] (iw (KF s.kids) (Y2 ((k:Int)<(s.kids.length:Int)) (fun Zc=>?_) (fun Zc=>?_)))
 ·refine ak (aq (ab 1 (az (ZC 4 [1] ?_))))
  obtain ⟨x1,Z4⟩:=Zt s.kids k om
  have hks:=Qs Z4
  exact Zp (Zk none (k:Int) 2 (T3 Z4)) (Z0 1 (Zu [] (ih x1 ob ob) (iL [Yp x1] 1 2 fun v2=>ZU 0 [(20,.sl [Yp x1] none)] (ip 3 (XT (s.kids.take (k+1))) (XT (s.kids.take k)) [Yp x1] v none 2 (J8 _) (KM rfl) rfl (by simp<;>omega) (by rw [V1 Z4];simp [K8]) fun v3=>Z1 (az (Z0 1 (ZD k (Z1 (ZG ⟨k+1,v3,ob,rfl,rfl,rfl⟩ (wk [2,2,0] (fr (ZK k fl))))))))))))
 refine ax 0 (aD 12 (ZY 3 12 [0,1,2,3,4,5,6,7,9] [1,1,1,1] (Z9 8 (dc 8 [] [1,1,1] [b1,b1,b1] (WX s.args) ?_))))
 rintro _ _ ⟨v4,rfl,rfl⟩
 exact Zs 1 2 [10] (Z9 11 (YX 11 1 [] [] b2 [.i s.op,.i s.num,.i s.into,ZI s.args v4,Qv (s.kids.take k) v] (de (ZV (r3 [] [.agg [.i s.op,.i s.num,.i s.into,ZI s.args v4,Qv (s.kids.take k) v]] [0] [(b2,b2)] ⟨rfl,rfl⟩ (Zd.agg (.cons (lr _) (.cons (lr _) (.cons (lr _) (.cons (Zd.forget _ _) (.cons (Zd.sl _ (Yg XT (by rw [Wg om]))) .nil)))))))))))
theorem Zgt (b:Za) (ih:∀(s2:Z7),(s2.sz<b.sz)->(s2.sz<=1000000000)->Zm 218 [X5 s2] [] (Yw (X5 s2))) (hz:b.sz<=1000000000):Zm 186 [Yp b] [] (Yw (Yp b)):=by
 have hbz:=UG b
 refine ZF 28 Tryz.func186 (ar (iA (W3 b) fun b1=>iA [nl,.i 0] fun b2=>ie (ar (iL (ZT []) 0 5 fun v1=>ZC 3 [2] (iA [nl,.i 0] fun b3=>?_)))))
 refine Zz 0 b3 [Xl [] v1,.i b.result] (ie (Y5 (ab 0 (Y3 (fun fz gz m F h=>∃(k:Nat) (v:Value),(k<=b.steps.length)/\F=sF [1,2,3] fz [(4,.i k)]/\h=[.obj b3 [Xl (b.steps.take k) v,.i b.result],Zh gz 2,Zh gz 3,.tail v 5]/\m=b.steps.length-k) _ _ _ ⟨0,v1,ob,rfl,rfl,rfl⟩ (wk [0,1,1,0] (Yf fl)) ?_))))
 rintro m F h ⟨k,v,Yi,rfl,rfl,rfl⟩
 refine Yr 3 [2] (iw (UJ b.steps) (Y2 ((k:Int)<(b.steps.length:Int)) (fun Zc=>?_) (fun Zc=>?_)))
 ·refine ak (aq (ab 1 (aE 12 (ZY 7 12 [0,1,2,3,4] [0,2] ?_))))
  obtain ⟨x1,Z4⟩:=Zt b.steps k om
  have hss:=Et Z4
  exact dx 5 (Zk none (k:Int) 5 (Va Z4)) (Zs 5 6 [6] (Z9 7 (YL 7 [] [0] [b3] (ih x1 ob ob) (Z9 8 (dL 8 [0] [b3] [X5 x1] 1 5 fun v2=>Yv 3 3 [] [(24,.sl [X5 x1] none)] (Z9 9 (dp 9 4 [] [] (ZT (b.steps.take (k+1))) (ZT (b.steps.take k)) [X5 x1] v none 5 (XK _) (KM rfl) rfl (by simp<;>omega) (by rw [V1 Z4];simp [Ub]) fun v3=>Zs 1 2 [10] (Z9 11 (YX 11 2 [] [] b3 [Xl (b.steps.take (k+1)) v3,.i b.result] (de (az (Z0 1 (ZD k (Z1 (ZG ⟨k+1,v3,ob,rfl,rfl,rfl⟩ (wk [0,2,2,0] (ZK k fl)))))))))))))))))
 exact ax 0 (Zq 1 [0] (Zz 1 b2 [Xl (b.steps.take k) v,.i b.result] (ie (ZV (r3 [] [.agg [Xl (b.steps.take k) v,.i b.result]] [0] [(b2,b2)] ⟨rfl,rfl⟩ (Zd.agg (.cons (Zd.sl _ (Yg ZT (by rw [Wg om]))) (.cons (lr _) .nil))))))))
theorem Z1g (k:Nat):(∀(s:Z7),(s.sz<=k)->(s.sz<=1000000000)->Zm 218 [X5 s] [] (Yw (X5 s)))/\(∀(b:Za),(b.sz<=k)->(b.sz<=1000000000)->Zm 186 [Yp b] [] (Yw (Yp b))):=by
 induction k with
 | zero=>exact ⟨fun s h=>by have:=s.sz_pos;omega,fun s h=>by have:=s.sz_pos;omega⟩
 | succ k ih=>exact ⟨fun s h hz=>Zgw s (fun b2 h2 h3=>ih.2 b2 om h3) hz,fun b h hz=>Zgt b (fun s2 h2 h3=>ih.1 s2 om h3) hz⟩
theorem Zgv (s:Z7) (hz:s.sz<=1000000000:=by exact ob):Zm 218 [X5 s] [] (Yw (X5 s)):=(Z1g s.sz).1 s (Xa _) hz
theorem Zgs (b:Za) (hz:b.sz<=1000000000:=by exact ob):Zm 186 [Yp b] [] (Yw (Yp b)):=(Z1g b.sz).2 b (Xa _) hz
theorem GY (n:ZH) (ls:List LI) (qz:Nat) (hn:FO n qz WS:=by exact ob) (hqz:qz<=100000:=by exact ob) (hls:LC n n.routines.length ls:=by exact ob):Zm 152 [YH n,E7 ls] [] (fun r h=>∃(n2:ZH),r=YH n2/\h=[]/\FO n2 qz WS/\n2.routines.length=n.routines.length):=by
 have hnl:=hn.fn.len
 have Xr:=hn.fn.decls.ok
 have hll:=hls.len
 refine ZF 45 Tryz.func152 (ar (iA (Xb n) fun b1=>iA [nl,nl] fun b2=>ie (Zq 2 [1] (Zu [] (Bn n.decls) (iL (Xd []) 0 5 fun v1=>Z0 1 (iA [nl,nl] fun b3=>?_))))))
 refine Zz 0 b3 [Y6 n.decls,WV [] v1] (ie (Y5 (ab 0 (Y3 (fun fz gz m F h=>∃(k:Nat) (rs:List YD) (u:Value),(k<=n.routines.length)/\(rs.length=k)/\(∀r∈rs,RF n.decls n.routines.length qz WS r)/\F=sF [1,2,4,5] fz [(6,.i k)]/\h=[.obj b3 [Y6 n.decls,WV rs u],Zh gz 2,Zh gz 3,.tail u 5]/\m=n.routines.length-k) _ _ _ ⟨0,[],v1,ob,ob,(fun r hr=>by cases hr),rfl,rfl,rfl⟩ (wk [0,1,1,0] (Yf fl)) ?_))))
 rintro m F h ⟨k,rs,u,Yi,Zj,Zw,rfl,rfl,rfl⟩
 refine Yr 3 [2] (iw (Q2 n.routines) (Y2 ((k:Int)<(n.routines.length:Int)) (fun Zc=>?_) (fun Zc=>?_)))
 ·refine ak (aq (ab 1 (Zq 3 [2] ?_)))
  obtain ⟨x1,Z4⟩:=Zt n.routines k om
  have hrf:=hn.rf (Y1 Z4)
  have hrp:=hn.fn.ok.params_at Z4
  have hrz:=hrf.body.2
  refine Zp (Zk none (k:Int) 5 (VT Z4)) (Z0 1 (iA [nl,nl,.i 0,nl,.i 0] fun b4=>Zz 0 b4 (JP x1) (ie (aE 20 (ZY 14 20 [0,1,2,3,5,6] [1,0] ?_)))))
  obtain ⟨x2,Zv⟩:=Zt ls k om
  have hlc:=hls.at Zv Z4
  refine dx 7 (Zk none (k:Int) 1 (Z6e Zv)) (ZY 8 13 [8,10,11,12,13] [0,0] (Z9 4 (dc 4 [] [0,0,1] [b4,b4,b3] (WX x1.params) ?_)))
  rintro _ _ ⟨v2,rfl,rfl⟩
  refine Z9 9 (dc 9 [] [0,0,1] [b4,b4,b3] (WX x2) ?_)
  rintro _ _ ⟨v3,rfl,rfl⟩
  exact Z9 14 (YL 14 [] [0,1] [b4,b3] (Zgs x1.body) (Yv 4 5 [15] [(40,.agg [Z3 x1.params,Z3 x2,.i x1.result,Vw x1.body.steps,.i x1.body.result])] (Z9 16 (dL 16 [1] [b3] (Xd [YD.mk x1.params x2 x1.result (Za.mk x1.body.steps x1.body.result)]) 1 5 fun v4=>Yv 3 3 [] [(41,JU [YD.mk x1.params x2 x1.result (Za.mk x1.body.steps x1.body.result)])] (Z9 17 (dp 17 7 [] [] (Xd (rs++[YD.mk x1.params x2 x1.result (Za.mk x1.body.steps x1.body.result)])) (Xd rs) (Xd [YD.mk x1.params x2 x1.result (Za.mk x1.body.steps x1.body.result)]) u none 5 (Tj _) (Tj _) (BM _) (by simp<;>omega) (by simp [DK,Xd]) fun v5=>Zs 1 2 [18] (Z9 19 (YX 19 5 [] [] b3 [Y6 n.decls,WV (rs++[YD.mk x1.params x2 x1.result (Za.mk x1.body.steps x1.body.result)]) v5] (de (az (Z0 1 (ZD k (Z1 (ZG ⟨k+1,(rs++[YD.mk x1.params x2 x1.result (Za.mk x1.body.steps x1.body.result)]),v5,ob,ob,(XI Zw (by rw [Za.eta];exact hrf.lend hlc.1 hlc.2)),rfl,rfl,rfl⟩ (wk [0,5,5,0] (ZK k fl))))))))))))))))
 exact ax 0 (Zq 1 [0] (Zz 1 b2 [Y6 n.decls,WV rs u] (ie (ZV (r3 [] [.agg [Y6 n.decls,WV rs u]] [0] [(b2,b2)] ⟨(ZH.mk n.decls rs),rfl,rfl,(FO.fin hn.fn om Zw)⟩ (Zd.agg (.cons (lr _) (.cons (Zd.forget _ _) .nil))))))))
theorem Z9m (n:ZH) (qz:Nat) (hn:FO n qz WS:=by exact ob) (hqz:qz<=100000:=by exact ob):Zm 138 [YH n] [] (fun r h=>∃(n2:ZH),r=YH n2/\h=[]/\FO n2 qz WS):=by
 refine ZF 33 Tryz.func138 (ar (iA (Xb n) fun b1=>iA [nl,nl] fun b2=>?_))
 refine ie (aD 6 (ZY 4 6 [0,1] [1,1] (BJ (fun fz gz F h=>∃(n21:ZH) (b3:Nat) (xs1:List LI),(LC n n.routines.length xs1)/\(FO n21 qz WS/\n21.routines.length=n.routines.length)/\F=sF [2] fz [(3,.p b3 0)]/\h=[.obj b3 (Xb n21),Zh gz 0,Zh gz 1]) ?_ ?_)))
 ·refine Ur 2 4 ?_ ?_
  ·refine dc 2 [] [1] [b1] (Ph n qz (hn:=hn.fn)) ?_
   rintro _ _ ⟨xs1,rfl,rfl,Ya⟩
   refine Ur 3 4 ?_ ?_
   ·refine dc 3 [] [] [] (GY n xs1 qz (hls:=(by first|assumption|(rw [<-hjl];exact XE)))) ?_
    rintro _ _ ⟨n21,rfl,rfl,Ys⟩
    have hwl:=Ys
    exact Z9 4 (dA 4 [] [] [nl,nl] fun b3=>Z9 5 (YX 5 0 [] [] b3 (Xb n21) (de (ZJ ⟨_,b3,_,(by assumption),(by assumption),rfl,rfl⟩ (Zy 3 fl)))))
   refine dA 4 [1] [b1] [nl,nl] fun b4=>Z9 3 (dc 3 [] [] [] (GY n xs1 qz (hls:=(by first|assumption|(rw [<-hjl];exact XE)))) ?_)
   rintro _ _ ⟨n22,rfl,rfl,YR⟩
   have hwl:=YR
   exact Z9 5 (YX 5 0 [] [] b4 (Xb n22) (de (ZJ ⟨_,b4,_,(by assumption),(by assumption),rfl,rfl⟩ (Zy 3 fl))))
  refine dA 4 [1,1] [b1,b1] [nl,nl] fun b5=>Z9 2 (dc 2 [] [2] [b1] (Ph n qz (hn:=hn.fn)) ?_)
  rintro _ _ ⟨xs2,rfl,rfl,X2⟩
  refine Z9 3 (dc 3 [] [] [] (GY n xs2 qz (hls:=(by first|assumption|(rw [<-hjl];exact XE)))) ?_)
  rintro _ _ ⟨n23,rfl,rfl,Xk⟩
  have hwl:=Xk
  exact Z9 5 (YX 5 0 [] [] b5 (Xb n23) (de (ZJ ⟨_,b5,_,(by assumption),(by assumption),rfl,rfl⟩ (Zy 3 fl))))
 rintro F h ⟨n21,b3,xs1,Ya,Ys,rfl,rfl⟩
 have hwl:=Ys
 refine Y5 (ab 0 (Y3 (fun fz gz m F h=>∃(k:Nat) (nn:ZH),(k<=13)/\(FO nn qz WS)/\F=sF [2,3] fz [(4,.i k)]/\h=[.obj b3 (Xb nn),Zh gz 1]/\m=13-k) _ _ _ ⟨0,n21,ob,hwl.1,rfl,rfl,rfl⟩ (wk [0,0] (Yf fl)) ?_))
 rintro m F h ⟨k,nn,Yi,Zj,rfl,rfl,rfl⟩
 refine Xh (Y2 ((k:Int)<=12) (fun Zc=>?_) (fun Zc=>?_))
 ·refine ak (aq (ab 1 (ar (iL (Vs []) 0 1 fun v1=>?_))))
  refine Z1 (Y5 (ab 2 (Y3 (fun fz gz m F h=>∃(j:Nat) (ls:List LI) (u:Value),(j<=nn.routines.length)/\(LC nn j ls)/\(ls.length=j)/\F=sF [2,3,4] fz [(5,Mu ls u),(6,.i j)]/\h=[Zh gz 1,Zh gz 2,.tail u 1]/\m=nn.routines.length-j) _ _ _ ⟨0,[],v1,ob,LC.nil,ob,rfl,rfl,rfl⟩ (wk [1,1,0] (fr (Yf fl))) ?_)))
  rintro m F h ⟨j,ls,u,VB,XE,XJ,rfl,rfl,rfl⟩
  refine Yr 3 [0] (iw (Q2 nn.routines) (Y2 ((j:Int)<(nn.routines.length:Int)) (fun Zi=>?_) (fun Zi=>?_)))
  ·obtain ⟨rt,hrt⟩:=Zt nn.routines j om
   have hrl:=(Zj.rf (Y1 hrt)).lent
   have hnl4:=Zj.fn.len
   refine ak (aq (ab 3 (az (ZC 3 [0] (ic [] (Z9e nn rt j qz (hn:=Zj.fn) (hr:=hrt)) ?_)))))
   rintro _ _ ⟨xs3,rfl,rfl,XU⟩
   have hkl:=XU
   exact iL (Vs [xs3]) 1 1 fun v2=>ZU 0 [(27,E7 [xs3])] (ip 3 (Vs (ls++[xs3])) (Vs ls) (Vs [xs3]) u none 1 (DJ _) (DJ _) (Lj _) (by simp<;>omega) (by simp [Li,Vs]) fun v3=>Z1 (az (Z0 1 (ZD j (Z1 (ZG ⟨j+1,(ls++[xs3]),v3,ob,(XE.snoc om (fun r hr v hv=>by rw [hrt] at hr;cases hr;exact hrl.2 v (hkl.2 v hv))),ob,rfl,rfl,rfl⟩ (wk [2,2,0] (fr (ZK j fl)))))))))
  have hjl:j=nn.routines.length:=by omega
  refine ax 2 (az (QS 2 [(30,E7 ls)] [0] (ic [] (GY nn ls qz (hls:=(by first|assumption|(rw [<-hjl];exact XE)))) ?_)))
  rintro _ _ ⟨n24,rfl,rfl,Wi⟩
  have hwl:=Wi
  exact Zz 0 b3 (Xb n24) (ie (az (Z0 1 (ZD k (Z1 (ZG ⟨k+1,n24,ob,hwl.1,rfl,rfl,rfl⟩ (wk [0,0] (ZK k fl))))))))
 exact ax 0 (Zq 1 [0] (Zz 1 b2 (Xb nn) (ie (ZV (r3 [] [YH nn] [0] [(b2,b2)] ⟨nn,rfl,rfl,(by first|exact Zj|exact hwl.1)⟩ (lr _))))))
theorem BS (xs:LI) (y:Int) (hl:xs.length<=1000000000:=by exact ob):Zm 50 [Z3 xs,.i y] [] (fun r h=>∃(v:Value),r=ZI (WG xs y) v/\h=[.tail v 1]):=by
 refine ZF 49 Tryz.func50 (Y0 (ar (iL (Z6 []) 0 1 fun v1=>?_)))
 refine Z1 (Y0 (Y5 (ab 0 (Y3 (fun fz gz m F h=>∃(k:Nat) (acc:LI) (d:Bool) (v:Value),(k<=xs.length)/\(acc.length<=k+(if d=true then 1 else 0))/\(acc++Qq d (xs.drop k) y=WG xs y)/\F=sF [0,1] fz [(5,ZI acc v),(6,.b d),(7,.i k)]/\h=[.tail v 1]/\m=xs.length-k) _ _ _ ⟨0,[],false,v1,ob,(by simp),rfl,rfl,rfl,rfl⟩ (wk [0] (fw (Yf fl))) ?_))))
 rintro m F h ⟨k,acc,d,v,Yi,Zj,Zw,rfl,rfl,rfl⟩
 refine YN 2 (iw (Yd xs) (Y2 ((k:Int)<(xs.length:Int)) (fun Zc=>?_) (fun Zc=>?_)))
 ·obtain ⟨x1,Z4⟩:=Zt xs k om
  have hil:acc.length<=k+1:=Vn Zj (by split<;>omega)
  refine ak (aq (ab 1 (Xh (Xs [0,1,5,6,7] [(24,.b ((!d)&&(decide (x1>=y))))] (fun gz=>gz) ?_ ?_))))
  ·refine Z0 3 (ib (b:=(!d)) 17 (fun Ze=>?_) (fun Ze=>?_))
   ·exact Z0 2 (Zp (Zk none (k:Int) 1 (Y4 Z4)) (Z1 (wk [0] (Zo (decide (x1>=y)) Ze fl))))
   exact Z1 (wk [0] (Zo false Ze fl))
  refine Xy (fun fz gz F h=>∃(acc2:LI) (d2:Bool) (w:Value),((acc2=acc/\d2=d/\(d=true∨¬x1>=y))∨(acc2=acc++[y]/\d2=true/\¬d=true/\x1>y)∨(acc2=acc/\d2=true/\¬d=true/\x1=y))/\(acc2.length<=k+(if d2=true then 1 else 0))/\(acc2.length<=k+1)/\F=sF [0,1,7] fz [(5,ZI acc2 w),(6,.b d2)]/\h=[.tail w 1]) ?_ ?_
  ·refine ac ((!d)&&(decide (x1>=y))) (p:=(¬(d=true))/\(x1>=y)) (Yt (Yl Iff.rfl) dq) (fun Zi=>?_) (fun Zi=>?_)
   ·refine YN 2 (Zp (Zk none (k:Int) 1 (Y4 Z4)) (Z1 (Xy (fun fz gz F h=>∃(w3:Value),F=sF [0,1,7] fz [(5,ZI (if x1>y then (acc++[y]) else acc) w3)]/\h=[.tail w3 1]) ?_ ?_)))
    ·refine WJ (x1>y) (fun ZB=>?_) (fun ZB=>?_)
     ·exact az (Z0 2 (iL (Z6 [y]) 1 1 fun v2=>ZU 0 [(33,Z3 [y])] (ip 1 (Z6 (acc++[y])) (Z6 acc) (Z6 [y]) v none 1 (YE _) (YE _) (W6 _) (by simp<;>omega) (by simp [W8,Z6]) fun v3=>Z1 (ZJ ⟨v3,rfl,rfl⟩ (wk [0] (fc (x:=ZI (acc++[y]) v3) (Zd.slh _ (Yg Z6 (by first|rfl|(rw [Zb ZB])|(rw [Z5 ZB])|(simp [ZB];done)|(rw [Ye];simp [ZB];done)|omega))) fl))))))
     exact ak (ZJ ⟨v,rfl,rfl⟩ (wk [0] (fc (x:=ZI acc v) (Zd.slh _ (Yg Z6 (by first|rfl|(rw [Zb ZB])|(rw [Z5 ZB])|(simp [ZB];done)|(rw [Ye];simp [ZB];done)|omega))) fl)))
    rintro F h ⟨w3,rfl,rfl⟩
    exact Vk (ZJ ⟨(if x1>y then (acc++[y]) else acc),true,w3,(if h:x1>y then (by rw [Zb h];exact .inr (.inl ⟨rfl,rfl,Zi.1,h⟩)) else (by rw [Z5 h];exact .inr (.inr ⟨rfl,rfl,Zi.1,by have:=Zi.2;omega⟩))),(by have h1:=Zj;rw [Z5 Zi.1] at h1;split<;>(simp<;>omega)),(by have h1:=Zj;rw [Z5 Zi.1] at h1;split<;>(simp<;>omega)),rfl,rfl⟩ (wk [0] fl))
   exact ak (ZJ ⟨acc,d,v,(.inl ⟨rfl,rfl,by by_cases q:d=true;exact .inl q;exact .inr (fun z=>Zi ⟨q,z⟩)⟩),Zj,hil,rfl,rfl⟩ (wk [0] fl))
  rintro F h ⟨acc2,d2,w,VN,Bf,M8,rfl,rfl⟩
  exact az (Z0 3 (Zp (Zk none (k:Int) 1 (Y4 Z4)) (Z0 1 (iL (Z6 [x1]) 1 1 fun v4=>ZU 0 [(40,Z3 [x1])] (ip 1 (Z6 (acc2++[x1])) (Z6 acc2) (Z6 [x1]) w none 1 (YE _) (YE _) (W6 _) (by simp<;>omega) (by simp [W8,Z6]) fun v5=>Z1 (az (Z0 1 (ZD k (Z1 (ZG ⟨k+1,(acc2++[x1]),d2,v5,ob,(by simp only [Yo,Yq,YY];omega),(Zbq Z4 Zw VN),rfl,rfl,rfl⟩ (wk [0] (fw (ZK k fl)))))))))))))
 have hil:acc.length<=k+1:=Vn Zj (by split<;>omega)
 refine ax 0 (Y5 (Xy (fun fz gz F h=>∃(w4:Value),F=sF [] fz [(5,ZI (if d=true then acc else (acc++[y])) w4)]/\h=[.tail w4 1]) ?_ ?_))
 ·refine ac (!d) (p:=¬(d=true)) (Yl Iff.rfl) (fun Y7=>?_) (fun Y7=>?_)
  ·exact az (Z0 2 (iL (Z6 [y]) 1 1 fun v6=>ZU 0 [(46,Z3 [y])] (ip 1 (Z6 (acc++[y])) (Z6 acc) (Z6 [y]) v none 1 (YE _) (YE _) (W6 _) (by simp<;>omega) (by simp [W8,Z6]) fun v7=>Z1 (ZJ ⟨v7,rfl,rfl⟩ (wk [0] (fc (x:=ZI (acc++[y]) v7) (Zd.slh _ (Yg Z6 (by first|rfl|(rw [Zb Y7])|(rw [Z5 Y7])|(simp [Y7];done)|(rw [Ye];simp [Y7];done)|omega))) fl))))))
  exact ak (ZJ ⟨v,rfl,rfl⟩ (wk [0] (fc (x:=ZI acc v) (Zd.slh _ (Yg Z6 (by first|rfl|(rw [Zb Y7])|(rw [Z5 Y7])|(simp [Y7];done)|(rw [Ye];simp [Y7];done)|omega))) fl)))
 rintro F h ⟨w4,rfl,rfl⟩
 exact ar (Zl (r2 [0] [ZI (if d=true then acc else (acc++[y])) w4] ⟨w4,rfl,rfl⟩ (Zd.slh _ (Yg Z6 (Zbp om Zw)))))
theorem Px (xs:LI) (y:Int) (hl:xs.length<=1000000000:=by exact ob):Zm 195 [Z3 xs,.i y] [] (fun r h=>∃(v:Value),r=ZI (Q7 xs y) v/\h=[.tail v 1]):=by
 refine ZF 28 Tryz.func195 (Y0 (ar (iL (Z6 []) 0 1 fun v1=>?_)))
 refine Z1 (Y5 (ab 0 (Y3 (fun fz gz m F h=>∃(k:Nat) (acc:LI) (v:Value),(k<=xs.length)/\(acc.length<=k)/\(acc++Q7 (xs.drop k) y=Q7 xs y)/\F=sF [0,1] fz [(5,ZI acc v),(6,.i k)]/\h=[.tail v 1]/\m=xs.length-k) _ _ _ ⟨0,[],v1,ob,ob,rfl,rfl,rfl,rfl⟩ (wk [0] (fr (Yf fl))) ?_)))
 rintro m F h ⟨k,acc,v,Yi,Zj,Zw,rfl,rfl,rfl⟩
 refine YN 2 (iw (Yd xs) (Y2 ((k:Int)<(xs.length:Int)) (fun Zc=>?_) (fun Zc=>?_)))
 ·refine ak (aq (ab 1 (Yc 2 ?_)))
  obtain ⟨x1,Z4⟩:=Zt xs k om
  refine Zp (Zk none (k:Int) 1 (Y4 Z4)) (Z1 (AU (fun fz gz F h=>∃(w:Value),F=sF [0,1,6] fz [(5,ZI (if x1≠y then (acc++[x1]) else acc) w)]/\h=[.tail w 1]) (fun _ _=>rfl) ?_ ?_))
  ·refine ac (x1 != y) Yn (fun Zi=>?_) (fun Zi=>?_)
   ·exact az (Z0 3 (Zp (Zk none (k:Int) 1 (Y4 Z4)) (Z0 1 (iL (Z6 [x1]) 1 1 fun v2=>ZU 0 [(25,Z3 [x1])] (ip 1 (Z6 (acc++[x1])) (Z6 acc) (Z6 [x1]) v none 1 (YE _) (YE _) (W6 _) (by simp<;>omega) (by simp [W8,Z6]) fun v3=>Z1 (ZJ ⟨v3,rfl,rfl⟩ (wk [0] (fc (x:=ZI (acc++[x1]) v3) (Zd.slh _ (Yg Z6 (by first|rfl|(rw [Zb Zi])|(rw [Z5 Zi])|(simp [Zi];done)|(rw [Ye];simp [Zi];done)|omega))) fl))))))))
   exact ak (ZJ ⟨v,rfl,rfl⟩ (wk [0] (fc (x:=ZI acc v) (Zd.slh _ (Yg Z6 (by first|rfl|(rw [Zb Zi])|(rw [Z5 Zi])|(simp [Zi];done)|(rw [Ye];simp [Zi];done)|omega))) fl)))
  rintro F h ⟨w,rfl,rfl⟩
  exact az (Z0 1 (ZD k (Z1 (ZG ⟨k+1,(if x1≠y then (acc++[x1]) else acc),w,ob,(by split<;>(try simp)<;>omega),(Zeb Z4 Zw),rfl,rfl,rfl⟩ (wk [0] (fr (ZK k fl)))))))
 exact ax 0 (ar (Zl (r2 [0] [ZI acc v] ⟨v,rfl,rfl⟩ (Zd.slh _ (Yg Z6 (Zea om Zw))))))
theorem Zgm (s:Z7) (q:Int) (xs:LI) (ih:∀(b2:Za) (q:Int) (k2:Nat) (xs2:LI),(b2.sz<s.sz)->(k2<=b2.steps.length)->(xs2.length+b2.sz<=1000000000)->Zm 189 [Yp b2,.i q,.i k2,Z3 xs2] [] (Yw (Z3 (UW q (Tc q (b2.steps.drop k2) xs2) b2.result)))) (hz:xs.length+s.sz<=1000000000):Zm 221 [X5 s,.i q,Z3 xs] [] (Yw (Z3 (JY q s xs))):=by
 have hkz:=Ki s
 have haz:=JB s
 have hse:=s.sz_eq
 refine ZF 58 Tryz.func221 (ar (iA (Wf s) fun b1=>Z1 (Yr 2 [0] (Zu [] (Z1h s.op) (ie (ac (YP s.op) Iff.rfl (fun Zc=>?_) (fun Zc=>?_)))))))
 ·exact ar (Zl (ZM (Z3 xs) (Zd.sl _ (Yg Z6 (by rw [Z2n,Zb (by assumption)])))))
 refine ak (Y5 (ab 0 (Y3 (fun fz gz m F h=>∃(j:Nat) (ys:LI),(j<=s.args.length)/\(ys.length<=xs.length+j)/\(QW q (s.args.drop j) ys=QW q s.args xs)/\F=sF [1,3] fz [(2,Z3 ys),(7,.i j)]/\h=gz/\m=s.args.length-j) _ _ _ ⟨0,xs,ob,ob,rfl,rfl,rfl,rfl⟩ (wk [0] (fr (Yf fl))) ?_)))
 rintro m F h ⟨j,ys,Yi,Zj,Zw,rfl,rfl,rfl⟩
 refine Yr 3 [0] (iw (Yd s.args) (Y2 ((j:Int)<(s.args.length:Int)) (fun Zi=>?_) (fun Zi=>?_)))
 ·refine ak (aq (ab 1 (Zq 3 [0] ?_)))
  obtain ⟨x1,Z4⟩:=Zt s.args j om
  refine Zp (Zk none (j:Int) 1 (Y4 Z4)) (Xs [1,2,3,7] [(34,.b ((decide (x1>=0))&&(decide (x1<q))))] (fun gz=>gz) ?_ ?_)
  ·refine Z0 3 (ib (b:=(decide (x1>=0))) 26 (fun Ze=>?_) (fun Ze=>?_))
   ·exact ZC 3 [0] (Zp (Zk none (j:Int) 1 (Y4 Z4)) (Z1 (wk [0] (Zo (decide (x1<q)) Ze fl))))
   exact Z1 (wk [0] (Zo false Ze fl))
  refine AU (fun fz gz F h=>F=sF [1,3,7] fz [(2,Z3 (UW q ys x1))]/\h=gz) (fun _ _=>rfl) ?_ ?_
  ·refine ac ((decide (x1>=0))&&(decide (x1<q))) (p:=(x1>=0)/\(x1<q)) (Yt dq dq) (fun ZB=>?_) (fun ZB=>?_)
   ·refine az (ZC 4 [0] (Zp (Zk none (j:Int) 1 (Y4 Z4)) (Z0 1 (ic [] (BS ys x1) ?_))))
    rintro _ _ ⟨v1,rfl,rfl⟩
    exact Z1 (ZJ ⟨rfl,rfl⟩ (wk [1] (fc (x:=ZI (WG ys x1) v1) (Zd.sl _ (Yg Z6 (by rw [UW,Zb (by assumption)]))) fl)))
   exact ak (ZJ ⟨rfl,rfl⟩ (wk [0] (fc (x:=Z3 ys) (Zd.sl _ (Yg Z6 (by rw [UW,Z5 (by assumption)]))) fl)))
  rintro F h ⟨rfl,rfl⟩
  exact az (Z0 1 (ZD j (Z1 (ZG ⟨j+1,(UW q ys x1),ob,(by have:=Il (n:=q) ys x1;omega),(Zj1 Z4 Zw),rfl,rfl,rfl⟩ (wk [0] (fr (ZK j fl)))))))
 have hA:QW q s.args xs=ys:=(Zj0 om Zw).symm
 refine ax 0 (Y5 (ab 2 (Y3 (fun fz gz m F h=>∃(j:Nat) (zs:LI),(j<=s.kids.length)/\(zs.length<=xs.length+s.args.length+YU (s.kids.take j))/\(Js q (s.kids.drop j) zs=Js q s.kids (QW q s.args xs))/\F=sF [1,3] fz [(2,Z3 zs),(8,.i j)]/\h=gz/\m=s.kids.length-j) _ _ _ ⟨0,ys,ob,(by rw [List.take_zero,YU];omega),(by rw [hA];rfl),rfl,rfl,rfl⟩ (wk [0] (fr (Yf fl))) ?_)))
 rintro m F h ⟨j,zs,VB,XE,XJ,rfl,rfl,rfl⟩
 refine Yr 3 [0] (iw (KF s.kids) (Y2 ((j:Int)<(s.kids.length:Int)) (fun Y7=>?_) (fun Y7=>?_)))
 ·refine ak (aq (ab 3 (az (ZC 3 [0] ?_))))
  obtain ⟨x2,Zv⟩:=Zt s.kids j om
  have hks:=Qs Zv
  have hbt:=Gs Zv
  have hbx:=Gr Zv
  have hul:=Ik (n:=q) x2 zs
  exact Zp (Zk none (j:Int) 2 (T3 Zv)) (Z0 3 (Zu [] (ih x2 q 0 zs ob ob ob) (Z1 (az (Z0 1 (ZD j (Z1 (ZG ⟨j+1,(Tb q x2 zs),ob,om,(Zj3 Zv XJ),rfl,rfl,rfl⟩ (wk [0] (fc (x:=Z3 (UW q (Tc q (x2.steps.drop 0) zs) x2.result)) (Zd.sl _ (Yg Z6 (by rw [Z2l];rfl))) (ZK j fl)))))))))))
 exact ax 2 (ar (Zl (ZM (Z3 zs) (Zd.sl _ (Yg Z6 (by rw [Z2n,Z5 (by assumption)];exact (Zj2 om XJ)))))))
theorem Zgn (b:Za) (q:Int) (k0:Nat) (xs:LI) (ih:∀(s2:Z7) (q:Int) (xs2:LI),(s2.sz<b.sz)->(xs2.length+s2.sz<=1000000000)->Zm 221 [X5 s2,.i q,Z3 xs2] [] (Yw (Z3 (JY q s2 xs2)))) (hk:k0<=b.steps.length) (hz:xs.length+b.sz<=1000000000):Zm 189 [Yp b,.i q,.i k0,Z3 xs] [] (Yw (Z3 (UW q (Tc q (b.steps.drop k0) xs) b.result))):=by
 have hbz:=UG b
 have hbe:=b.sz_eq
 have hsd:=Z1w b.steps k0
 refine ZF 40 Tryz.func189 (ar (iA (W3 b) fun b1=>?_))
 refine Z1 (Y5 (ab 0 (Y3 (fun fz gz m F h=>∃(k:Nat) (ys:LI),(k<=b.steps.length)/\(ys.length+Yy (b.steps.drop k)<=xs.length+Yy (b.steps.drop k0))/\(Tc q (b.steps.drop k) ys=Tc q (b.steps.drop k0) xs)/\F=sF [1,4] fz [(3,Z3 ys),(9,.i k)]/\h=gz/\m=b.steps.length-k) _ _ _ ⟨k0,xs,ob,(Xa _),rfl,rfl,rfl,rfl⟩ (wk [0] fl) ?_)))
 rintro m F h ⟨k,ys,Yi,Zj,Zw,rfl,rfl,rfl⟩
 refine Yr 3 [0] (iw (UJ b.steps) (Y2 ((k:Int)<(b.steps.length:Int)) (fun Zc=>?_) (fun Zc=>?_)))
 ·refine ak (aq (ab 1 (az (ZC 3 [0] ?_))))
  obtain ⟨x1,Z4⟩:=Zt b.steps k om
  have hss:=Et Z4
  have hsd1:=Z1v Z4
  have hul:=Z2o (n:=q) x1 ys
  exact Zp (Zk none (k:Int) 5 (Va Z4)) (Z0 3 (Zu [] (ih x1 q ys ob ob) (Z1 (az (Z0 1 (ZD k (Z1 (ZG ⟨k+1,(JY q x1 ys),ob,ob,(Zj5 Z4 Zw),rfl,rfl,rfl⟩ (wk [0] (fr (ZK k fl)))))))))))
 refine ax 0 (Xh (Xs [3,4] [(34,.b ((decide (b.result>=0))&&(decide (b.result<q))))] (fun gz=>gz) ?_ ?_))
 ·refine ZC 4 [0] (ib (b:=(decide (b.result>=0))) 29 (fun Ze=>?_) (fun Ze=>?_))
  ·exact WQ [0] (wk [0] (Zo (decide (b.result<q)) Ze fl))
  exact Z1 (wk [0] (Zo false Ze fl))
 refine Xy (fun fz gz F h=>F=sF [] fz [(3,Z3 (UW q ys b.result))]/\h=[]) ?_ ?_
 ·refine ac ((decide (b.result>=0))&&(decide (b.result<q))) (p:=(b.result>=0)/\(b.result<q)) (Yt dq dq) (fun Zi=>?_) (fun Zi=>?_)
  ·refine az (ZC 3 [0] (ic [] (BS ys b.result) ?_))
   rintro _ _ ⟨v1,rfl,rfl⟩
   exact Z1 (ZJ ⟨rfl,rfl⟩ (wk [] (fc (x:=ZI (WG ys b.result) v1) (Zd.sl _ (Yg Z6 (by rw [UW,Zb (by assumption)]))) fl)))
  exact ak (ZJ ⟨rfl,rfl⟩ (wk [] (fc (x:=Z3 ys) (Zd.sl _ (Yg Z6 (by rw [UW,Z5 (by assumption)]))) fl)))
 rintro F h ⟨rfl,rfl⟩
 exact ar (Zl (ZM (Z3 (UW q ys b.result)) (Zd.sl _ (Yg Z6 (by rw [Zj4 om Zw])))))
theorem Zhq (k:Nat):(∀(s:Z7) (q:Int) (xs:LI),(s.sz<=k)->(xs.length+s.sz<=1000000000)->Zm 221 [X5 s,.i q,Z3 xs] [] (Yw (Z3 (JY q s xs))))/\(∀(b:Za) (q:Int) (k0:Nat) (xs:LI),(b.sz<=k)->(k0<=b.steps.length)->(xs.length+b.sz<=1000000000)->Zm 189 [Yp b,.i q,.i k0,Z3 xs] [] (Yw (Z3 (UW q (Tc q (b.steps.drop k0) xs) b.result)))):=by
 induction k with
 | zero=>exact ⟨fun s q xs h=>by have:=s.sz_pos;omega,fun b q k0 xs h=>by have:=b.sz_pos;omega⟩
 | succ k ih=>exact ⟨fun s q xs h hz=>Zgm s q xs (fun b2 q k2 xs2 h2 hk h3=>ih.2 b2 q k2 xs2 om hk h3) hz,fun b q k0 xs h hk hz=>Zgn b q k0 xs (fun s2 q xs2 h2 h3=>ih.1 s2 q xs2 om h3) hk hz⟩
theorem Z1a (b:Za) (q:Int) (k0:Nat) (xs:LI) (hk:k0<=b.steps.length:=by exact ob) (hz:xs.length+b.sz<=1000000000:=by exact ob):Zm 189 [Yp b,.i q,.i k0,Z3 xs] [] (Yw (Z3 (UW q (Tc q (b.steps.drop k0) xs) b.result))):=(Zhq b.sz).2 b q k0 xs (Xa _) hk hz
theorem Z1q (b:Za) (q:Int) (hz:b.sz<=100000000:=by exact ob):Zm 155 [Yp b,.i q] [] (Yw (Z3 (Tb q b []))):=by
 exact ZF 9 Tryz.func155 (ar (iA (W3 b) fun b1=>Z1 (Zq 2 [0] (iL (Z6 []) 0 1 fun v1=>ZU 0 [(7,Z3 [])] (Zu [] (Z1a b q 0 [] (hk:=(QB _))) (Zl (ZM (Z3 (UW q (Tc q (b.steps.drop 0) []) b.result)) (Zd.sl _ (Yg Z6 (by rw [Z2l];rfl))))))))))
theorem Za9 (xs:LI) (ys:LI) (hz:xs.length+ys.length<=100000000:=by exact ob):Zm 190 [Z3 xs,Z3 ys] [] (fun r h=>∃(zs:LI),r=Z3 zs/\h=[]/\zs.length<=xs.length+ys.length):=by
 refine ZF 22 Tryz.func190 (Y0 (Yc 1 (ic [] (WX xs) ?_)))
 rintro _ _ ⟨v1,rfl,rfl⟩
 refine Z1 (Y5 (ab 0 (Y3 (fun fz gz m F h=>∃(k:Nat) (zs:LI),(k<=ys.length)/\(zs.length<=xs.length+k)/\F=sF [1] fz [(5,Z3 zs),(6,.i k)]/\h=[]/\m=ys.length-k) _ _ _ ⟨0,xs,ob,ob,rfl,rfl,rfl⟩ (wk [] (fc (x:=ZI xs v1) (Zd.forget _ _) (Yf fl))) ?_)))
 rintro m F h ⟨k,zs,Yi,Zj,rfl,rfl,rfl⟩
 refine YN 2 (iw (Yd ys) (Y2 ((k:Int)<(ys.length:Int)) (fun Zc=>?_) (fun Zc=>?_)))
 ·refine ak (aq (ab 1 (az (Z0 3 ?_))))
  obtain ⟨x1,Z4⟩:=Zt ys k om
  refine Zp (Zk none (k:Int) 1 (Y4 Z4)) (Z0 1 (ic [] (BS zs x1) ?_))
  rintro _ _ ⟨v2,rfl,rfl⟩
  exact Z1 (az (Z0 1 (ZD k (Z1 (ZG ⟨k+1,(WG zs x1),ob,(by have:=Be zs x1;omega),rfl,rfl,rfl⟩ (wk [] (fc (x:=ZI (WG zs x1) v2) (Zd.forget _ _) (ZK k fl))))))))
 exact ax 0 (ar (Zl (r1 [] ⟨zs,rfl,rfl,ob⟩)))
theorem Pj (xs:LI) (ys:LI) (hz:xs.length<=100000000:=by exact ob) (hy:ys.length<=100000000:=by exact ob):Zm 224 [Z3 xs,Z3 ys] [] (fun r h=>∃(zs:LI) (v:Value),r=ZI zs v/\h=[.tail v 1]/\zs.length<=xs.length/\∀z∈zs,z∈xs):=by
 refine ZF 28 Tryz.func224 (Y0 (ar (iL (Z6 []) 0 1 fun v1=>?_)))
 refine Z1 (Y5 (ab 0 (Y3 (fun fz gz m F h=>∃(k:Nat) (zs:LI) (u:Value),(k<=xs.length)/\(zs.length<=k)/\(∀z∈zs,z∈xs)/\F=sF [0,1] fz [(5,ZI zs u),(6,.i k)]/\h=[.tail u 1]/\m=xs.length-k) _ _ _ ⟨0,[],v1,ob,ob,(fun z hz=>by cases hz),rfl,rfl,rfl⟩ (wk [0] (fr (Yf fl))) ?_)))
 rintro m F h ⟨k,zs,u,Yi,Zj,Zw,rfl,rfl,rfl⟩
 refine YN 2 (iw (Yd xs) (Y2 ((k:Int)<(xs.length:Int)) (fun Zc=>?_) (fun Zc=>?_)))
 ·refine ak (aq (ab 1 (Yc 3 ?_)))
  obtain ⟨x1,Z4⟩:=Zt xs k om
  refine Zp (Zk none (k:Int) 1 (Y4 Z4)) (Z0 1 (Zu [] (UE ys x1) (ie (WJ (x1∈ys) (fun Zi=>?_) (fun Zi=>?_)))))
  ·exact az (Z0 3 (Zp (Zk none (k:Int) 1 (Y4 Z4)) (Z0 1 (iL (Z6 [x1]) 1 1 fun v2=>ZU 0 [(25,Z3 [x1])] (ip 1 (Z6 (zs++[x1])) (Z6 zs) (Z6 [x1]) u none 1 (YE _) (YE _) (W6 _) (by simp<;>omega) (by simp [W8,Z6]) fun v3=>Z1 (az (Z0 1 (ZD k (Z1 (ZG ⟨k+1,(zs++[x1]),v3,ob,ob,(by first|exact Zw|exact XI Zw (Y1 Z4)),rfl,rfl,rfl⟩ (wk [0] (fr (ZK k fl)))))))))))))
  exact ak (az (Z0 1 (ZD k (Z1 (ZG ⟨k+1,zs,u,ob,ob,(by first|exact Zw|exact XI Zw (Y1 Z4)),rfl,rfl,rfl⟩ (wk [0] (fr (ZK k fl))))))))
 exact ax 0 (ar (Zl (r1 [0] ⟨zs,u,rfl,rfl,⟨by omega,Zw⟩⟩)))
theorem LJ (xs:LI) (q:Int) (hz:xs.length<=100000000:=by exact ob):Zm 238 [Z3 xs,.i q] [] (fun r h=>∃(zs:LI) (v:Value),r=ZI zs v/\h=[.tail v 1]/\zs.length<=xs.length/\∀z∈zs,z∈xs):=by
 refine ZF 28 Tryz.func238 (Y0 (ar (iL (Z6 []) 0 1 fun v1=>?_)))
 refine Z1 (Y5 (ab 0 (Y3 (fun fz gz m F h=>∃(k:Nat) (zs:LI) (u:Value),(k<=xs.length)/\(zs.length<=k)/\(∀z∈zs,z∈xs)/\F=sF [0,1] fz [(5,ZI zs u),(6,.i k)]/\h=[.tail u 1]/\m=xs.length-k) _ _ _ ⟨0,[],v1,ob,ob,(fun z hz=>by cases hz),rfl,rfl,rfl⟩ (wk [0] (fr (Yf fl))) ?_)))
 rintro m F h ⟨k,zs,u,Yi,Zj,Zw,rfl,rfl,rfl⟩
 refine YN 2 (iw (Yd xs) (Y2 ((k:Int)<(xs.length:Int)) (fun Zc=>?_) (fun Zc=>?_)))
 ·refine ak (aq (ab 1 (Yc 2 ?_)))
  obtain ⟨x1,Z4⟩:=Zt xs k om
  refine Zp (Zk none (k:Int) 1 (Y4 Z4)) (Y2 (x1<q) (fun Zi=>?_) (fun Zi=>?_))
  ·exact az (Z0 3 (Zp (Zk none (k:Int) 1 (Y4 Z4)) (Z0 1 (iL (Z6 [x1]) 1 1 fun v2=>ZU 0 [(25,Z3 [x1])] (ip 1 (Z6 (zs++[x1])) (Z6 zs) (Z6 [x1]) u none 1 (YE _) (YE _) (W6 _) (by simp<;>omega) (by simp [W8,Z6]) fun v3=>Z1 (az (Z0 1 (ZD k (Z1 (ZG ⟨k+1,(zs++[x1]),v3,ob,ob,(by first|exact Zw|exact XI Zw (Y1 Z4)),rfl,rfl,rfl⟩ (wk [0] (fr (ZK k fl)))))))))))))
  exact ak (az (Z0 1 (ZD k (Z1 (ZG ⟨k+1,zs,u,ob,ob,(by first|exact Zw|exact XI Zw (Y1 Z4)),rfl,rfl,rfl⟩ (wk [0] (fr (ZK k fl))))))))
 exact ax 0 (ar (Zl (r1 [0] ⟨zs,u,rfl,rfl,⟨by omega,Zw⟩⟩)))
theorem Cf (op:Int) (v:Int) :Zm 117 [.i op,.i v] [] (Yw (X5 (Zx op v))):=by
 exact ZF 10 Tryz.func117 (ar (iA [.i 0,.i 0,.i 0,nl,nl] fun b1=>ie (Yc 2 (iL (Z6 [v]) 1 1 fun v1=>iL (XT []) 0 2 fun v2=>Z0 1 (Zz 2 b1 [.i op,.i 0,.i 0,ZI [v] v1,Qv [] v2] (ie (ZV (r3 [] [.agg [.i op,.i 0,.i 0,ZI [v] v1,Qv [] v2]] [0] [(b1,b1)] ⟨rfl,rfl⟩ (Zd.agg (.cons li (.cons li (.cons li (.cons (Zd.sl _ (Yg Z6 rfl)) (.cons (Zd.sl _ (Yg XT rfl)) .nil))))))))))))))
theorem KV (op:Int) (xs:LI) (hl:xs.length<=1000000000:=by exact ob):Zm 157 [.i op,Z3 xs] [] (fun r h=>∃(v:Value),r=Xl (xs.map (Zx op)) v/\h=[.tail v 5]):=by
 refine ZF 24 Tryz.func157 (Y0 (ar (iL (ZT []) 0 5 fun v1=>?_)))
 refine Z1 (Y5 (ab 0 (Y3 (fun fz gz m F h=>∃(k:Nat) (v:Value),(k<=xs.length)/\F=sF [0,1] fz [(5,Xl ((xs.take k).map (Zx op)) v),(6,.i k)]/\h=[.tail v 5]/\m=xs.length-k) _ _ _ ⟨0,v1,ob,rfl,rfl,rfl⟩ (wk [0] (fc (x:=Xl [] v1) (Zd.slh _ (Yg ZT rfl)) (Yf fl))) ?_)))
 rintro m F h ⟨k,v,Yi,rfl,rfl,rfl⟩
 refine YN 2 (iw (Yd xs) (Y2 ((k:Int)<(xs.length:Int)) (fun Zc=>?_) (fun Zc=>?_)))
 ·refine ak (aq (ab 1 (az (Z0 4 ?_))))
  obtain ⟨x1,Z4⟩:=Zt xs k om
  exact Zp (Zk none (k:Int) 1 (Y4 Z4)) (Z0 1 (Zu [] (Cf op x1) (iL [X5 (Zx op x1)] 1 5 fun v2=>ZU 0 [(21,.sl [X5 (Zx op x1)] none)] (ip 1 (ZT ((xs.take (k+1)).map (Zx op))) (ZT ((xs.take k).map (Zx op))) [X5 (Zx op x1)] v none 5 (XK _) (KM rfl) rfl (by simp<;>omega) (by rw [V1 Z4];simp [Ub]) fun v3=>Z1 (az (Z0 1 (ZD k (Z1 (ZG ⟨k+1,v3,ob,rfl,rfl,rfl⟩ (wk [0] (fr (ZK k fl))))))))))))
 exact ax 0 (ar (Zl (r2 [0] [Xl ((xs.take k).map (Zx op)) v] ⟨v,rfl,rfl⟩ (Zd.slh _ (Yg ZT (by rw [Wg om]))))))
theorem Z9r (n:ZH) (s:Z7) (i:Nat) (mm:Nat) (hn:Xz n:=by exact ob) (hf:FS n.decls n.routines.length mm s:=by exact ob) (hi:i<s.args.length:=by exact ob):Zm 237 [YH n,X5 s,.i i] [] (fun r h=>∃(wr:Bool),r=.b wr/\h=[]):=by
 have hal:=hf.alen
 refine ZF 42 Tryz.func237 (ar (iA (Xb n) fun b1=>iA (Wf s) fun b2=>?_))
 refine Z1 (Y5 (ab 0 (Y3 (fun fz gz m F h=>∃(k:Nat),(k<=s.args.length)/\F=sF [2,3,4] fz [(7,.i k)]/\h=gz/\m=s.args.length-k) _ _ _ ⟨0,ob,rfl,rfl,rfl⟩ (wk [0,0] (Yf fl)) ?_)))
 rintro m F h ⟨k,Yi,rfl,rfl,rfl⟩
 refine Yr 3 [0] (iw (Yd s.args) (Y2 ((k:Int)<(s.args.length:Int)) (fun Zc=>?_) (fun Zc=>?_)))
 ·refine ak (aq (ab 1 (aD 27 (Zs 23 27 [0,1,2,3] (db (b:=((k:Int) != (i:Int))) 18 (fun Ze=>?_) (fun Ze=>?_))))))
  ·refine ZY 20 23 [4,5,6] [0] ?_
   obtain ⟨x1,Z4⟩:=Zt s.args k om
   refine dx 7 (Zk none (k:Int) 1 (Y4 Z4)) (ZY 15 19 [8,9,10,11] [0] ?_)
   obtain ⟨x2,Zv⟩:=Zt s.args i om
   refine dx 12 (Zk none (i:Int) 1 (Y4 Zv)) (Zs 10 14 [13,14,15,16] (db (b:=(x1==x2)) 31 (fun ZE=>?_) (fun ZE=>?_)))
   ·refine Zs 6 10 [17,18,19,20] (db (b:=(decide ((k:Int)>(i:Int)))) 35 (fun Ym=>?_) (fun Ym=>?_))
    ·exact Zs 0 6 [21,22,23,24,25,26] (de (Vq (ar (Zl (r1 [] ⟨true,rfl,rfl⟩)))))
    refine ZY 3 6 [21,22,23] [1,0] (Z9 24 (YL 24 [] [] [] (FQ n s k (hnum:=hf.call)) (Zs 0 2 [25,26] (de (ac (T8 n s.op s.num k) Iff.rfl (fun Zi=>?_) (fun Zi=>?_))))))
    ·exact ar (Zl (r1 [] ⟨true,rfl,rfl⟩))
    exact ak (az (Z0 1 (ZD k (Z1 (ZG ⟨k+1,ob,rfl,rfl,rfl⟩ (wk [0,0] (ZK k fl)))))))
   exact Zs 0 10 [17,18,19,20,21,22,23,24,25,26] (de (V9 (ak (az (Z0 1 (ZD k (Z1 (ZG ⟨k+1,ob,rfl,rfl,rfl⟩ (wk [0,0] (ZK k fl))))))))))
  exact Zs 0 23 [4,5,6,7,8,9,10,11,12,13,14,15,16,17,18,19,20,21,22,23,24,25,26] (de (V9 (ak (az (Z0 1 (ZD k (Z1 (ZG ⟨k+1,ob,rfl,rfl,rfl⟩ (wk [0,0] (ZK k fl))))))))))
 exact ax 0 (ar (Zl (r1 [] ⟨false,rfl,rfl⟩)))
theorem Pq (n:ZH) (s:Z7) (i:Nat) (mm:Nat) (os:LI) (ls:LI) (hn:Xz n:=by exact ob) (hf:FS n.decls n.routines.length mm s:=by exact ob) (hi:i<s.args.length:=by exact ob) (ho:os.length<=100000000:=by exact ob) (hl:ls.length<=100000000:=by exact ob):Zm 222 [YH n,X5 s,.i i,Z3 os,Z3 ls] [] (fun r h=>∃(wr:Bool),r=.b wr/\h=[]):=by
 refine ZF 34 Tryz.func222 (ar (iA (Xb n) fun b1=>iA (Wf s) fun b2=>Z1 (Zq 4 [0] ?_)))
 obtain ⟨x1,Z4⟩:=Zt s.args i om
 refine Zp (Zk none (i:Int) 1 (Y4 Z4)) (Z0 1 (Zu [] (UE ls x1) (Z0 1 (ib (b:=(decide (x1∈ls))) 18 (fun Ze=>?_) (fun Ze=>?_)))))
 ·exact Zl (r1 [] ⟨true,rfl,rfl⟩)
 refine ZC 4 [0] (Zp (Zk none (i:Int) 1 (Y4 Z4)) (Z0 1 (Zu [] (UE os x1) (Z0 3 (ib (b:=(!(decide (x1∈os)))) 28 (fun ZE=>?_) (fun ZE=>?_))))))
 ·exact Zl (r1 [] ⟨true,rfl,rfl⟩)
 refine ZC 3 [1,0] (ic [] (Z9r n s i mm) ?_)
 rintro _ _ ⟨wr1,rfl,rfl⟩
 exact Zl (r1 [] ⟨wr1,rfl,rfl⟩)
theorem Z95 (n:ZH) (us:LI) (s:Z7) (os:LI) (ls:LI) (mm:Nat) (hn:Xz n:=by exact ob) (hf:FS n.decls n.routines.length mm s:=by exact ob) (hvl:us.length=mm:=by exact ob) (hm:mm<=100000000:=by exact ob) (ho:os.length<=100000000:=by exact ob) (hl:ls.length<=100000000:=by exact ob):Zm 191 [YH n,Z3 us,X5 s,Z3 os,Z3 ls] [] (fun r h=>∃(zs:LI),r=Z3 zs/\h=[]/\zs.length<=s.args.length/\∀z∈zs,z∈s.args):=by
 have hal:=hf.alen
 refine ZF 43 Tryz.func191 (ar (iA (Xb n) fun b1=>iA (Wf s) fun b2=>Z1 (ar (iL (Z6 []) 0 1 fun v1=>?_))))
 refine Z1 (Y5 (ab 0 (Y3 (fun fz gz m F h=>∃(k:Nat) (zs:LI) (u:Value),(k<=s.args.length)/\(zs.length<=k)/\(∀z∈zs,z∈s.args)/\F=sF [1,3,4,5,7] fz [(11,ZI zs u),(12,.i k)]/\h=[Zh gz 1,Zh gz 2,.tail u 1]/\m=s.args.length-k) _ _ _ ⟨0,[],v1,ob,ob,(fun z hz=>by cases hz),rfl,rfl,rfl⟩ (wk [1,1,0] (fr (Yf fl))) ?_)))
 rintro m F h ⟨k,zs,u,Yi,Zj,Zw,rfl,rfl,rfl⟩
 refine Yr 3 [0] (iw (Yd s.args) (Y2 ((k:Int)<(s.args.length:Int)) (fun Zc=>?_) (fun Zc=>?_)))
 ·obtain ⟨a1,ha1⟩:=Zt s.args k om
  have har:=hf.args a1 (Y1 ha1)
  refine ak (aq (ab 1 (Zq 4 [1,0] (Zu [] (Ie n us s k a1 (hnum:=hf.call) (ha:=ha1)) (Z0 1 (ib (b:=JC n us s.op s.num a1 k) 26 (fun Ze=>?_) (fun Ze=>?_)))))))
  ·refine ZC 5 [1,0] (ic [] (Pq n s k mm os ls) ?_)
   rintro _ _ ⟨wr1,rfl,rfl⟩
   refine Yx wr1 Iff.rfl (fun Zi=>?_) (fun Zi=>?_)
   ·exact az (ZC 4 [0] (Zp (Zk none (k:Int) 1 (Y4 ha1)) (Z0 1 (iL (Z6 [a1]) 1 1 fun v2=>ZU 0 [(40,Z3 [a1])] (ip 3 (Z6 (zs++[a1])) (Z6 zs) (Z6 [a1]) u none 1 (YE _) (YE _) (W6 _) (by simp<;>omega) (by simp [W8,Z6]) fun v3=>Z1 (az (Z0 1 (ZD k (Z1 (ZG ⟨k+1,(zs++[a1]),v3,ob,ob,(by first|exact Zw|exact XI Zw (Y1 ha1)),rfl,rfl,rfl⟩ (wk [2,2,0] (fr (ZK k fl)))))))))))))
   exact ak (az (Z0 1 (ZD k (Z1 (ZG ⟨k+1,zs,u,ob,ob,(by first|exact Zw|exact XI Zw (Y1 ha1)),rfl,rfl,rfl⟩ (Zy 3 (fr (ZK k fl))))))))
  exact Z1 (V9 (ak (az (Z0 1 (ZD k (Z1 (ZG ⟨k+1,zs,u,ob,ob,(by first|exact Zw|exact XI Zw (Y1 ha1)),rfl,rfl,rfl⟩ (Zy 3 (fr (ZK k fl))))))))))
 exact ax 0 (ar (Zl (r2 [] [ZI zs u] ⟨zs,rfl,rfl,⟨by omega,Zw⟩⟩ (Zd.forget _ _))))
theorem Z9k (n:ZH) (us:LI) (s:Z7) (os:LI) (ls:LI) (mm:Nat) (hn:Xz n:=by exact ob) (hf:FS n.decls n.routines.length mm s:=by exact ob) (hvl:us.length=mm:=by exact ob) (hm:mm<=100000000:=by exact ob) (ho:os.length<=100000000:=by exact ob) (hl:ls.length<=100000000:=by exact ob):Zm 193 [YH n,Z3 us,X5 s,Z3 os,Z3 ls] [] (fun r h=>∃(zs:LI) (v:Value),r=ZI zs v/\h=[.tail v 1]/\zs.length<=os.length/\∀z∈zs,z∈os):=by
 have hal:=hf.alen
 refine ZF 55 Tryz.func193 (ar (iA (Xb n) fun b1=>iA (Wf s) fun b2=>Z1 (Yr 4 [0] (ib (b:=(s.op==7)) 16 (fun Ze=>?_) (fun Ze=>?_)))))
 ·refine Z1 (Vq (Yc 2 (ic [] (Pj os ls) ?_)))
  rintro _ _ ⟨zs1,v1,rfl,rfl,Ys⟩
  have hco:=Ys
  exact Zl (r1 [0] ⟨zs1,v1,rfl,rfl,(by first|exact hco|exact ⟨by omega,Zw⟩)⟩)
 refine WQ [0] (ac (s.op==8) Zg (fun Zc=>?_) (fun Zc=>?_))
 ·refine Yc 2 (ic [] (Pj os ls) ?_)
  rintro _ _ ⟨zs2,v2,rfl,rfl,X2⟩
  have hco:=X2
  exact Zl (r1 [0] ⟨zs2,v2,rfl,rfl,(by first|exact hco|exact ⟨by omega,Zw⟩)⟩)
 refine ak (Yc 1 (ic [] (WX os) ?_))
 rintro _ _ ⟨v3,rfl,rfl⟩
 refine Z1 (Y5 (ab 0 (Y3 (fun fz gz m F h=>∃(k:Nat) (zs:LI) (u:Value),(k<=s.args.length)/\(zs.length<=os.length)/\(∀z∈zs,z∈os)/\F=sF [1,3,4,5,7] fz [(11,ZI zs u),(12,.i k)]/\h=[Zh gz 1,Zh gz 2,.tail u 1]/\m=s.args.length-k) _ _ _ ⟨0,os,v3,ob,ob,(fun z hz=>hz),rfl,rfl,rfl⟩ (wk [1,1,0] (fr (Yf fl))) ?_)))
 rintro m F h ⟨k,zs,u,Yi,Zj,Zw,rfl,rfl,rfl⟩
 refine Yr 3 [0] (iw (Yd s.args) (Y2 ((k:Int)<(s.args.length:Int)) (fun Zi=>?_) (fun Zi=>?_)))
 ·obtain ⟨a1,ha1⟩:=Zt s.args k om
  have har:=hf.args a1 (Y1 ha1)
  refine ak (aq (ab 1 (Zq 4 [1,0] (Zu [] (Ie n us s k a1 (hnum:=hf.call) (ha:=ha1)) (Z0 1 (ib (b:=JC n us s.op s.num a1 k) 38 (fun ZE=>?_) (fun ZE=>?_)))))))
  ·refine ZC 5 [1,0] (ic [] (Pq n s k mm os ls) ?_)
   rintro _ _ ⟨wr1,rfl,rfl⟩
   refine Yx (!wr1) (p:=¬(wr1=true)) (Yl Iff.rfl) (fun ZB=>?_) (fun ZB=>?_)
   ·refine az (ZC 4 [0] (Zp (Zk none (k:Int) 1 (Y4 ha1)) (ZU 1 [(47,Z3 zs)] (ic [] (Px zs a1) ?_))))
    rintro _ _ ⟨v4,rfl,rfl⟩
    exact Z1 (az (Z0 1 (ZD k (Z1 (ZG ⟨k+1,(Q7 zs a1),v4,ob,(by first|exact Zj|exact Vn (Fv _ _) Zj),(by first|exact Zw|exact (fun z hz=>Zw z (Ee hz))),rfl,rfl,rfl⟩ (wk [1,1,0] (fr (ZK k fl))))))))
   exact ak (az (Z0 1 (ZD k (Z1 (ZG ⟨k+1,zs,u,ob,(by first|exact Zj|exact Vn (Fv _ _) Zj),(by first|exact Zw|exact (fun z hz=>Zw z (Ee hz))),rfl,rfl,rfl⟩ (Zy 3 (fr (ZK k fl))))))))
  exact Z1 (V9 (ak (az (Z0 1 (ZD k (Z1 (ZG ⟨k+1,zs,u,ob,(by first|exact Zj|exact Vn (Fv _ _) Zj),(by first|exact Zw|exact (fun z hz=>Zw z (Ee hz))),rfl,rfl,rfl⟩ (Zy 3 (fr (ZK k fl))))))))))
 exact ax 0 (ar (Zl (r1 [2] ⟨zs,u,rfl,rfl,(by first|exact hco|exact ⟨by omega,Zw⟩)⟩)))
theorem Z9l (n:ZH) (s:Z7) (os:LI) (ls:LI) (mm:Nat) (hn:Xz n:=by exact ob) (hf:FS n.decls n.routines.length mm s:=by exact ob) (ho:os.length<=100000000:=by exact ob) (hl:ls.length<=100000000:=by exact ob):Zm 194 [YH n,X5 s,Z3 os,Z3 ls] [] (fun r h=>∃(zs:LI),r=Z3 zs/\h=[]/\zs.length<=s.args.length/\∀z∈zs,z∈s.args):=by
 have hal:=hf.alen
 refine ZF 50 Tryz.func194 (ar (iA (Xb n) fun b1=>iA (Wf s) fun b2=>Z1 (ar (iL (Z6 []) 0 1 fun v1=>?_))))
 refine Z1 (Y5 (ab 0 (Y3 (fun fz gz m F h=>∃(k:Nat) (zs:LI) (u:Value),(k<=s.args.length)/\(zs.length<=k)/\(∀z∈zs,z∈s.args)/\F=sF [2,3,4,5] fz [(9,ZI zs u),(10,.i k)]/\h=[Zh gz 1,Zh gz 2,.tail u 1]/\m=s.args.length-k) _ _ _ ⟨0,[],v1,ob,ob,(fun z hz=>by cases hz),rfl,rfl,rfl⟩ (wk [1,1,0] (fr (Yf fl))) ?_)))
 rintro m F h ⟨k,zs,u,Yi,Zj,Zw,rfl,rfl,rfl⟩
 refine Yr 3 [0] (iw (Yd s.args) (Y2 ((k:Int)<(s.args.length:Int)) (fun Zc=>?_) (fun Zc=>?_)))
 ·obtain ⟨a1,ha1⟩:=Zt s.args k om
  have har:=hf.args a1 (Y1 ha1)
  refine ak (aq (ab 1 (Zq 3 [1,0] (Zu [] (FQ n s k (hnum:=hf.call)) (X8 13 [2,3,4,5,9,10] [(31,.b (T8 n s.op s.num k&&(decide (a1∈os))))] (fun gz=>gz) ?_ (fun hj1=>?_))))))
  ·refine Xs [2,3,4,5,9,10] [(41,.b ((T8 n s.op s.num k&&(decide (a1∈os)))&&(!(decide (a1∈ls)))))] (fun gz=>gz) ?_ ?_
   ·refine Z0 1 (ib (b:=(T8 n s.op s.num k&&(decide (a1∈os)))) 32 (fun Ze=>?_) (fun Ze=>?_))
    ·exact ZC 4 [0] (Zp (Zk none (k:Int) 1 (Y4 ha1)) (Z0 1 (Zu [] (UE ls a1) (Z1 (Zy 3 (Zo (!(decide (a1∈ls))) Ze fl))))))
    exact Z1 (Zy 3 (Zo false Ze fl))
   refine ac ((T8 n s.op s.num k&&(decide (a1∈os)))&&(!(decide (a1∈ls)))) (p:=((T8 n s.op s.num k=true)/\(a1∈os))/\(¬(a1∈ls))) (Yt (Yt Iff.rfl dq) (Yl dq)) (fun Zi=>?_) (fun Zi=>?_)
   ·refine az (ZC 4 [0] (Zp (Zk none (k:Int) 1 (Y4 ha1)) (ZU 1 [(42,Z3 zs)] (ic [] (BS zs a1) ?_))))
    rintro _ _ ⟨v2,rfl,rfl⟩
    exact Z1 (az (Z0 1 (ZD k (Z1 (ZG ⟨k+1,(WG zs a1),v2,ob,(by first|omega|(have:=Be zs a1;omega)),(by first|exact Zw|exact (fun z hz=>(D7.1 hz).elim (Zw z) (fun e=>e▸Y1 ha1))),rfl,rfl,rfl⟩ (wk [1,1,0] (fr (ZK k fl))))))))
   exact ak (az (Z0 1 (ZD k (Z1 (ZG ⟨k+1,zs,u,ob,(by first|omega|(have:=Be zs a1;omega)),(by first|exact Zw|exact (fun z hz=>(D7.1 hz).elim (Zw z) (fun e=>e▸Y1 ha1))),rfl,rfl,rfl⟩ (Zy 3 (fr (ZK k fl))))))))
  refine Z0 1 (ib (b:=T8 n s.op s.num k) 23 (fun ZE=>?_) (fun ZE=>?_))
  ·exact ZC 4 [0] (Zp (Zk none (k:Int) 1 (Y4 ha1)) (Z0 1 (Zu [] (UE os a1) (Z0 1 (Y8 (Zy 3 (Zo (decide (a1∈os)) ZE fl)) hj1)))))
  exact Z0 8 (Y8 (Zy 3 (Zo false ZE fl)) hj1)
 exact ax 0 (ar (Zl (r2 [] [ZI zs u] ⟨zs,rfl,rfl,⟨by omega,Zw⟩⟩ (Zd.forget _ _))))
theorem Eo (rt:YD) (b:Za) (hp:rt.params.length<=4294967296:=by exact ob) (hl:rt.lent.length<=4294967296:=by exact ob):Zm 119 [A8 rt,Yp b] [] (Yw (A8 (YD.mk rt.params rt.lent rt.result b))):=by
 refine ZF 15 Tryz.func119 (ar (iA (JP rt) fun b1=>iA (W3 b) fun b2=>iA [nl,nl,.i 0,nl,.i 0] fun b3=>ie (aD 11 (ZY 4 11 [0,1,3,4,6,7,8] [2,2,2,1] (Z9 2 (dc 2 [] [1,2,2] [b2,b1,b1] (WX rt.params) ?_))))))
 rintro _ _ ⟨v1,rfl,rfl⟩
 refine Z9 5 (dc 5 [] [1,2] [b2,b1] (WX rt.lent) ?_)
 rintro _ _ ⟨v2,rfl,rfl⟩
 exact Zs 1 2 [9] (Z9 10 (YX 10 2 [] [] b3 [ZI rt.params v1,ZI rt.lent v2,.i rt.result,Vw b.steps,.i b.result] (de (ZV (r3 [] [.agg [ZI rt.params v1,ZI rt.lent v2,.i rt.result,Vw b.steps,.i b.result]] [0] [(b3,b3)] ⟨rfl,rfl⟩ (Zd.agg (.cons (Zd.sl _ (Yg Z6 ob)) (.cons (Zd.sl _ (Yg Z6 ob)) (.cons li (.cons (Zd.sl _ (Yg ZT ob)) (.cons li .nil)))))))))))
theorem Z90 (n:ZH) (us:LI) (fds:LI) (kd:Za) (os:LI) (ls:LI) (mm:Nat) (bb:Nat) (hn:Xz n:=by exact ob) (hf:fB n.decls n.routines.length (mm+fds.length) kd:=by exact ob) (hop:Vx WS kd:=by exact ob) (hul:us.length=mm:=by exact ob) (hfl:fds.length<=3:=by exact ob) (hm:mm+3+4*kd.sz<=100000:=by exact ob) (hor:∀v∈os,0<=v/\v<(mm:Int)) (hol:os.length+3+4*kd.sz<=730:=by exact ob) (hal:ls.length+2000*kd.sz<=1000000:=by exact ob) (hbz:kd.sz<=500:=by exact ob) (hb:kd.sz<bb:=by exact ob) (ih:∀(us2:LI) (b2:Za) (os2:LI) (as2:LI) (m2:Nat),(fB n.decls n.routines.length m2 b2)->(Vx WS b2)->(us2.length=m2)->(m2+4*b2.sz<=100000)->(∀v∈os2,0<=v/\v<(m2:Int))->(os2.length+4*b2.sz<=730)->(as2.length+2000*b2.sz<=1000000)->(b2.sz<=500)->(b2.sz<bb)->Zm 156 [YH n,Z3 us2,Yp b2,Z3 os2,Z3 as2] [] (fun r h=>∃(y:Za),r=Yp y/\h=[]/\KB n.decls n.routines.length m2 y (4500*b2.sz))):Zm 223 [YH n,Z3 us,Z3 fds,Yp kd,Z3 os,Z3 ls] [] (fun r h=>∃(y:Za),r=Yp y/\h=[]/\KB n.decls n.routines.length (mm+fds.length) y (4500*kd.sz+1470)):=by
 refine ZF 115 Tryz.func223 (ar (iA (Xb n) fun b1=>iA (W3 kd) fun b2=>iA [nl,.i 0] fun b3=>ie (Yc 1 (iw (Yd us) (Z1 (Yc 2 (ic [] (TK us fds) ?_)))))))
 rintro _ _ ⟨v1,rfl,rfl⟩
 refine Z1 (Zq 2 [2] (io (.i (((us++fds).length:Nat):Int)) (.i (((Z6 (us++fds)).length:Nat):Int)) (li (by rw [Yd])) (Zu [] (Z1q kd (((us++fds).length:Nat):Int)) ?_)))
 have hub:=Ik (n:=(((us++fds).length:Nat):Int)) kd []
 simp only [YY,Wh] at hub
 refine Z1 (ar (iL (Z6 []) 0 1 fun v2=>Z1 (ar (iL (Z6 []) 0 1 fun v3=>?_))))
 refine Z1 (Y5 (ab 0 (Y3 (fun fz gz m F h=>∃(k:Nat) (ms:LI) (u:Value) (dr:LI) (w:Value),(k<=os.length)/\(ms.length<=k)/\(dr.length<=k)/\(∀v∈ms,0<=v/\v<(mm:Int))/\(∀v∈dr,0<=v/\v<(mm:Int))/\F=sF [2,4,5,6,9,12,13,15] fz [(14,Z3 (us++fds)),(16,ZI ms u),(17,ZI dr w),(18,.i k)]/\h=[Zh gz 3,Zh gz 4,Zh gz 5,.tail u 1,.tail w 1]/\m=os.length-k) _ _ _ ⟨0,[],v2,[],v3,ob,ob,ob,(fun v hv=>by cases hv),(fun v hv=>by cases hv),rfl,rfl,rfl⟩ (wk [3,3,3,1,0] (fc (x:=ZI (us++fds) v1) (Zd.forget _ _) (fw (Yf fl)))) ?_)))
 rintro m F h ⟨k,ms,u,dr,w,Yi,Zj,Zw,YO,Wk,rfl,rfl,rfl⟩
 refine YN 2 (iw (Yd os) (Y2 ((k:Int)<(os.length:Int)) (fun Zc=>?_) (fun Zc=>?_)))
 ·obtain ⟨o1,ho1⟩:=Zt os k om
  have hor1:=hor o1 (Y1 ho1)
  refine ak (aq (ab 1 (Yc 3 (Zp (Zk none (k:Int) 1 (Y4 ho1)) (Z0 1 (Zu [] (UE (Tb (((us++fds).length:Nat):Int) kd []) o1) (Xs [2,4,5,6,9,12,13,14,15,16,17,18] [(53,.b ((decide (o1∈(Tb (((us++fds).length:Nat):Int) kd [])))||(decide (o1∈ls))))] (fun gz=>gz) ?_ ?_)))))))
  ·refine Z0 1 (ib (b:=(decide (o1∈(Tb (((us++fds).length:Nat):Int) kd [])))) 46 (fun Ze=>?_) (fun Ze=>?_))
   ·exact Z1 (Zy 5 (Zo true Ze fl))
   exact Z0 3 (Zp (Zk none (k:Int) 1 (Y4 ho1)) (Z0 1 (Zu [] (UE ls o1) (Z1 (Zy 5 (Zo (decide (o1∈ls)) Ze fl))))))
  refine ac ((decide (o1∈(Tb (((us++fds).length:Nat):Int) kd [])))||(decide (o1∈ls))) (p:=(o1∈(Tb (((us++fds).length:Nat):Int) kd []))∨(o1∈ls)) (ZZ dq dq) (fun Zi=>?_) (fun Zi=>?_)
  ·exact az (Z0 3 (Zp (Zk none (k:Int) 1 (Y4 ho1)) (Z0 1 (iL (Z6 [o1]) 1 1 fun v4=>ZU 0 [(59,Z3 [o1])] (ip 4 (Z6 (ms++[o1])) (Z6 ms) (Z6 [o1]) u none 1 (YE _) (YE _) (W6 _) (by simp<;>omega) (by simp [W8,Z6]) fun v5=>Z1 (az (Z0 1 (ZD k (Z1 (ZG ⟨k+1,(ms++[o1]),v5,dr,w,ob,ob,ob,(by first|exact YO|exact XI YO hor1),(by first|exact Wk|exact XI Wk hor1),rfl,rfl,rfl⟩ (wk [2,2,2,0,1] (fw (fr (ZK k fl))))))))))))))
  exact az (Z0 3 (Zp (Zk none (k:Int) 1 (Y4 ho1)) (Z0 1 (iL (Z6 [o1]) 1 1 fun v6=>ZU 0 [(66,Z3 [o1])] (ip 5 (Z6 (dr++[o1])) (Z6 dr) (Z6 [o1]) w none 1 (YE _) (YE _) (W6 _) (by simp<;>omega) (by simp [W8,Z6]) fun v7=>Z1 (az (Z0 1 (ZD k (Z1 (ZG ⟨k+1,ms,u,(dr++[o1]),v7,ob,ob,ob,(by first|exact YO|exact XI YO hor1),(by first|exact Wk|exact XI Wk hor1),rfl,rfl,rfl⟩ (wk [2,2,2,2,0] (fw (fr (ZK k fl))))))))))))))
 refine ax 0 (ar (iL (Z6 []) 0 1 fun v8=>?_))
 refine Z1 (Y5 (ab 2 (Y3 (fun fz gz m F h=>∃(k:Nat) (ps:LI) (w2:Value),(k<=fds.length)/\(ps.length<=k)/\(∀v∈ps,(mm:Int)<=v/\v<((mm+fds.length:Nat):Int))/\F=sF [2,5,6,9,12,13,14,15,16,17] fz [(19,ZI ps w2),(20,.i k)]/\h=[Zh gz 1,Zh gz 2,Zh gz 3,Zh gz 4,Zh gz 5,.tail w2 1]/\m=fds.length-k) _ _ _ ⟨0,[],v8,ob,ob,(fun v hv=>by cases hv),rfl,rfl,rfl⟩ (wk [1,1,1,1,1,0] (fr (Yf fl))) ?_)))
 rintro m F h ⟨k,ps,w2,VB,XE,XJ,rfl,rfl,rfl⟩
 refine YN 2 (iw (Yd fds) (Y2 ((k:Int)<(fds.length:Int)) (fun ZB=>?_) (fun ZB=>?_)))
 ·refine ak (aq (ab 3 (Yc 2 ?_)))
  obtain ⟨x1,Z4⟩:=Zt fds k om
  refine Zp (Zk none (k:Int) 1 (Y4 Z4)) (Xs [2,5,6,9,12,13,14,15,16,17,19,20] [(86,.b ((x1 != 0)&&(decide (((us.length+k:Nat):Int)∈(Tb (((us++fds).length:Nat):Int) kd [])))))] (fun gz=>gz) ?_ ?_)
  ·refine Z0 3 (ib (b:=(x1 != 0)) 80 (fun ZE=>?_) (fun ZE=>?_))
   ·exact Z0 3 (ia (((us.length+k:Nat):Int)) (((us.length:Int))+((k:Int))) (Zu [] (UE (Tb (((us++fds).length:Nat):Int) kd []) ((us.length+k:Nat):Int)) (Z1 (Zy 6 (Zo (decide (((us.length+k:Nat):Int)∈(Tb (((us++fds).length:Nat):Int) kd []))) ZE fl)))))
   exact Z1 (Zy 6 (Zo false ZE fl))
  refine ac ((x1 != 0)&&(decide (((us.length+k:Nat):Int)∈(Tb (((us++fds).length:Nat):Int) kd [])))) (p:=(x1≠0)/\(((us.length+k:Nat):Int)∈(Tb (((us++fds).length:Nat):Int) kd []))) (Yt Yn dq) (fun Y7=>?_) (fun Y7=>?_)
  ·exact az (Z0 3 (ia (((us.length+k:Nat):Int)) (((us.length:Int))+((k:Int))) (iL (Z6 [((us.length+k:Nat):Int)]) 1 1 fun v9=>ZU 0 [(91,Z3 [((us.length+k:Nat):Int)])] (ip 6 (Z6 (ps++[((us.length+k:Nat):Int)])) (Z6 ps) (Z6 [((us.length+k:Nat):Int)]) w2 none 1 (YE _) (YE _) (W6 _) (by simp<;>omega) (by simp [W8,Z6]) fun v10=>Z1 (az (Z0 1 (ZD k (Z1 (ZG ⟨k+1,(ps++[((us.length+k:Nat):Int)]),v10,ob,ob,(by first|exact XJ|exact XI XJ om),rfl,rfl,rfl⟩ (wk [2,2,2,2,2,0] (fr (ZK k fl))))))))))))
  exact ak (az (Z0 1 (ZD k (Z1 (ZG ⟨k+1,ps,w2,ob,ob,(by first|exact XJ|exact XI XJ om),rfl,rfl,rfl⟩ (Zy 6 (fr (ZK k fl))))))))
 refine ax 2 (ar (ZU 1 [(93,Z3 ps)] (ic [] (KV 14 ps) ?_)))
 rintro _ _ ⟨v11,rfl,rfl⟩
 refine ZU 1 [(95,Z3 dr)] (ic [] (KV 15 dr) ?_)
 rintro _ _ ⟨v12,rfl,rfl⟩
 refine ZU 0 [(96,Vw (dr.map (Zx 15)))] (ip 1 (ZT ((ps.map (Zx 14))++(dr.map (Zx 15)))) (ZT (ps.map (Zx 14))) (ZT (dr.map (Zx 15))) v11 none 5 (XK _) (XK _) (Us _) (by simp<;>omega) (by simp [VC,ZT]) fun v13=>?_)
 refine Z1 (aD 12 (ZY 5 12 [0,1,2,3,4,6,7] [4,3] (BJ (fun fz gz F h=>∃(y1:Za) (b4:Nat) (zs1:LI),(zs1.length<=ls.length/\∀z∈zs1,z∈ls)/\(KB n.decls n.routines.length (mm+fds.length) y1 (4500*kd.sz))/\F=sF [12,21] fz [(22,.p b4 0)]/\h=[.obj b4 (W3 y1),Zh gz 0,Zh gz 1,Zh gz 2,Zh gz 3,Zh gz 4,Zh gz 6,Zh gz 7]) ?_ ?_)))
 ·refine Ur 5 10 ?_ ?_
  ·refine dp 5 5 [1,2] [b2,b1] (Z6 (ms++ps)) (Z6 ms) (Z6 ps) u (some w2) 1 (YE _) (YE _) (W6 _) (by simp<;>omega) (by simp [W8,Z6]) fun v14=>Ur 8 10 ?_ ?_
   ·refine dc 8 [] [1,2] [b2,b1] (LJ ls (us.length:Int)) ?_
    rintro _ _ ⟨zs1,v15,rfl,rfl,Xk⟩
    have hbl:=Xk
    refine Yv 3 3 [] [(103,Z3 (ms++ps)),(106,Z3 zs1)] (Ur 9 10 ?_ ?_)
    ·refine dc 9 [] [] [] (ih (us++fds) kd (ms++ps) zs1 (mm+fds.length) hf hop (by rw [Yo,hul]) ob (fun v hv=>by rcases Xg.1 hv with h|h;exact (by have:=YO v h;omega);exact (by have:=XJ v h;omega)) (by rw [Yo];omega) ob ob ob) ?_
     rintro _ _ ⟨y1,rfl,rfl,XU⟩
     have hkb:=XU
     have hkl:=hkb.len
     exact Z9 10 (dA 10 [] [] [nl,.i 0] fun b4=>Z9 11 (YX 11 0 [] [] b4 (W3 y1) (de (ZJ ⟨_,b4,_,(by assumption),(by assumption),rfl,rfl⟩ (wk [0,2,2,2,2,2,2,2] fl)))))
    refine dA 10 [1,2] [b2,b1] [nl,.i 0] fun b5=>Z9 9 (dc 9 [] [] [] (ih (us++fds) kd (ms++ps) zs1 (mm+fds.length) hf hop (by rw [Yo,hul]) ob (fun v hv=>by rcases Xg.1 hv with h|h;exact (by have:=YO v h;omega);exact (by have:=XJ v h;omega)) (by rw [Yo];omega) ob ob ob) ?_)
    rintro _ _ ⟨y2,rfl,rfl,Wi⟩
    have hkb:=Wi
    have hkl:=hkb.len
    exact Z9 11 (YX 11 0 [] [] b5 (W3 y2) (de (ZJ ⟨_,b5,_,(by assumption),(by assumption),rfl,rfl⟩ (wk [0,2,2,2,2,2,2,2] fl))))
   refine dA 10 [1,2] [b2,b1] [nl,.i 0] fun b6=>Z9 8 (dc 8 [] [2,3] [b2,b1] (LJ ls (us.length:Int)) ?_)
   rintro _ _ ⟨zs2,v16,rfl,rfl,V6⟩
   have hbl:=V6
   refine Yv 2 2 [] [(103,Z3 (ms++ps)),(106,Z3 zs2)] (Z9 9 (dc 9 [] [] [] (ih (us++fds) kd (ms++ps) zs2 (mm+fds.length) hf hop (by rw [Yo,hul]) ob (fun v hv=>by rcases Xg.1 hv with h|h;exact (by have:=YO v h;omega);exact (by have:=XJ v h;omega)) (by rw [Yo];omega) ob ob ob) ?_))
   rintro _ _ ⟨y3,rfl,rfl,VD⟩
   have hkb:=VD
   have hkl:=hkb.len
   exact Z9 11 (YX 11 1 [] [] b6 (W3 y3) (de (ZJ ⟨_,b6,_,(by assumption),(by assumption),rfl,rfl⟩ (wk [0,2,2,2,2,2,2,2] fl))))
  refine dA 10 [1,2] [b2,b1] [nl,.i 0] fun b7=>Yv 4 4 [] [(102,Z3 ps)] (Z9 5 (dp 5 6 [2,3] [b2,b1] (Z6 (ms++ps)) (Z6 ms) (Z6 ps) u none 1 (YE _) (YE _) (W6 _) (by simp<;>omega) (by simp [W8,Z6]) fun v17=>Z9 8 (dc 8 [] [2,3] [b2,b1] (LJ ls (us.length:Int)) ?_)))
  rintro _ _ ⟨zs3,v18,rfl,rfl,T5⟩
  have hbl:=T5
  refine Yv 2 2 [] [(103,Z3 (ms++ps)),(106,Z3 zs3)] (Z9 9 (dc 9 [] [] [] (ih (us++fds) kd (ms++ps) zs3 (mm+fds.length) hf hop (by rw [Yo,hul]) ob (fun v hv=>by rcases Xg.1 hv with h|h;exact (by have:=YO v h;omega);exact (by have:=XJ v h;omega)) (by rw [Yo];omega) ob ob ob) ?_))
  rintro _ _ ⟨y4,rfl,rfl,TE⟩
  have hkb:=TE
  have hkl:=hkb.len
  exact Z9 11 (YX 11 2 [] [] b7 (W3 y4) (de (ZJ ⟨_,b7,_,(by assumption),(by assumption),rfl,rfl⟩ (wk [0,2,2,2,2,2,2,2] fl))))
 rintro F h ⟨y1,b4,zs1,Xk,XU,rfl,rfl⟩
 have hbl:=Xk
 have hkb:=XU
 have hkl:=hkb.len
 exact aD 8 (ZY 3 8 [0,1,2,4,5] [0,0] (Z9 3 (dp 3 1 [0] [b4] (ZT (((ps.map (Zx 14))++(dr.map (Zx 15)))++y1.steps)) (ZT ((ps.map (Zx 14))++(dr.map (Zx 15)))) (ZT y1.steps) v13 none 5 (XK _) (XK _) (Us _) (by simp<;>omega) (by simp [VC,ZT]) fun v19=>Zs 1 2 [6] (Z9 7 (YX 7 3 [] [] b3 [Xl (((ps.map (Zx 14))++(dr.map (Zx 15)))++y1.steps) v19,.i y1.result] (de (ZV (r3 [] [.agg [Xl (((ps.map (Zx 14))++(dr.map (Zx 15)))++y1.steps) v19,.i y1.result]] [0] [(b3,b3)] ⟨(Za.mk (((ps.map (Zx 14))++(dr.map (Zx 15)))++y1.steps) y1.result),rfl,rfl,((hkb.put (fun v hv=>by have:=XJ v hv;omega) (fun v hv=>by have:=Wk v hv;omega)).le om)⟩ (Zd.agg (.cons (Zd.forget _ _) (.cons (lr _) .nil)))))))))))
theorem Z91 (n:ZH) (us:LI) (s:Z7) (os:LI) (ls:LI) (mm:Nat) (bb:Nat) (hn:Xz n:=by exact ob) (hf:FS n.decls n.routines.length mm s:=by exact ob) (h11:s.op<=11:=by exact ob) (hop:Kl WS s.kids:=by exact ob) (hul:us.length=mm:=by exact ob) (hm:mm+4*s.sz<=100000:=by exact ob) (hor:∀v∈os,0<=v/\v<(mm:Int)) (hol:os.length+4*s.sz<=730:=by exact ob) (hal:ls.length+2000*s.sz<=1000000:=by exact ob) (hbz:s.sz<=500:=by exact ob) (hb:s.sz<=bb:=by exact ob) (ih:∀(us2:LI) (b2:Za) (os2:LI) (as2:LI) (m2:Nat),(fB n.decls n.routines.length m2 b2)->(Vx WS b2)->(us2.length=m2)->(m2+4*b2.sz<=100000)->(∀v∈os2,0<=v/\v<(m2:Int))->(os2.length+4*b2.sz<=730)->(as2.length+2000*b2.sz<=1000000)->(b2.sz<=500)->(b2.sz<bb)->Zm 156 [YH n,Z3 us2,Yp b2,Z3 os2,Z3 as2] [] (fun r h=>∃(y:Za),r=Yp y/\h=[]/\KB n.decls n.routines.length m2 y (4500*b2.sz))):Zm 192 [YH n,Z3 us,X5 s,Z3 os,Z3 ls] [] (fun r h=>∃(y:Z7),r=X5 y/\h=[]/\KT n.decls n.routines.length mm y (4500*YU s.kids+4420)):=by
 have Xr:=hn.decls
 have hkf:=hf.few Xr
 have hsa:=hf.alen
 refine ZF 62 Tryz.func192 (ar (iA (Xb n) fun b1=>iA (Wf s) fun b2=>iA [.i 0,.i 0,.i 0,nl,nl] fun b3=>ie (ar (iL (XT []) 0 2 fun v1=>Z1 (Zq 4 [3,2] (ic [] (Jp n.decls s.num) ?_))))))
 rintro _ _ ⟨v2,rfl,rfl⟩
 refine Z1 (Y5 (ab 0 (Y3 (fun fz gz m F h=>∃(k:Nat) (ks:List Za) (u:Value),(k<=s.kids.length)/\(ks.length=k)/\(KK n.decls n.routines.length (V0 n.decls s.op s.num mm) ks (4500*YU (s.kids.take k)+1470*k))/\F=sF [1,3,4,5,7,10] fz [(11,Qv ks u),(12,Z3 (ZX n.decls s.num)),(13,.i k)]/\h=[Zh gz 2,Zh gz 3,Zh gz 4,.tail u 2]/\m=s.kids.length-k) _ _ _ ⟨0,[],v1,ob,ob,(KK.nil.le (QB _)),rfl,rfl,rfl⟩ (wk [2,2,2,1] (fr (fc (x:=ZI (ZX n.decls s.num) v2) (Zd.forget _ _) (Yf fl)))) ?_)))
 rintro m F h ⟨k,ks,u,Yi,Zj,Zw,rfl,rfl,rfl⟩
 refine Yr 3 [1] (iw (KF s.kids) (Y2 ((k:Int)<(s.kids.length:Int)) (fun Zc=>?_) (fun Zc=>?_)))
 ·refine ak (aq (ab 1 (ar (iL (Z6 []) 0 1 fun v3=>?_))))
  refine Z1 (Xh (WQ [2] (Xy (fun fz gz F h=>∃(fds:LI),(V0 n.decls s.op s.num mm k=mm+fds.length)/\(fds.length<=3)/\F=sF [1,3,4,5,7,10,11,12,13] fz [(14,Z3 fds)]/\h=[Zh gz 1,Zh gz 2,Zh gz 3,Zh gz 4]) ?_ ?_)))
  ·refine ac (s.op==8) Zg (fun Zi=>?_) (fun Zi=>?_)
   ·refine aE 8 (ZY 4 8 [0,1,2,3] [3] ?_)
    obtain ⟨x1,Z4⟩:=Zt (ZX n.decls s.num) k (by have:=hf.k8 (by assumption);omega)
    have hcf:=Vr Xr x1
    exact dx 4 (Zk none (k:Int) 1 (Y4 Z4)) (Zs 2 3 [5] (Z9 6 (YL 6 [] [] [] (Qx n.decls x1) (Zs 0 1 [7] (de (ZJ ⟨ZP n.decls x1,(MT (by assumption) Z4),ob,rfl,rfl⟩ (wk [1,1,1,1] fl)))))))
   exact ak (ZJ ⟨[],(by rw [MU (by assumption)];rfl),ob,rfl,rfl⟩ (wk [1,1,1,1] fl))
  rintro F h ⟨fds,VN,Bf,rfl,rfl⟩
  refine aE 15 (ZY 8 15 [0,1,2,3,4,5,6] [2,1] ?_)
  obtain ⟨x2,Zv⟩:=Zt s.kids k om
  have hkz:=Qs Zv
  have hfk:=BO hf.kids Zv
  rw [Wh,VN] at hfk
  have hok:=Ec.1 hop x2 (Y1 Zv)
  have hbt:=Gr Zv
  have hba:=Gs Zv
  refine dx 7 (Zk none (k:Int) 2 (T3 Zv)) (Zs 4 7 [8,9,10] (Z9 11 (dc 11 [] [] [] (Z90 n us fds x2 os ls mm bb (hf:=hfk) (hop:=hok) (hor:=hor) (ih:=ih)) ?_)))
  rintro _ _ ⟨y1,rfl,rfl,Ya⟩
  have hkb:=Ya
  exact Z9 12 (WE 12 [] [] [Yp y1] (XT [y1]) (K8 [y1]).symm 1 2 fun v4=>Yv 2 2 [] [(51,JT [y1])] (Z9 13 (dp 13 4 [] [] (XT (ks++[y1])) (XT ks) (XT [y1]) u none 2 (J8 _) (J8 _) (GC _) (by simp<;>omega) (by simp [CK,XT]) fun v5=>Zs 0 1 [14] (de (az (Z0 1 (ZD k (Z1 (ZG ⟨k+1,(ks++[y1]),v5,ob,ob,((Zw.snoc Zj (by rw [VN];exact hkb)).le om),rfl,rfl,rfl⟩ (wk [2,2,2,0] (fw (ZK k fl))))))))))))
 refine ax 0 (aD 10 (ZY 3 10 [0,1,2,3,4,5,7] [1,1,1] (Z9 6 (dc 6 [] [1,1] [b2,b2] (WX s.args) ?_))))
 rintro _ _ ⟨v6,rfl,rfl⟩
 exact Zs 1 2 [8] (Z9 9 (YX 9 1 [] [] b3 [.i s.op,.i s.num,.i 0,ZI s.args v6,Qv ks u] (de (ZV (r3 [] [.agg [.i s.op,.i s.num,.i 0,ZI s.args v6,Qv ks u]] [0] [(b3,b3)] ⟨(Z7.mk s.op s.num 0 s.args ks),rfl,rfl,((KT.of (into:=0) hf h11 om om Zw).le (by have:=IP (xs:=s.kids) (k:=k) om;omega))⟩ (Zd.agg (.cons (lr _) (.cons (lr _) (.cons (lr _) (.cons (Zd.forget _ _) (.cons (Zd.forget _ _) .nil)))))))))))
theorem Z8y (n:ZH) (us:LI) (b:Za) (os:LI) (ls:LI) (mm:Nat) (hn:Xz n) (hf:fB n.decls n.routines.length mm b) (hop:Vx WS b) (hul:us.length=mm) (hm:mm+4*b.sz<=100000) (hor:∀v∈os,0<=v/\v<(mm:Int)) (hol:os.length+4*b.sz<=730) (hal:ls.length+2000*b.sz<=1000000) (hbz:b.sz<=500) (ih:∀(us2:LI) (b2:Za) (os2:LI) (as2:LI) (m2:Nat),(fB n.decls n.routines.length m2 b2)->(Vx WS b2)->(us2.length=m2)->(m2+4*b2.sz<=100000)->(∀v∈os2,0<=v/\v<(m2:Int))->(os2.length+4*b2.sz<=730)->(as2.length+2000*b2.sz<=1000000)->(b2.sz<=500)->(b2.sz<b.sz)->Zm 156 [YH n,Z3 us2,Yp b2,Z3 os2,Z3 as2] [] (fun r h=>∃(y:Za),r=Yp y/\h=[]/\KB n.decls n.routines.length m2 y (4500*b2.sz))):Zm 156 [YH n,Z3 us,Yp b,Z3 os,Z3 ls] [] (fun r h=>∃(y:Za),r=Yp y/\h=[]/\KB n.decls n.routines.length mm y (4500*b.sz)):=by
 have Xr:=hn.decls
 have hbe:=b.sz_eq
 have ZL:=UG b
 obtain ⟨hfs,hr1,hr2⟩:=(Ja b).1 hf
 have hos:=De.1 ((HF b).1 hop)
 have hdn:=L8 hos
 have hdl:=hdn b.steps.length (Xa _)
 rw [Ux] at hdl
 refine ZF 149 Tryz.func156 (ar (iA (Xb n) fun b1=>iA (W3 b) fun b2=>iA [nl,.i 0] fun b3=>ie (ar (iL (ZT []) 0 5 fun v1=>Z1 (Yc 1 (ic [] (WX us) ?_))))))
 rintro _ _ ⟨v2,rfl,rfl⟩
 refine Z1 (Yc 1 (ic [] (WX os) ?_))
 rintro _ _ ⟨v3,rfl,rfl⟩
 refine Z1 (Y5 (ab 0 (Y3 (fun fz gz m F h=>∃(k:Nat) (vs:LI) (w:Value) (ms:LI) (u:Value) (xs:List Z7) (v:Value),(k<=b.steps.length)/\(vs.length=mm+k)/\(CL n.decls n.routines.length mm xs k (4500*Yy (b.steps.take k)))/\(ms.length<=os.length+k)/\(∀v∈ms,0<=v/\v<((mm+k:Nat):Int))/\F=sF [4,5,7,10] fz [(11,Xl xs v),(12,ZI vs w),(13,ZI ms u),(14,.i k)]/\h=[Zh gz 3,Zh gz 4,Zh gz 5,.tail u 1,.tail v 5,.tail w 1]/\m=b.steps.length-k) _ _ _ ⟨0,us,v2,os,v3,[],v1,ob,ob,CL.nil,ob,hor,rfl,rfl,rfl⟩ (wk [3,3,3,0,1,0] (fw (fr (Yf fl)))) ?_)))
 rintro m F h ⟨k,vs,w,ms,u,xs,v,Yi,Zj,Zw,YO,Wk,rfl,rfl,rfl⟩
 refine Yr 3 [1] (iw (UJ b.steps) (Y2 ((k:Int)<(b.steps.length:Int)) (fun Zc=>?_) (fun Zc=>?_)))
 ·refine ak (aq (ab 1 (Zq 3 [1] ?_)))
  obtain ⟨x1,Z4⟩:=Zt b.steps k om
  have XS:=Dk Z4
  have hfS:=(B5 x1).1 (DO hfs Z4)
  rw [hdn k om] at hfS
  have hoS:=(Fu x1).1 (hos x1 (Y1 Z4))
  have htk:=If Z4
  have hse:=(x1).sz_eq
  have hal4:=hfS.alen
  have hxl:=Zw.len
  have htl:=KX b.steps (k+1)
  have hsd:=Z1w b.steps (k+1)
  have hul2:=Nj (n:=((vs.length+1:Nat):Int)) (b.steps.drop (k+1)) []
  have hul3:=Il (n:=((vs.length+1:Nat):Int)) (Tc ((vs.length+1:Nat):Int) (b.steps.drop (k+1)) []) b.result
  simp only [YY,Wh] at hul2
  refine Zp (Zk none (k:Int) 5 (Va Z4)) (Z0 1 (iA [.i 0,.i 0,.i 0,nl,nl] fun b4=>Zz 0 b4 (Wf x1) (ie (Yc 1 (iw (Yd vs) (Z1 (ar (QS 3 [(41,Z3 vs)] [3,0] (Zu [] (N3 n vs x1 ob ob) (Z1 (Zq 2 [2] (ia (((vs.length+1:Nat):Int)) (((vs.length:Int))+(1)) (Z0 1 (ZD k (iL (Z6 []) 0 1 fun v4=>ZU 0 [(49,Z3 [])] (Zu [] (Z1a b ((vs.length+1:Nat):Int) (k+1) [] (hk:=om) (hz:=(by simp only [YY];omega))) (Z0 1 (ic [] (Za9 (UW ((vs.length+1:Nat):Int) (Tc ((vs.length+1:Nat):Int) (b.steps.drop (k+1)) []) b.result) ls) ?_))))))))))))))))))
  rintro _ _ ⟨zs1,rfl,rfl,Ya⟩
  have hun:=Ya
  refine Z1 (ar (QS 6 [(55,Z3 vs),(57,Z3 ms)] [4,1] (ic [] (Z95 n vs x1 ms zs1 (mm+k) (hf:=hfS)) ?_)))
  rintro _ _ ⟨zs2,rfl,rfl,Ys⟩
  have hdu:=Ys
  have hq1:=Zw.cnts (op:=14) (.inl rfl) (vs:=zs2) (fun v hv=>hfS.args v (hdu.2 v hv))
  have hl1:=hq1.len
  refine ic [] (KV 14 zs2) ?_
  rintro _ _ ⟨v5,rfl,rfl⟩
  refine ZU 0 [(60,Vw (zs2.map (Zx 14)))] (ip 7 (ZT (xs++(zs2.map (Zx 14)))) (ZT xs) (ZT (zs2.map (Zx 14))) v none 5 (XK _) (XK _) (Us _) (by simp<;>omega) (by simp [VC,ZT]) fun v6=>Z1 (ar (QS 6 [(64,Z3 vs),(66,Z3 ms)] [6,3] (ic [] (Z91 n vs x1 ms zs1 (mm+k) b.sz (hf:=hfS) (h11:=hoS.1) (hop:=hoS.2) (hor:=Wk) (ih:=ih)) ?_))))
  rintro _ _ ⟨y1,rfl,rfl,YR⟩
  have hkt:=YR
  have hq2:=hq1.kt hkt
  have hl2:=hq2.len
  refine UP [X5 y1] (ZT [y1]) (Ub [y1]).symm 1 5 fun v7=>ZU 0 [(69,Vw [y1])] (ip 1 (ZT ((xs++(zs2.map (Zx 14)))++[y1])) (ZT (xs++(zs2.map (Zx 14)))) (ZT [y1]) v6 none 5 (XK _) (XK _) (Us _) (by simp<;>omega) (by simp [VC,ZT]) fun v8=>Z1 (ar (QS 5 [(72,Z3 vs),(74,Z3 ms)] [7,4] (ic [] (Z9k n vs x1 ms zs1 (mm+k) (hf:=hfS)) ?_))))
  rintro _ _ ⟨zs3,v9,rfl,rfl,X2⟩
  have hla:=X2
  refine Z1 (ar (QS 4 [(79,Z3 zs3)] [8,5] (ic [] (Z9l n x1 zs3 zs1 (mm+k) (hf:=hfS)) ?_)))
  rintro _ _ ⟨zs4,rfl,rfl,Xk⟩
  have hld:=Xk
  have hq3:=hq2.cnts (op:=15) (.inr rfl) (vs:=zs4) (fun v hv=>by have:=hfS.args v (hld.2 v hv);omega)
  have hl3:=hq3.len
  refine Z1 (Yc 2 (ic [] (KV 15 zs4) ?_))
  rintro _ _ ⟨v10,rfl,rfl⟩
  refine ZU 0 [(84,Vw (zs4.map (Zx 15)))] (ip 2 (ZT (((xs++(zs2.map (Zx 14)))++[y1])++(zs4.map (Zx 15)))) (ZT ((xs++(zs2.map (Zx 14)))++[y1])) (ZT (zs4.map (Zx 15))) v8 none 5 (XK _) (XK _) (Us _) (by simp<;>omega) (by simp [VC,ZT]) fun v11=>?_)
  refine Z1 (Y5 (ab 2 (Y3 (fun fz gz m F h=>∃(j:Nat) (m3:LI) (u3:Value) (v3:Value) (w3:Value),(j<=zs4.length)/\(m3.length<=os.length+k)/\(∀v∈m3,0<=v/\v<((mm+k:Nat):Int))/\F=sF [4,5,7,10,14,16,17,18,19] fz [(11,Xl (((xs++(zs2.map (Zx 14)))++[y1])++(zs4.map (Zx 15))) v3),(12,ZI vs w3),(13,ZI m3 u3),(20,.i j)]/\h=[Zh gz 7,Zh gz 8,Zh gz 9,.tail u3 1,.tail v3 5,.tail w3 1]/\m=zs4.length-j) _ _ _ ⟨0,zs3,v9,v11,w,ob,ob,(fun v hv=>Wk v (hla.2 v hv)),rfl,rfl,rfl⟩ (wk [7,7,7,2,0,6] (fw (fr (Yf fl)))) ?_)))
  rintro m F h ⟨j,m3,u3,v3,w3,VB,XE,XJ,rfl,rfl,rfl⟩
  refine YN 2 (iw (Yd zs4) (Y2 ((j:Int)<(zs4.length:Int)) (fun Zi=>?_) (fun Zi=>?_)))
  ·refine ak (aq (ab 3 (az (Z0 3 ?_))))
   obtain ⟨x2,Zv⟩:=Zt zs4 j om
   refine Zp (Zk none (j:Int) 1 (Y4 Zv)) (ZU 1 [(92,Z3 m3)] (ic [] (Px m3 x2) ?_))
   rintro _ _ ⟨v12,rfl,rfl⟩
   exact Z1 (az (Z0 1 (ZD j (Z1 (ZG ⟨j+1,(Q7 m3 x2),v12,v3,w3,ob,(Vn (Fv _ _) XE),(fun v hv=>XJ v (Ee hv)),rfl,rfl,rfl⟩ (wk [1,1,1,0,1,1] (fw (fr (ZK j fl)))))))))
  refine ax 2 (Yc 2 (iL (Z6 [X1 n vs x1]) 1 1 fun v13=>ZU 0 [(100,Z3 [X1 n vs x1])] (ip 6 (Z6 (vs++[X1 n vs x1])) (Z6 vs) (Z6 [X1 n vs x1]) w3 none 1 (YE _) (YE _) (W6 _) (by simp<;>omega) (by simp [W8,Z6]) fun v14=>Z1 (ar (Xs [4,5,7,10,11,12,13,14,16,17] [(108,.b (((X1 n vs x1) != 0)&&(decide ((vs.length:Int)∈zs1))))] (fun gz=>gz) ?_ ?_)))))
  ·refine Z0 3 (ib (b:=((X1 n vs x1) != 0)) 104 (fun Ze=>?_) (fun Ze=>?_))
   ·exact Z0 2 (Zu [] (UE zs1 (vs.length:Int)) (Z1 (Zy 7 (Zo (decide ((vs.length:Int)∈zs1)) Ze fl))))
   exact Z1 (Zy 7 (Zo false Ze fl))
  refine ac (((X1 n vs x1) != 0)&&(decide ((vs.length:Int)∈zs1))) (p:=((X1 n vs x1)≠0)/\((vs.length:Int)∈zs1)) (Yt Yn dq) (fun ZB=>?_) (fun ZB=>?_)
  ·exact az (Z0 2 (iL (Z6 [(vs.length:Int)]) 1 1 fun v15=>ZU 0 [(111,Z3 [(vs.length:Int)])] (ip 6 (Z6 (m3++[(vs.length:Int)])) (Z6 m3) (Z6 [(vs.length:Int)]) u3 none 1 (YE _) (YE _) (W6 _) (by simp<;>omega) (by simp [W8,Z6]) fun v16=>Z1 (az (Z0 1 (ZD k (Z1 (ZG ⟨k+1,(vs++[X1 n vs x1]),v14,(m3++[(vs.length:Int)]),v16,(((xs++(zs2.map (Zx 14)))++[y1])++(zs4.map (Zx 15))),v3,ob,ob,(by first|exact hq3.le om|exact (hq3.cnt (op:=15) (.inr rfl) om).le om),ob,(by first|exact XI (fun v hv=>by have:=XJ v hv;omega) om|exact (fun v hv=>by have:=XJ v hv;omega)),rfl,rfl,rfl⟩ (wk [4,4,4,0,3,1] (fw (fr (ZK k fl))))))))))))
  refine ar (Yx ((X1 n vs x1) != 0) Yn (fun Y7=>?_) (fun Y7=>?_))
  ·exact az (Z0 2 (Zu [] (Cf 15 (vs.length:Int)) (UP [X5 (Zx 15 (vs.length:Int))] (ZT [(Zx 15 (vs.length:Int))]) (Ub [(Zx 15 (vs.length:Int))]).symm 1 5 fun v17=>ZU 0 [(118,Vw [(Zx 15 (vs.length:Int))])] (ip 7 (ZT ((((xs++(zs2.map (Zx 14)))++[y1])++(zs4.map (Zx 15)))++[(Zx 15 (vs.length:Int))])) (ZT (((xs++(zs2.map (Zx 14)))++[y1])++(zs4.map (Zx 15)))) (ZT [(Zx 15 (vs.length:Int))]) v3 none 5 (XK _) (XK _) (Us _) (by simp<;>omega) (by simp [VC,ZT]) fun v18=>Z1 (az (Z0 1 (ZD k (Z1 (ZG ⟨k+1,(vs++[X1 n vs x1]),v14,m3,u3,((((xs++(zs2.map (Zx 14)))++[y1])++(zs4.map (Zx 15)))++[(Zx 15 (vs.length:Int))]),v18,ob,ob,(by first|exact hq3.le om|exact (hq3.cnt (op:=15) (.inr rfl) om).le om),ob,(by first|exact XI (fun v hv=>by have:=XJ v hv;omega) om|exact (fun v hv=>by have:=XJ v hv;omega)),rfl,rfl,rfl⟩ (wk [4,4,4,4,0,1] (fw (fr (ZK k fl)))))))))))))
  exact ak (az (Z0 1 (ZD k (Z1 (ZG ⟨k+1,(vs++[X1 n vs x1]),v14,m3,u3,(((xs++(zs2.map (Zx 14)))++[y1])++(zs4.map (Zx 15))),v3,ob,ob,(by first|exact hq3.le om|exact (hq3.cnt (op:=15) (.inr rfl) om).le om),ob,(by first|exact XI (fun v hv=>by have:=XJ v hv;omega) om|exact (fun v hv=>by have:=XJ v hv;omega)),rfl,rfl,rfl⟩ (wk [2,2,2,2,2,0] (fw (fr (ZK k fl)))))))))
 have hxl:=Zw.len
 have htl:=KX b.steps k
 refine ax 0 (Yr 3 [1] ?_)
 obtain ⟨x3,YT⟩:=Zt vs b.result.toNat om
 refine Zp (Zk (some w) b.result 1 (Y4 YT)) (Xs [7,10,11] [(138,.b ((x3 != 0)&&((decide (b.result∈ls))||(!(decide (b.result∈ms))))))] (fun gz=>gz) ?_ ?_)
 ·refine Z0 3 (ib (b:=(x3 != 0)) 126 (fun ZE=>?_) (fun ZE=>?_))
  ·refine ZC 3 [1] (Zu [] (UE ls b.result) (Z0 1 (ib (b:=(decide (b.result∈ls))) 131 (fun Ym=>?_) (fun Ym=>?_))))
   ·exact Z1 (Zy 6 (Zo true (And.intro ZE Ym) fl))
   exact QS 3 [(132,Z3 ms)] [1] (Zu [] (UE ms b.result) (Z1 (Zy 6 (Zo (!(decide (b.result∈ms))) (And.intro ZE Ym) fl))))
  exact Z1 (Zy 6 (Zo false ZE fl))
 refine ac ((x3 != 0)&&((decide (b.result∈ls))||(!(decide (b.result∈ms))))) (p:=(x3≠0)/\((b.result∈ls)∨(¬(b.result∈ms)))) (Yt Yn (ZZ dq (Yl dq))) (fun YM=>?_) (fun YM=>?_)
 ·exact az (ZC 3 [1] (Zu [] (Cf 14 b.result) (UP [X5 (Zx 14 b.result)] (ZT [Zx 14 b.result]) (Ub [Zx 14 b.result]).symm 1 5 fun v19=>ZU 0 [(143,Vw [Zx 14 b.result])] (ip 5 (ZT (xs++[Zx 14 b.result])) (ZT xs) (ZT [Zx 14 b.result]) v none 5 (XK _) (XK _) (Us _) (by simp<;>omega) (by simp [VC,ZT]) fun v20=>Z1 (Zq 4 [3] (Zz 2 b3 [Xl (xs++[Zx 14 b.result]) v20,.i b.result] (ie (ZV (r3 [] [.agg [Xl (xs++[Zx 14 b.result]) v20,.i b.result]] [0] [(b3,b3)] ⟨(Za.mk (xs++[Zx 14 b.result]) b.result),rfl,rfl,(((Zw.cnt (op:=14) (.inl rfl) om).block om).le (by have:=KX b.steps k;omega))⟩ (Zd.agg (.cons (Zd.forget _ _) (.cons (lr _) .nil))))))))))))
 exact ak (Zq 4 [1] (Zz 0 b3 [Xl xs v,.i b.result] (ie (ZV (r3 [] [.agg [Xl xs v,.i b.result]] [0] [(b3,b3)] ⟨(Za.mk xs b.result),rfl,rfl,((Zw.block om).le (by have:=KX b.steps k;omega))⟩ (Zd.agg (.cons (Zd.forget _ _) (.cons (lr _) .nil))))))))
theorem Z8x (n:ZH) (us:LI) (b:Za) (os:LI) (ls:LI) (mm:Nat) (hn:Xz n:=by exact ob) (hf:fB n.decls n.routines.length mm b:=by exact ob) (hop:Vx WS b:=by exact ob) (hul:us.length=mm:=by exact ob) (hm:mm+4*b.sz<=100000:=by exact ob) (hor:∀v∈os,0<=v/\v<(mm:Int)) (hol:os.length+4*b.sz<=730:=by exact ob) (hal:ls.length+2000*b.sz<=1000000:=by exact ob) (hbz:b.sz<=500:=by exact ob):Zm 156 [YH n,Z3 us,Yp b,Z3 os,Z3 ls] [] (fun r h=>∃(y:Za),r=Yp y/\h=[]/\KB n.decls n.routines.length mm y (4500*b.sz)):=by
 have key:∀k:Nat,∀(us2:LI) (b2:Za) (os2:LI) (as2:LI) (m2:Nat),(fB n.decls n.routines.length m2 b2)->(Vx WS b2)->(us2.length=m2)->(m2+4*b2.sz<=100000)->(∀v∈os2,0<=v/\v<(m2:Int))->(os2.length+4*b2.sz<=730)->(as2.length+2000*b2.sz<=1000000)->(b2.sz<=500)->(b2.sz<k)->Zm 156 [YH n,Z3 us2,Yp b2,Z3 os2,Z3 as2] [] (fun r h=>∃(y:Za),r=Yp y/\h=[]/\KB n.decls n.routines.length m2 y (4500*b2.sz)):=by
  intro k
  induction k with
  | zero=>intro us2 b2 os2 as2 m2 h1 h2 h3 h4 h5 h6 h7 h8 h9;omega
  | succ k ih=>intro us2 b2 os2 as2 m2 h1 h2 h3 h4 h5 h6 h7 h8 h9;exact Z8y n us2 b2 os2 as2 m2 hn h1 h2 h3 h4 h5 h6 h7 h8 fun us3 b3 os3 as3 m3 q1 q2 q3 q4 q5 q6 q7 q8 q9=>ih us3 b3 os3 as3 m3 q1 q2 q3 q4 q5 q6 q7 q8 om
 exact key (b.sz+1) us b os ls mm hf hop hul hm hor hol hal hbz om
theorem Z8z (n:ZH) (rt:YD) (qz:Nat) (hn:Xz n:=by exact ob) (hr:RF n.decls n.routines.length qz WS rt:=by exact ob) (hqz:qz<=181:=by exact ob):Zm 139 [YH n,A8 rt] [] (fun r h=>∃(y:Za),r=Yp y/\h=[]/\KB n.decls n.routines.length rt.params.length y (4500*qz+10)):=by
 have hrp:rt.params.length<=3:=(Ty.bd (f:=⟨rt.params,rt.result,default⟩) hr.sig).1
 have hrl:=hr.lent.1
 have hrz:=hr.body.2
 refine ZF 65 Tryz.func139 (ar (iA (Xb n) fun b1=>iA (JP rt) fun b2=>iA [nl,.i 0] fun b3=>ie (Zq 4 [1,1] (iw (Yd rt.params) (Zu [] (Z1q rt.body (rt.params.length:Int)) ?_)))))
 have hub:=Ik (n:=(rt.params.length:Int)) rt.body []
 simp only [YY,Wh] at hub
 refine Z1 (ar (iL (Z6 []) 0 1 fun v1=>Z1 (ar (iL (Z6 []) 0 1 fun v2=>?_))))
 refine Z1 (Y5 (ab 0 (Y3 (fun fz gz m F h=>∃(k:Nat) (os:LI) (u:Value) (dr:LI) (w:Value),(k<=rt.params.length)/\(os.length<=k)/\(dr.length<=k)/\(∀v∈os,0<=v/\v<(rt.params.length:Int))/\(∀v∈dr,0<=v/\v<(rt.params.length:Int))/\F=sF [2,3,4,5] fz [(6,ZI os u),(7,ZI dr w),(8,.i k)]/\h=[Zh gz 2,Zh gz 3,Zh gz 4,.tail u 1,.tail w 1]/\m=rt.params.length-k) _ _ _ ⟨0,[],v1,[],v2,ob,ob,ob,(fun v hv=>by cases hv),(fun v hv=>by cases hv),rfl,rfl,rfl⟩ (wk [2,2,2,1,0] (fw (Yf fl))) ?_)))
 rintro m F h ⟨k,os,u,dr,w,Yi,Zj,Zw,YO,Wk,rfl,rfl,rfl⟩
 refine Yr 3 [1] (iw (Yd rt.params) (Y2 ((k:Int)<(rt.params.length:Int)) (fun Zc=>?_) (fun Zc=>?_)))
 ·refine ak (aq (ab 1 (Zq 3 [1] ?_)))
  obtain ⟨x1,Z4⟩:=Zt rt.params k om
  refine Zp (Zk none (k:Int) 1 (Y4 Z4)) (Xs [2,3,4,5,6,7,8] [(37,.b ((x1 != 0)&&(!(decide ((k:Int)∈rt.lent)))))] (fun gz=>gz) ?_ ?_)
  ·refine Z0 3 (ib (b:=(x1 != 0)) 31 (fun Ze=>?_) (fun Ze=>?_))
   ·exact ZC 3 [1] (Zu [] (UE rt.lent (k:Int)) (Z1 (Zy 5 (Zo (!(decide ((k:Int)∈rt.lent))) Ze fl))))
   exact Z1 (Zy 5 (Zo false Ze fl))
  refine ac ((x1 != 0)&&(!(decide ((k:Int)∈rt.lent)))) (p:=(x1≠0)/\(¬((k:Int)∈rt.lent))) (Yt Yn (Yl dq)) (fun Zi=>?_) (fun Zi=>?_)
  ·refine Yc 2 (Zu [] (UE (Tb (rt.params.length:Int) rt.body []) (k:Int)) (ie (WJ ((k:Int)∈(Tb (rt.params.length:Int) rt.body [])) (fun ZB=>?_) (fun ZB=>?_))))
   ·exact az (Z0 2 (iL (Z6 [(k:Int)]) 1 1 fun v3=>ZU 0 [(43,Z3 [(k:Int)])] (ip 4 (Z6 (os++[(k:Int)])) (Z6 os) (Z6 [(k:Int)]) u none 1 (YE _) (YE _) (W6 _) (by simp<;>omega) (by simp [W8,Z6]) fun v4=>Z1 (az (Z0 1 (ZD k (Z1 (ZG ⟨k+1,(os++[(k:Int)]),v4,dr,w,ob,ob,ob,(by first|exact YO|exact XI YO om),(by first|exact Wk|exact XI Wk om),rfl,rfl,rfl⟩ (wk [2,2,2,0,1] (fw (ZK k fl)))))))))))
   exact az (Z0 2 (iL (Z6 [(k:Int)]) 1 1 fun v5=>ZU 0 [(47,Z3 [(k:Int)])] (ip 5 (Z6 (dr++[(k:Int)])) (Z6 dr) (Z6 [(k:Int)]) w none 1 (YE _) (YE _) (W6 _) (by simp<;>omega) (by simp [W8,Z6]) fun v6=>Z1 (az (Z0 1 (ZD k (Z1 (ZG ⟨k+1,os,u,(dr++[(k:Int)]),v6,ob,ob,ob,(by first|exact YO|exact XI YO om),(by first|exact Wk|exact XI Wk om),rfl,rfl,rfl⟩ (wk [2,2,2,2,0] (fw (ZK k fl)))))))))))
  exact ak (az (Z0 1 (ZD k (Z1 (ZG ⟨k+1,os,u,dr,w,ob,ob,ob,(by first|exact YO|exact XI YO om),(by first|exact Wk|exact XI Wk om),rfl,rfl,rfl⟩ (Zy 5 (fw (ZK k fl))))))))
 refine ax 0 (Zq 6 [2,1,1] (iL (Z6 []) 0 1 fun v7=>ZU 0 [(54,Z3 os),(55,Z3 [])] (ic [] (Z8x n rt.params rt.body os [] rt.params.length (hf:=hr.body.1) (hop:=hr.op) (hor:=YO) (hal:=(by simp only [YY];omega))) ?_)))
 rintro _ _ ⟨y1,rfl,rfl,YR⟩
 have hkb:=YR
 have hkl:=hkb.len
 refine iA [nl,.i 0] fun b4=>Zz 0 b4 (W3 y1) (ie (aD 9 (DD 4 9 [0,2,3,5,6] [(57,Z3 dr)] [0,0] (Z9 1 (dc 1 [] [0,0] [b4,b4] (KV 15 dr) ?_)))))
 rintro _ _ ⟨v8,rfl,rfl⟩
 exact Z9 4 (dp 4 0 [0] [b4] (ZT ((dr.map (Zx 15))++y1.steps)) (ZT (dr.map (Zx 15))) (ZT y1.steps) v8 none 5 (XK _) (XK _) (Us _) (by simp<;>omega) (by simp [VC,ZT]) fun v9=>Zs 1 2 [7] (Z9 8 (YX 8 3 [] [] b3 [Xl ((dr.map (Zx 15))++y1.steps) v9,.i y1.result] (de (ZV (r3 [] [.agg [Xl ((dr.map (Zx 15))++y1.steps) v9,.i y1.result]] [0] [(b3,b3)] ⟨(Za.mk ((dr.map (Zx 15))++y1.steps) y1.result),rfl,rfl,((hkb.put1 (op:=15) (.inr rfl) Wk).le om)⟩ (Zd.agg (.cons (Zd.forget _ _) (.cons (lr _) .nil)))))))))
theorem Z92 (n:ZH) (qz:Nat) (hn:FO n qz WS:=by exact ob) (hqz:qz<=181:=by exact ob):Zm 112 [YH n] [] (fun r h=>∃(n2:ZH),r=YH n2/\h=[]/\FO n2 (4500*qz+10) VI):=by
 have hnl:=hn.fn.len
 have Xr:=hn.fn.decls.ok
 have hok:=hn.fn.ok
 refine ZF 36 Tryz.func112 (ar (iA (Xb n) fun b1=>iA [nl,nl] fun b2=>ie (Zq 2 [1] (Zu [] (Bn n.decls) (iL (Xd []) 0 5 fun v1=>Z0 1 (iA [nl,nl] fun b3=>?_))))))
 refine Zz 0 b3 [Y6 n.decls,WV [] v1] (ie (Y5 (ab 0 (Y3 (fun fz gz m F h=>∃(k:Nat) (rs:List YD) (u:Value),(k<=n.routines.length)/\(rs.length=k)/\(∀r∈rs,RF n.decls n.routines.length (4500*qz+10) VI r)/\F=sF [1,2,3] fz [(4,.i k)]/\h=[.obj b3 [Y6 n.decls,WV rs u],Zh gz 2,Zh gz 3,.tail u 5]/\m=n.routines.length-k) _ _ _ ⟨0,[],v1,ob,ob,(fun r hr=>by cases hr),rfl,rfl,rfl⟩ (wk [0,1,1,0] (Yf fl)) ?_))))
 rintro m F h ⟨k,rs,u,Yi,Zj,Zw,rfl,rfl,rfl⟩
 refine Yr 3 [2] (iw (Q2 n.routines) (Y2 ((k:Int)<(n.routines.length:Int)) (fun Zc=>?_) (fun Zc=>?_)))
 ·refine ak (aq (ab 1 (aE 19 (ZY 14 19 [0,1,2,3,4] [0,2] ?_))))
  obtain ⟨x1,Z4⟩:=Zt n.routines k om
  have hrf:=hn.rf (Y1 Z4)
  have hrp:(x1).params.length<=3:=(Ty.bd (f:=⟨(x1).params,(x1).result,default⟩) hrf.sig).1
  have hrl:=hrf.lent.1
  have hrz:=hrf.body.2
  refine dx 5 (Zk none (k:Int) 5 (VT Z4)) (ZY 8 13 [6,7,8,9,10] [2,2] (dx 11 (Zk none (k:Int) 5 (VT Z4)) (Zs 6 7 [12] (Z9 13 (dc 13 [] [2,0] [b1,b3] (Z8z n x1 qz (hr:=hrf)) ?_)))))
  rintro _ _ ⟨y1,rfl,rfl,Ya⟩
  have hkb:=Ya
  exact Z9 14 (YL 14 [] [0] [b3] (Eo x1 y1 (hp:=om) (hl:=om)) (Z9 15 (dL 15 [0] [b3] (Xd [YD.mk x1.params x1.lent x1.result y1]) 1 5 fun v2=>Yv 3 3 [] [(32,JU [YD.mk x1.params x1.lent x1.result y1])] (Z9 16 (dp 16 4 [] [] (Xd (rs++[YD.mk x1.params x1.lent x1.result y1])) (Xd rs) (Xd [YD.mk x1.params x1.lent x1.result y1]) u none 5 (Tj _) (Tj _) (BM _) (by simp<;>omega) (by simp [DK,Xd]) fun v3=>Zs 1 2 [17] (Z9 18 (YX 18 2 [] [] b3 [Y6 n.decls,WV (rs++[YD.mk x1.params x1.lent x1.result y1]) v3] (de (az (Z0 1 (ZD k (Z1 (ZG ⟨k+1,(rs++[YD.mk x1.params x1.lent x1.result y1]),v3,ob,ob,(XI Zw (by first|exact hrf.with hkb.fb hkb.sz hkb.op|(rw [Za.eta];exact hrf.with hkb.fb hkb.sz hkb.op))),rfl,rfl,rfl⟩ (wk [0,2,2,0] (ZK k fl)))))))))))))))
 exact ax 0 (Zq 1 [0] (Zz 1 b2 [Y6 n.decls,WV rs u] (ie (ZV (r3 [] [.agg [Y6 n.decls,WV rs u]] [0] [(b2,b2)] ⟨(ZH.mk n.decls rs),rfl,rfl,(FO.fin hn.fn om Zw).1⟩ (Zd.agg (.cons (lr _) (.cons (Zd.forget _ _) .nil))))))))
theorem Z8u (n:ZH) (us:LI) (s:Z7) (mm:Nat) (hn:Xz n:=by exact ob) (hf:FS n.decls n.routines.length mm s:=by exact ob) (hvl:us.length=mm:=by exact ob) (hm:mm<=100000000:=by exact ob):Zm 159 [YH n,Z3 us,X5 s] [] (fun r h=>∃(zs:LI),r=Z3 zs/\h=[]/\zs.length<=s.args.length/\∀z∈zs,z∈s.args):=by
 have hal:=hf.alen
 refine ZF 31 Tryz.func159 (ar (iA (Xb n) fun b1=>iA (Wf s) fun b2=>Z1 (ar (iL (Z6 []) 0 1 fun v1=>?_))))
 refine Z1 (Y5 (ab 0 (Y3 (fun fz gz m F h=>∃(k:Nat) (zs:LI) (u:Value),(k<=s.args.length)/\(zs.length<=k)/\(∀z∈zs,z∈s.args)/\F=sF [1,3,5] fz [(7,ZI zs u),(8,.i k)]/\h=[Zh gz 1,Zh gz 2,.tail u 1]/\m=s.args.length-k) _ _ _ ⟨0,[],v1,ob,ob,(fun z hz=>by cases hz),rfl,rfl,rfl⟩ (wk [1,1,0] (fr (Yf fl))) ?_)))
 rintro m F h ⟨k,zs,u,Yi,Zj,Zw,rfl,rfl,rfl⟩
 refine Yr 3 [0] (iw (Yd s.args) (Y2 ((k:Int)<(s.args.length:Int)) (fun Zc=>?_) (fun Zc=>?_)))
 ·obtain ⟨a1,ha1⟩:=Zt s.args k om
  have har:=hf.args a1 (Y1 ha1)
  refine ak (aq (ab 1 (Zq 4 [1,0] (Zu [] (Ie n us s k a1 (hnum:=hf.call) (ha:=ha1)) (ie (ac (JC n us s.op s.num a1 k) Iff.rfl (fun Zi=>?_) (fun Zi=>?_)))))))
  ·exact az (ZC 4 [0] (Zp (Zk none (k:Int) 1 (Y4 ha1)) (Z0 1 (iL (Z6 [a1]) 1 1 fun v2=>ZU 0 [(28,Z3 [a1])] (ip 3 (Z6 (zs++[a1])) (Z6 zs) (Z6 [a1]) u none 1 (YE _) (YE _) (W6 _) (by simp<;>omega) (by simp [W8,Z6]) fun v3=>Z1 (az (Z0 1 (ZD k (Z1 (ZG ⟨k+1,(zs++[a1]),v3,ob,ob,(by first|exact Zw|exact XI Zw (Y1 ha1)),rfl,rfl,rfl⟩ (wk [2,2,0] (fr (ZK k fl)))))))))))))
  exact ak (az (Z0 1 (ZD k (Z1 (ZG ⟨k+1,zs,u,ob,ob,(by first|exact Zw|exact XI Zw (Y1 ha1)),rfl,rfl,rfl⟩ (Zy 3 (fr (ZK k fl))))))))
 exact ax 0 (ar (Zl (r2 [] [ZI zs u] ⟨zs,rfl,rfl,⟨by omega,Zw⟩⟩ (Zd.forget _ _))))
theorem Z9i (n:ZH) (us:LI) (s:Z7) (mm:Nat) (bb:Nat) (hn:Xz n:=by exact ob) (hf:FS n.decls n.routines.length mm s:=by exact ob) (h11:s.op<=11:=by exact ob) (hop:Kl WS s.kids:=by exact ob) (hul:us.length=mm:=by exact ob) (hm:mm+4*s.sz<=100000:=by exact ob) (hbz:s.sz<=500:=by exact ob) (hb:s.sz<=bb:=by exact ob) (ih:∀(us2:LI) (b2:Za) (mi2:LI) (m2:Nat),(fB n.decls n.routines.length m2 b2)->(Vx WS b2)->(us2.length=m2)->(m2+4*b2.sz<=100000)->(∀v∈mi2,0<=v/\v<(m2:Int))->(mi2.length<=3)->(b2.sz<=500)->(b2.sz<bb)->Zm 140 [YH n,Z3 us2,Yp b2,Z3 mi2] [] (fun r h=>∃(y:Za),r=Yp y/\h=[]/\KB n.decls n.routines.length m2 y (60*b2.sz))):Zm 160 [YH n,Z3 us,X5 s] [] (fun r h=>∃(y:Z7),r=X5 y/\h=[]/\KT n.decls n.routines.length mm y (60*YU s.kids+23)):=by
 have Xr:=hn.decls
 have hkf:=hf.few Xr
 have hsa:=hf.alen
 refine ZF 72 Tryz.func160 (ar (iA (Xb n) fun b1=>iA (Wf s) fun b2=>iA [.i 0,.i 0,.i 0,nl,nl] fun b3=>ie (ar (iL (XT []) 0 2 fun v1=>Z1 (Zq 4 [3,2] (ic [] (Jp n.decls s.num) ?_))))))
 rintro _ _ ⟨v2,rfl,rfl⟩
 refine Z1 (Y5 (ab 0 (Y3 (fun fz gz m F h=>∃(k:Nat) (ks:List Za) (u:Value),(k<=s.kids.length)/\(ks.length=k)/\(KK n.decls n.routines.length (V0 n.decls s.op s.num mm) ks (60*YU (s.kids.take k)+6*k))/\F=sF [1,3,5,6] fz [(7,Qv ks u),(8,Z3 (ZX n.decls s.num)),(9,.i k)]/\h=[Zh gz 2,Zh gz 3,Zh gz 4,.tail u 2]/\m=s.kids.length-k) _ _ _ ⟨0,[],v1,ob,ob,(KK.nil.le (QB _)),rfl,rfl,rfl⟩ (wk [2,2,2,1] (fr (fc (x:=ZI (ZX n.decls s.num) v2) (Zd.forget _ _) (Yf fl)))) ?_)))
 rintro m F h ⟨k,ks,u,Yi,Zj,Zw,rfl,rfl,rfl⟩
 refine Yr 3 [1] (iw (KF s.kids) (Y2 ((k:Int)<(s.kids.length:Int)) (fun Zc=>?_) (fun Zc=>?_)))
 ·refine ak (aq (ab 1 (ar (iL (Z6 []) 0 1 fun v3=>?_))))
  refine Z1 (Xh (WQ [2] (Xy (fun fz gz F h=>∃(fds:LI),(V0 n.decls s.op s.num mm k=mm+fds.length)/\(fds.length<=3)/\F=sF [1,3,5,6,7,8,9] fz [(10,Z3 fds)]/\h=[Zh gz 1,Zh gz 2,Zh gz 3,Zh gz 4]) ?_ ?_)))
  ·refine ac (s.op==8) Zg (fun Zi=>?_) (fun Zi=>?_)
   ·refine aE 8 (ZY 4 8 [0,1,2,3] [3] ?_)
    obtain ⟨x1,Z4⟩:=Zt (ZX n.decls s.num) k (by have:=hf.k8 (by assumption);omega)
    have hcf:=Vr Xr x1
    exact dx 4 (Zk none (k:Int) 1 (Y4 Z4)) (Zs 2 3 [5] (Z9 6 (YL 6 [] [] [] (Qx n.decls x1) (Zs 0 1 [7] (de (ZJ ⟨ZP n.decls x1,(MT (by assumption) Z4),ob,rfl,rfl⟩ (wk [1,1,1,1] fl)))))))
   exact ak (ZJ ⟨[],(by rw [MU (by assumption)];rfl),ob,rfl,rfl⟩ (wk [1,1,1,1] fl))
  rintro F h ⟨fds,VN,Bf,rfl,rfl⟩
  refine Yc 2 (iw (Yd us) (ic [] (Po fds us.length) ?_))
  rintro _ _ ⟨xs1,rfl,rfl,Ya⟩
  have hhf:=Ya
  refine Z1 (aD 13 (ZY 7 13 [0,1,2,4,5,6] [2,1] ?_))
  obtain ⟨x2,Zv⟩:=Zt s.kids k om
  have hkz:=Qs Zv
  have hfk:=BO hf.kids Zv
  rw [Wh,VN] at hfk
  have hok:=Ec.1 hop x2 (Y1 Zv)
  have hbt:=Gr Zv
  have hba:=Gs Zv
  refine dx 7 (Zk none (k:Int) 2 (T3 Zv)) (Zs 4 6 [8,9] (BJ (fun fz gz F h=>∃(y1:Za) (b4:Nat),(KB n.decls n.routines.length (mm+fds.length) y1 (60*x2.sz))/\F=sF [1,3,5,6,7,8,9,11] fz [(12,.p b4 0)]/\h=[.obj b4 (W3 y1),Zh gz 0,Zh gz 1,Zh gz 2,Zh gz 3]) ?_ ?_))
  ·refine Ur 3 11 ?_ ?_
   ·refine dc 3 [] [1,2] [b2,b1] (TK us fds) ?_
    rintro _ _ ⟨v4,rfl,rfl⟩
    refine Yv 3 3 [] [(44,Z3 (us++fds))] (Ur 10 11 ?_ ?_)
    ·refine dc 10 [] [] [] (ih (us++fds) x2 xs1 (mm+fds.length) hfk hok (by rw [Yo,hul]) ob (fun v hv=>by have:=hhf.2 v hv;omega) ob ob ob) ?_
     rintro _ _ ⟨y1,rfl,rfl,Ys⟩
     have hkb:=Ys
     have hkl:=hkb.len
     exact Z9 11 (dA 11 [] [] [nl,.i 0] fun b4=>Z9 12 (YX 12 0 [] [] b4 (W3 y1) (de (ZJ ⟨_,b4,(by assumption),rfl,rfl⟩ (wk [0,1,1,1,1] fl)))))
    refine dA 11 [1,2] [b2,b1] [nl,.i 0] fun b5=>Z9 10 (dc 10 [] [] [] (ih (us++fds) x2 xs1 (mm+fds.length) hfk hok (by rw [Yo,hul]) ob (fun v hv=>by have:=hhf.2 v hv;omega) ob ob ob) ?_)
    rintro _ _ ⟨y2,rfl,rfl,YR⟩
    have hkb:=YR
    have hkl:=hkb.len
    exact Z9 12 (YX 12 0 [] [] b5 (W3 y2) (de (ZJ ⟨_,b5,(by assumption),rfl,rfl⟩ (wk [0,1,1,1,1] fl))))
   refine dA 11 [1,2] [b2,b1] [nl,.i 0] fun b6=>Z9 3 (dc 3 [] [2,3] [b2,b1] (TK us fds) ?_)
   rintro _ _ ⟨v5,rfl,rfl⟩
   refine Yv 2 2 [] [(44,Z3 (us++fds))] (Z9 10 (dc 10 [] [] [] (ih (us++fds) x2 xs1 (mm+fds.length) hfk hok (by rw [Yo,hul]) ob (fun v hv=>by have:=hhf.2 v hv;omega) ob ob ob) ?_))
   rintro _ _ ⟨y3,rfl,rfl,X2⟩
   have hkb:=X2
   have hkl:=hkb.len
   exact Z9 12 (YX 12 1 [] [] b6 (W3 y3) (de (ZJ ⟨_,b6,(by assumption),rfl,rfl⟩ (wk [0,1,1,1,1] fl))))
  rintro F h ⟨y1,b4,Ys,rfl,rfl⟩
  have hkb:=Ys
  have hkl:=hkb.len
  refine aE 12 (ZY 6 12 [0,1,3,4,6,7] [0,0] (Z9 2 (dc 2 [] [0,0] [b4,b4] (KV 14 xs1) ?_)))
  rintro _ _ ⟨v6,rfl,rfl⟩
  exact Z9 5 (dp 5 0 [0] [b4] (ZT ((xs1.map (Zx 14))++y1.steps)) (ZT (xs1.map (Zx 14))) (ZT y1.steps) v6 none 5 (XK _) (XK _) (Us _) (by simp<;>omega) (by simp [VC,ZT]) fun v7=>Yv 3 4 [8] [(60,.agg [Vw ((xs1.map (Zx 14))++y1.steps),.i y1.result])] (Z9 9 (WE 9 [] [] [Yp (Za.mk ((xs1.map (Zx 14))++y1.steps) y1.result)] (XT [Za.mk ((xs1.map (Zx 14))++y1.steps) y1.result]) (K8 [Za.mk ((xs1.map (Zx 14))++y1.steps) y1.result]).symm 1 2 fun v8=>Yv 2 2 [] [(61,JT [Za.mk ((xs1.map (Zx 14))++y1.steps) y1.result])] (Z9 10 (dp 10 6 [] [] (XT (ks++[Za.mk ((xs1.map (Zx 14))++y1.steps) y1.result])) (XT ks) (XT [Za.mk ((xs1.map (Zx 14))++y1.steps) y1.result]) u none 2 (J8 _) (J8 _) (GC _) (by simp<;>omega) (by simp [CK,XT]) fun v9=>Zs 0 1 [11] (de (az (Z0 1 (ZD k (Z1 (ZG ⟨k+1,(ks++[Za.mk ((xs1.map (Zx 14))++y1.steps) y1.result]),v9,ob,ob,((Zw.snoc Zj (by rw [VN];exact hkb.put1 (op:=14) (.inl rfl) (fun v hv=>by have:=hhf.2 v hv;omega))).le om),rfl,rfl,rfl⟩ (wk [4,4,4,0] (fw (ZK k fl))))))))))))))
 refine ax 0 (aD 10 (ZY 3 10 [0,1,2,3,4,5,7] [1,1,1] (Z9 6 (dc 6 [] [1,1] [b2,b2] (WX s.args) ?_))))
 rintro _ _ ⟨v10,rfl,rfl⟩
 exact Zs 1 2 [8] (Z9 9 (YX 9 1 [] [] b3 [.i s.op,.i s.num,.i 0,ZI s.args v10,Qv ks u] (de (ZV (r3 [] [.agg [.i s.op,.i s.num,.i 0,ZI s.args v10,Qv ks u]] [0] [(b3,b3)] ⟨(Z7.mk s.op s.num 0 s.args ks),rfl,rfl,((KT.of (into:=0) hf h11 om om Zw).le (by have:=IP (xs:=s.kids) (k:=k) om;omega))⟩ (Zd.agg (.cons (lr _) (.cons (lr _) (.cons (lr _) (.cons (Zd.forget _ _) (.cons (Zd.forget _ _) .nil)))))))))))
theorem Z9h (n:ZH) (us:LI) (b:Za) (mi:LI) (mm:Nat) (hn:Xz n) (hf:fB n.decls n.routines.length mm b) (hop:Vx WS b) (hul:us.length=mm) (hm:mm+4*b.sz<=100000) (hmr:∀v∈mi,0<=v/\v<(mm:Int)) (hml:mi.length<=3) (hbz:b.sz<=500) (ih:∀(us2:LI) (b2:Za) (mi2:LI) (m2:Nat),(fB n.decls n.routines.length m2 b2)->(Vx WS b2)->(us2.length=m2)->(m2+4*b2.sz<=100000)->(∀v∈mi2,0<=v/\v<(m2:Int))->(mi2.length<=3)->(b2.sz<=500)->(b2.sz<b.sz)->Zm 140 [YH n,Z3 us2,Yp b2,Z3 mi2] [] (fun r h=>∃(y:Za),r=Yp y/\h=[]/\KB n.decls n.routines.length m2 y (60*b2.sz))):Zm 140 [YH n,Z3 us,Yp b,Z3 mi] [] (fun r h=>∃(y:Za),r=Yp y/\h=[]/\KB n.decls n.routines.length mm y (60*b.sz)):=by
 have Xr:=hn.decls
 have hbe:=b.sz_eq
 have ZL:=UG b
 obtain ⟨hfs,hr1,hr2⟩:=(Ja b).1 hf
 have hos:=De.1 ((HF b).1 hop)
 have hdn:=L8 hos
 have hdl:=hdn b.steps.length (Xa _)
 rw [Ux] at hdl
 refine ZF 80 Tryz.func140 (ar (iA (Xb n) fun b1=>iA (W3 b) fun b2=>iA [nl,.i 0] fun b3=>ie (ar (iL (ZT []) 0 5 fun v1=>Z1 (Yc 1 (ic [] (WX us) ?_))))))
 rintro _ _ ⟨v2,rfl,rfl⟩
 refine Z1 (Yc 1 (ic [] (WX mi) ?_))
 rintro _ _ ⟨v3,rfl,rfl⟩
 refine Z1 (Y5 (ab 0 (Y3 (fun fz gz m F h=>∃(k:Nat) (vs:LI) (w:Value) (ow:LI) (u:Value) (xs:List Z7) (v:Value) (z0:Nat),(k<=b.steps.length)/\(vs.length=mm+k)/\(CL n.decls n.routines.length mm xs k z0)/\(z0+2*ow.length<=60*Yy (b.steps.take k)+2*mi.length)/\(∀v∈ow,0<=v/\v<((mm+k:Nat):Int))/\F=sF [4,6,8] fz [(9,Xl xs v),(10,ZI vs w),(11,ZI ow u),(12,.i k)]/\h=[Zh gz 3,Zh gz 4,Zh gz 5,.tail u 1,.tail v 5,.tail w 1]/\m=b.steps.length-k) _ _ _ ⟨0,us,v2,mi,v3,[],v1,0,ob,ob,CL.nil,(by simp),hmr,rfl,rfl,rfl⟩ (wk [3,3,3,0,1,0] (fw (fr (Yf fl)))) ?_)))
 rintro m F h ⟨k,vs,w,ow,u,xs,v,z0,Yi,Zj,Zw,YO,Wk,rfl,rfl,rfl⟩
 refine Yr 3 [1] (iw (UJ b.steps) (Y2 ((k:Int)<(b.steps.length:Int)) (fun Zc=>?_) (fun Zc=>?_)))
 ·refine ak (aq (ab 1 (Zq 3 [1] ?_)))
  obtain ⟨x1,Z4⟩:=Zt b.steps k om
  have XS:=Dk Z4
  have hfS:=(B5 x1).1 (DO hfs Z4)
  rw [hdn k om] at hfS
  have hoS:=(Fu x1).1 (hos x1 (Y1 Z4))
  have htk:=If Z4
  have hse:=(x1).sz_eq
  have hal4:=hfS.alen
  have hxl:=Zw.len
  have htl:=KX b.steps (k+1)
  refine Zp (Zk none (k:Int) 5 (Va Z4)) (Z0 1 (iA [.i 0,.i 0,.i 0,nl,nl] fun b4=>Zz 0 b4 (Wf x1) (ie (ar (QS 3 [(33,Z3 vs)] [3,0] (Zu [] (N3 n vs x1 ob ob) (Z1 (ar (QS 4 [(38,Z3 vs)] [3,0] (ic [] (Z8u n vs x1 (mm+k) (hf:=hfS)) ?_))))))))))
  rintro _ _ ⟨zs1,rfl,rfl,Ya⟩
  have hdu:=Ya
  have hq1:=Zw.cnts (op:=14) (.inl rfl) (vs:=zs1) (fun v hv=>hfS.args v (hdu.2 v hv))
  have hl1:=hq1.len
  refine ic [] (KV 14 zs1) ?_
  rintro _ _ ⟨v4,rfl,rfl⟩
  refine ZU 0 [(41,Vw (zs1.map (Zx 14)))] (ip 6 (ZT (xs++(zs1.map (Zx 14)))) (ZT xs) (ZT (zs1.map (Zx 14))) v none 5 (XK _) (XK _) (Us _) (by simp<;>omega) (by simp [VC,ZT]) fun v5=>Z1 (ar (QS 4 [(45,Z3 vs)] [5,2] (ic [] (Z9i n vs x1 (mm+k) b.sz (hf:=hfS) (h11:=hoS.1) (hop:=hoS.2) (ih:=ih)) ?_))))
  rintro _ _ ⟨y1,rfl,rfl,Ys⟩
  have hkt:=Ys
  have hq2:=hq1.kt hkt
  have hl2:=hq2.len
  refine UP [X5 y1] (ZT [y1]) (Ub [y1]).symm 1 5 fun v6=>ZU 0 [(48,Vw [y1])] (ip 1 (ZT ((xs++(zs1.map (Zx 14)))++[y1])) (ZT (xs++(zs1.map (Zx 14)))) (ZT [y1]) v5 none 5 (XK _) (XK _) (Us _) (by simp<;>omega) (by simp [VC,ZT]) fun v7=>Z1 (Xh (Yx ((X1 n vs x1) != 0) Yn (fun Zi=>?_) (fun Zi=>?_))))
  ·exact az (Z0 2 (iw (Yd vs) (iL (Z6 [(vs.length:Int)]) 1 1 fun v8=>ZU 0 [(55,Z3 [(vs.length:Int)])] (ip 8 (Z6 (ow++[(vs.length:Int)])) (Z6 ow) (Z6 [(vs.length:Int)]) u none 1 (YE _) (YE _) (W6 _) (by simp<;>omega) (by simp [W8,Z6]) fun v9=>Z1 (az (Z0 2 (iL (Z6 [X1 n vs x1]) 1 1 fun v10=>ZU 0 [(59,Z3 [X1 n vs x1])] (ip 10 (Z6 (vs++[X1 n vs x1])) (Z6 vs) (Z6 [X1 n vs x1]) w none 1 (YE _) (YE _) (W6 _) (by simp<;>omega) (by simp [W8,Z6]) fun v11=>Z1 (az (Z0 1 (ZD k (Z1 (ZG ⟨k+1,(vs++[X1 n vs x1]),v11,(ow++[(vs.length:Int)]),v9,((xs++(zs1.map (Zx 14)))++[y1]),v7,_,ob,ob,hq2,(by (try simp only [Yo,Yq,YY]);omega),(by first|exact XI (fun v hv=>by have:=Wk v hv;omega) om|exact (fun v hv=>by have:=Wk v hv;omega)),rfl,rfl,rfl⟩ (wk [8,8,8,2,3,0] (fw (fr (ZK k fl)))))))))))))))))
  exact ak (az (Z0 2 (iL (Z6 [X1 n vs x1]) 1 1 fun v12=>ZU 0 [(59,Z3 [X1 n vs x1])] (ip 9 (Z6 (vs++[X1 n vs x1])) (Z6 vs) (Z6 [X1 n vs x1]) w none 1 (YE _) (YE _) (W6 _) (by simp<;>omega) (by simp [W8,Z6]) fun v13=>Z1 (az (Z0 1 (ZD k (Z1 (ZG ⟨k+1,(vs++[X1 n vs x1]),v13,ow,u,((xs++(zs1.map (Zx 14)))++[y1]),v7,_,ob,ob,hq2,(by (try simp only [Yo,Yq,YY]);omega),(by first|exact XI (fun v hv=>by have:=Wk v hv;omega) om|exact (fun v hv=>by have:=Wk v hv;omega)),rfl,rfl,rfl⟩ (wk [6,6,6,6,2,0] (fw (fr (ZK k fl)))))))))))))
 have hxl:=Zw.len
 have htl:=KX b.steps k
 refine ax 0 (Yr 3 [1] ?_)
 obtain ⟨x2,Zv⟩:=Zt vs b.result.toNat om
 refine Zp (Zk (some w) b.result 1 (Y4 Zv)) (Yx (x2 != 0) Yn (fun ZB=>?_) (fun ZB=>?_))
 ·refine az (ZC 3 [1] (Zu [] (Cf 14 b.result) (UP [X5 (Zx 14 b.result)] (ZT [Zx 14 b.result]) (Ub [Zx 14 b.result]).symm 1 5 fun v14=>ZU 0 [(71,Vw [Zx 14 b.result])] (ip 5 (ZT (xs++[Zx 14 b.result])) (ZT xs) (ZT [Zx 14 b.result]) v none 5 (XK _) (XK _) (Us _) (by simp<;>omega) (by simp [VC,ZT]) fun v15=>Z1 (aD 8 (DD 4 8 [0,1,4,5] [(74,Z3 ow)] [3] (Z9 2 (dc 2 [] [1] [b2] (KV 15 ow) ?_))))))))
  rintro _ _ ⟨v16,rfl,rfl⟩
  exact Yv 3 3 [] [(75,Vw (ow.map (Zx 15)))] (Z9 3 (dp 3 1 [1] [b2] (ZT ((xs++[Zx 14 b.result])++(ow.map (Zx 15)))) (ZT (xs++[Zx 14 b.result])) (ZT (ow.map (Zx 15))) v15 none 5 (XK _) (XK _) (Us _) (by simp<;>omega) (by simp [VC,ZT]) fun v17=>Zs 1 2 [6] (Z9 7 (YX 7 3 [] [] b3 [Xl ((xs++[Zx 14 b.result])++(ow.map (Zx 15))) v17,.i b.result] (de (ZV (r3 [] [.agg [Xl ((xs++[Zx 14 b.result])++(ow.map (Zx 15))) v17,.i b.result]] [0] [(b3,b3)] ⟨(Za.mk ((xs++[Zx 14 b.result])++(ow.map (Zx 15))) b.result),rfl,rfl,((((Zw.cnt (op:=14) (.inl rfl) om).cnts (op:=15) (.inr rfl) (fun v hv=>by have:=Wk v hv;omega)).block om).le (by have:=KX b.steps k;omega))⟩ (Zd.agg (.cons (Zd.forget _ _) (.cons (lr _) .nil))))))))))
 refine ak (aD 8 (DD 4 8 [0,1,4,5] [(74,Z3 ow)] [1] (Z9 2 (dc 2 [] [1] [b2] (KV 15 ow) ?_))))
 rintro _ _ ⟨v18,rfl,rfl⟩
 exact Yv 3 3 [] [(75,Vw (ow.map (Zx 15)))] (Z9 3 (dp 3 5 [1] [b2] (ZT (xs++(ow.map (Zx 15)))) (ZT xs) (ZT (ow.map (Zx 15))) v none 5 (XK _) (XK _) (Us _) (by simp<;>omega) (by simp [VC,ZT]) fun v19=>Zs 1 2 [6] (Z9 7 (YX 7 2 [] [] b3 [Xl (xs++(ow.map (Zx 15))) v19,.i b.result] (de (ZV (r3 [] [.agg [Xl (xs++(ow.map (Zx 15))) v19,.i b.result]] [0] [(b3,b3)] ⟨(Za.mk (xs++(ow.map (Zx 15))) b.result),rfl,rfl,(((Zw.cnts (op:=15) (.inr rfl) (fun v hv=>by have:=Wk v hv;omega)).block om).le (by have:=KX b.steps k;omega))⟩ (Zd.agg (.cons (Zd.forget _ _) (.cons (lr _) .nil))))))))))
theorem Z9g (n:ZH) (us:LI) (b:Za) (mi:LI) (mm:Nat) (hn:Xz n:=by exact ob) (hf:fB n.decls n.routines.length mm b:=by exact ob) (hop:Vx WS b:=by exact ob) (hul:us.length=mm:=by exact ob) (hm:mm+4*b.sz<=100000:=by exact ob) (hmr:∀v∈mi,0<=v/\v<(mm:Int)) (hml:mi.length<=3:=by exact ob) (hbz:b.sz<=500:=by exact ob):Zm 140 [YH n,Z3 us,Yp b,Z3 mi] [] (fun r h=>∃(y:Za),r=Yp y/\h=[]/\KB n.decls n.routines.length mm y (60*b.sz)):=by
 have key:∀k:Nat,∀(us2:LI) (b2:Za) (mi2:LI) (m2:Nat),(fB n.decls n.routines.length m2 b2)->(Vx WS b2)->(us2.length=m2)->(m2+4*b2.sz<=100000)->(∀v∈mi2,0<=v/\v<(m2:Int))->(mi2.length<=3)->(b2.sz<=500)->(b2.sz<k)->Zm 140 [YH n,Z3 us2,Yp b2,Z3 mi2] [] (fun r h=>∃(y:Za),r=Yp y/\h=[]/\KB n.decls n.routines.length m2 y (60*b2.sz)):=by
  intro k
  induction k with
  | zero=>intro us2 b2 mi2 m2 h1 h2 h3 h4 h5 h6 h7 h9;omega
  | succ k ih=>intro us2 b2 mi2 m2 h1 h2 h3 h4 h5 h6 h7 h9;exact Z9h n us2 b2 mi2 m2 hn h1 h2 h3 h4 h5 h6 h7 fun us3 b3 mi3 m3 q1 q2 q3 q4 q5 q6 q7 q9=>ih us3 b3 mi3 m3 q1 q2 q3 q4 q5 q6 q7 om
 exact key (b.sz+1) us b mi mm hf hop hul hm hmr hml hbz om
theorem Za0 (rt:YD) (hp:rt.params.length<=1000000:=by exact ob) (hl:rt.lent.length<=1000000:=by exact ob):Zm 141 [A8 rt] [] (fun r h=>∃(os:LI),r=Z3 os/\h=[]/\os.length<=rt.params.length/\∀v∈os,0<=v/\v<(rt.params.length:Int)):=by
 refine ZF 31 Tryz.func141 (ar (iA (JP rt) fun b1=>Z1 (ar (iL (Z6 []) 0 1 fun v1=>?_))))
 refine Z1 (Y5 (ab 0 (Y3 (fun fz gz m F h=>∃(k:Nat) (os:LI) (u:Value),(k<=rt.params.length)/\(os.length<=k)/\(∀v∈os,0<=v/\v<(rt.params.length:Int))/\F=sF [1] fz [(3,ZI os u),(4,.i k)]/\h=[Zh gz 1,.tail u 1]/\m=rt.params.length-k) _ _ _ ⟨0,[],v1,ob,ob,(fun v hv=>by cases hv),rfl,rfl,rfl⟩ (wk [1,0] (fr (Yf fl))) ?_)))
 rintro m F h ⟨k,os,u,Yi,Zj,Zw,rfl,rfl,rfl⟩
 refine Yr 3 [0] (iw (Yd rt.params) (Y2 ((k:Int)<(rt.params.length:Int)) (fun Zc=>?_) (fun Zc=>?_)))
 ·refine ak (aq (ab 1 (Zq 3 [0] ?_)))
  obtain ⟨x1,Z4⟩:=Zt rt.params k om
  refine Zp (Zk none (k:Int) 1 (Y4 Z4)) (Xs [1,3,4] [(25,.b ((x1 != 0)&&(!(decide ((k:Int)∈rt.lent)))))] (fun gz=>gz) ?_ ?_)
  ·refine Z0 3 (ib (b:=(x1 != 0)) 19 (fun Ze=>?_) (fun Ze=>?_))
   ·exact ZC 3 [0] (Zu [] (UE rt.lent (k:Int)) (Z1 (wk [0,0] (Zo (!(decide ((k:Int)∈rt.lent))) Ze fl))))
   exact Z1 (wk [0,0] (Zo false Ze fl))
  refine ac ((x1 != 0)&&(!(decide ((k:Int)∈rt.lent)))) (p:=(x1≠0)/\(¬((k:Int)∈rt.lent))) (Yt Yn (Yl dq)) (fun Zi=>?_) (fun Zi=>?_)
  ·exact az (Z0 2 (iL (Z6 [(k:Int)]) 1 1 fun v2=>ZU 0 [(28,Z3 [(k:Int)])] (ip 2 (Z6 (os++[(k:Int)])) (Z6 os) (Z6 [(k:Int)]) u none 1 (YE _) (YE _) (W6 _) (by simp<;>omega) (by simp [W8,Z6]) fun v3=>Z1 (az (Z0 1 (ZD k (Z1 (ZG ⟨k+1,(os++[(k:Int)]),v3,ob,ob,(by first|exact Zw|exact XI Zw om),rfl,rfl,rfl⟩ (wk [2,0] (fr (ZK k fl)))))))))))
  exact ak (az (Z0 1 (ZD k (Z1 (ZG ⟨k+1,os,u,ob,ob,(by first|exact Zw|exact XI Zw om),rfl,rfl,rfl⟩ (wk [0,0] (fr (ZK k fl))))))))
 exact ax 0 (ar (Zl (r2 [] [ZI os u] ⟨os,rfl,rfl,⟨by omega,Zw⟩⟩ (Zd.forget _ _))))
theorem Z9f (n:ZH) (qz:Nat) (hn:FO n qz WS:=by exact ob) (hqz:qz<=181:=by exact ob):Zm 113 [YH n] [] (fun r h=>∃(n2:ZH),r=YH n2/\h=[]/\FO n2 (60*qz) VI):=by
 have hnl:=hn.fn.len
 have Xr:=hn.fn.decls.ok
 have hok:=hn.fn.ok
 refine ZF 39 Tryz.func113 (ar (iA (Xb n) fun b1=>iA [nl,nl] fun b2=>ie (Zq 2 [1] (Zu [] (Bn n.decls) (iL (Xd []) 0 5 fun v1=>Z0 1 (iA [nl,nl] fun b3=>?_))))))
 refine Zz 0 b3 [Y6 n.decls,WV [] v1] (ie (Y5 (ab 0 (Y3 (fun fz gz m F h=>∃(k:Nat) (rs:List YD) (u:Value),(k<=n.routines.length)/\(rs.length=k)/\(∀r∈rs,RF n.decls n.routines.length (60*qz) VI r)/\F=sF [1,2,3] fz [(4,.i k)]/\h=[.obj b3 [Y6 n.decls,WV rs u],Zh gz 2,Zh gz 3,.tail u 5]/\m=n.routines.length-k) _ _ _ ⟨0,[],v1,ob,ob,(fun r hr=>by cases hr),rfl,rfl,rfl⟩ (wk [0,1,1,0] (Yf fl)) ?_))))
 rintro m F h ⟨k,rs,u,Yi,Zj,Zw,rfl,rfl,rfl⟩
 refine Yr 3 [2] (iw (Q2 n.routines) (Y2 ((k:Int)<(n.routines.length:Int)) (fun Zc=>?_) (fun Zc=>?_)))
 ·refine ak (aq (ab 1 (Zq 3 [2] ?_)))
  obtain ⟨x1,Z4⟩:=Zt n.routines k om
  have hrf:=hn.rf (Y1 Z4)
  have hrp:(x1).params.length<=3:=(Ty.bd (f:=⟨(x1).params,(x1).result,default⟩) hrf.sig).1
  have hrl:=hrf.lent.1
  have hrz:=hrf.body.2
  refine Zp (Zk none (k:Int) 5 (VT Z4)) (Z0 1 (iA [nl,nl,.i 0,nl,.i 0] fun b4=>Zz 0 b4 (JP x1) (ie (aE 16 (ZY 7 16 [0,1,2,3,4,5,6,7,8] [1,0,3,0,0,0] (Z9 9 (dc 9 [] [0,0,3,0,1] [b4,b4,b1,b4,b3] (Za0 x1) ?_)))))))
  rintro _ _ ⟨os1,rfl,rfl,Ya⟩
  have hop:=Ya
  refine Z9 10 (dc 10 [] [0,1] [b4,b3] (Z9g n x1.params x1.body os1 _ (hf:=hrf.body.1) (hop:=hrf.op) (hul:=rfl) (hmr:=hop.2)) ?_)
  rintro _ _ ⟨y1,rfl,rfl,Ys⟩
  have hkb0:=Ys
  have hkb:=hkb0.le (z2:=60*qz) om
  exact Z9 11 (YL 11 [] [1] [b3] (Eo x1 y1 (hp:=om) (hl:=om)) (Z9 12 (dL 12 [1] [b3] (Xd [YD.mk x1.params x1.lent x1.result y1]) 1 5 fun v2=>Yv 3 3 [] [(35,JU [YD.mk x1.params x1.lent x1.result y1])] (Z9 13 (dp 13 5 [] [] (Xd (rs++[YD.mk x1.params x1.lent x1.result y1])) (Xd rs) (Xd [YD.mk x1.params x1.lent x1.result y1]) u none 5 (Tj _) (Tj _) (BM _) (by simp<;>omega) (by simp [DK,Xd]) fun v3=>Zs 1 2 [14] (Z9 15 (YX 15 3 [] [] b3 [Y6 n.decls,WV (rs++[YD.mk x1.params x1.lent x1.result y1]) v3] (de (az (Z0 1 (ZD k (Z1 (ZG ⟨k+1,(rs++[YD.mk x1.params x1.lent x1.result y1]),v3,ob,ob,(XI Zw (by first|exact hrf.with hkb.fb hkb.sz hkb.op|(rw [Za.eta];exact hrf.with hkb.fb hkb.sz hkb.op))),rfl,rfl,rfl⟩ (wk [0,3,3,0] (ZK k fl)))))))))))))))
 exact ax 0 (Zq 1 [0] (Zz 1 b2 [Y6 n.decls,WV rs u] (ie (ZV (r3 [] [.agg [Y6 n.decls,WV rs u]] [0] [(b2,b2)] ⟨(ZH.mk n.decls rs),rfl,rfl,(FO.fin hn.fn om Zw).1⟩ (Zd.agg (.cons (lr _) (.cons (Zd.forget _ _) .nil))))))))
theorem Z1i (s:Z7) :Zm 145 [X5 s] [] (Yw (.b ((s.op==14)||(s.op==15)))):=by
 refine ZF 11 Tryz.func145 (ar (iA (Wf s) fun b1=>Z1 (ar (X8 8 [] [(10,.b ((s.op==14)||(s.op==15)))] (fun gz=>gz) ?_ (fun hj1=>?_)))))
 ·exact Zl (Ey)
 refine ZC 4 [0] (ib (b:=(s.op==14)) 6 (fun Ze=>?_) (fun Ze=>?_))
 ·exact Z0 4 (Y8 (wk [0] (Zo true Ze fl)) hj1)
 exact ZC 4 [0] (Y8 (wk [0] (Zo (s.op==15) Ze fl)) hj1)
theorem Zaa (rn:List Z7) (hrn:∀s∈rn,∃a,s.args=[a]) (hl:rn.length<=100000000:=by exact ob):Zm 169 [Vw rn] [] (fun r h=>∃(vs:LI),r=Z3 vs/\h=[]/\Cr vs/\vs.length<=rn.length/\∀v∈vs,∃s∈rn,s.args=[v]):=by
 refine ZF 22 Tryz.func169 (Y0 (ar (iL (Z6 []) 0 1 fun v1=>?_)))
 refine Z1 (Y5 (ab 0 (Y3 (fun fz gz m F h=>∃(k:Nat) (vs:LI),(k<=rn.length)/\(vs.length<=k)/\(Cr vs)/\(∀v∈vs,∃s∈rn,s.args=[v])/\F=sF [0] fz [(3,Z3 vs),(4,.i k)]/\h=[]/\m=rn.length-k) _ _ _ ⟨0,[],ob,ob,List.Pairwise.nil,(fun v hv=>by cases hv),rfl,rfl,rfl⟩ (wk [] (fc (x:=ZI [] v1) (Zd.forget _ _) (Yf fl))) ?_)))
 rintro m F h ⟨k,vs,Yi,Zj,Zw,YO,rfl,rfl,rfl⟩
 refine YN 2 (iw (UJ rn) (Y2 ((k:Int)<(rn.length:Int)) (fun Zc=>?_) (fun Zc=>?_)))
 ·refine ak (aq (ab 1 (az (Z0 3 ?_))))
  obtain ⟨x1,Z4⟩:=Zt rn k om
  have hxm:=Y1 Z4
  obtain ⟨xa,hxa⟩:=hrn _ hxm
  refine Zp (Zk none (k:Int) 5 (Va Z4)) (Z0 2 ?_)
  obtain ⟨x2,Zv⟩:=Zt x1.args 0 (by rw [hxa];simp)
  have hxe:x1.args=[x2]:=by have h:=Zv;rw [hxa] at h;rw [hxa];simpa using h
  refine Zp (Zk none 0 1 (Y4 Zv)) (Z0 1 (ic [] (BS vs x2) ?_))
  rintro _ _ ⟨v2,rfl,rfl⟩
  exact Z1 (az (Z0 1 (ZD k (Z1 (ZG ⟨k+1,(WG vs x2),ob,(by have:=Be vs x2;omega),(R4 Zw),(fun v hv=>(D7.1 hv).elim (YO v) (fun e=>⟨x1,hxm,by rw [e];exact hxe⟩)),rfl,rfl,rfl⟩ (wk [] (fc (x:=ZI (WG vs x2) v2) (Zd.forget _ _) (ZK k fl))))))))
 exact ax 0 (ar (Zl (r1 [] ⟨vs,rfl,rfl,⟨Zw,by omega,YO⟩⟩)))
theorem Z9s (rn:List Z7) (v:Int) (hrn:∀s∈rn,∃a,s.args=[a]) (hl:rn.length<=100000000:=by exact ob):Zm 170 [Vw rn,.i v] [] (fun r h=>∃(z:Int),r=.i z/\h=[]/\-((VR rn v:Nat):Int)<=z/\z<=((VR rn v:Nat):Int)):=by
 refine ZF 44 Tryz.func170 (Y0 (Y0 (Y5 (ab 0 (Y3 (fun fz gz m F h=>∃(k:Nat) (z:Int),(k<=rn.length)/\(-((VR (rn.take k) v:Nat):Int)<=z/\z<=((VR (rn.take k) v:Nat):Int))/\F=sF [0,1] fz [(5,.i z),(6,.i k)]/\h=gz/\m=rn.length-k) _ _ _ ⟨0,0,ob,(by simp [VR]),rfl,rfl,rfl⟩ (wk [] (fr (Yf fl))) ?_)))))
 rintro m F h ⟨k,z,Yi,Zj,rfl,rfl,rfl⟩
 refine YN 2 (iw (UJ rn) (Y2 ((k:Int)<(rn.length:Int)) (fun Zc=>?_) (fun Zc=>?_)))
 ·refine ak (aq (ab 1 (Yc 2 ?_)))
  obtain ⟨x1,Z4⟩:=Zt rn k om
  have hxm:=Y1 Z4
  obtain ⟨xa,hxa⟩:=hrn _ hxm
  have hct:=Z4u Z4 v
  have hcl:=Z4v rn (k+1) v
  have hcm:=O3 rn v
  refine Zp (Zk none (k:Int) 5 (Va Z4)) (Z0 2 ?_)
  obtain ⟨x2,Zv⟩:=Zt x1.args 0 (by rw [hxa];simp)
  have hg0:=QI Zv
  rw [hg0] at hct
  refine Zp (Zk none 0 1 (Y4 Zv)) (Xs [0,1,5,6] [(29,.b ((x2==v)&&(x1.op==14)))] (fun gz=>gz) ?_ ?_)
  ·refine Z0 4 (ib (b:=(x2==v)) 22 (fun Ze=>?_) (fun Ze=>?_))
   ·exact Z0 2 (Zp (Zk none (k:Int) 5 (Va Z4)) (Z1 (wk [] (Zo (x1.op==14) Ze fl))))
   exact Z1 (wk [] (Zo false Ze fl))
  refine ac ((x2==v)&&(x1.op==14)) (p:=(x2=v)/\(x1.op=14)) (Yt Zg Zg) (fun Zi=>?_) (fun Zi=>?_)
  ·exact az (Z0 1 (ia ((z+1)) ((z)+(1)) (Z1 (az (Z0 1 (ZD k (Z1 (ZG ⟨k+1,(z+1),ob,(by first|(rw [hct,Zb om];omega)|(rw [hct,Z5 om];omega)),rfl,rfl,rfl⟩ (wk [] (fr (ZK k fl)))))))))))
  refine Yc 2 (Zp (Zk none (k:Int) 5 (Va Z4)) (Z0 2 (Zp (Zk none 0 1 (Y4 Zv)) (Yx (x2==v) Zg (fun ZB=>?_) (fun ZB=>?_)))))
  ·exact az (Z0 1 (ia ((z-1)) ((z)-(1)) (Z1 (az (Z0 1 (ZD k (Z1 (ZG ⟨k+1,(z-1),ob,(by first|(rw [hct,Zb om];omega)|(rw [hct,Z5 om];omega)),rfl,rfl,rfl⟩ (wk [] (fr (ZK k fl)))))))))))
  exact ak (az (Z0 1 (ZD k (Z1 (ZG ⟨k+1,z,ob,(by first|(rw [hct,Zb om];omega)|(rw [hct,Z5 om];omega)),rfl,rfl,rfl⟩ (wk [] (fr (ZK k fl))))))))
 exact ax 0 (ar (Zl (r1 [] ⟨z,rfl,rfl,(by have e:=Zj;rw [Wg om] at e;exact e)⟩)))
theorem Pu (rn:List Z7) (hrn:∀s∈rn,∃a,s.args=[a]) (hl:rn.length<=100000000:=by exact ob):Zm 146 [Vw rn] [] (fun r h=>∃(D:LI) (R:LI) (v:Value),r=Xl (D.map (Zx 14)++R.map (Zx 15)) v/\h=[.tail v 5]/\D.length+R.length<=rn.length/\(∀v∈D,∃s∈rn,s.args=[v])/\∀v∈R,∃s∈rn,s.args=[v]):=by
 refine ZF 51 Tryz.func146 (Y0 (ar (iL (Z6 []) 0 1 fun v1=>Z1 (ar (iL (Z6 []) 0 1 fun v2=>Z1 (Yc 1 (ic [] (Zaa rn (hrn:=ob)) ?_)))))))
 rintro _ _ ⟨vs1,rfl,rfl,Ya⟩
 have hvo:=Ya
 have hsl:=Z26 rn hvo.1
 refine Z1 (Y5 (ab 0 (Y3 (fun fz gz m F h=>∃(k:Nat) (D:LI) (u:Value) (R:LI) (w:Value),(k<=vs1.length)/\(D.length+R.length<=VE rn (vs1.take k))/\(∀v∈D,v∈vs1)/\(∀v∈R,v∈vs1)/\F=sF [0,5] fz [(3,ZI D u),(4,ZI R w),(6,.i k)]/\h=[.tail u 1,.tail w 1]/\m=vs1.length-k) _ _ _ ⟨0,[],v1,[],v2,ob,(by simp [VE]),(fun v hv=>by cases hv),(fun v hv=>by cases hv),rfl,rfl,rfl⟩ (wk [1,0] (fw (Yf fl))) ?_)))
 rintro m F h ⟨k,D,u,R,w,Yi,Zj,Zw,YO,rfl,rfl,rfl⟩
 refine YN 2 (iw (Yd vs1) (Y2 ((k:Int)<(vs1.length:Int)) (fun Zc=>?_) (fun Zc=>?_)))
 ·refine ak (aq (ab 1 (Yc 3 ?_)))
  obtain ⟨x1,Z4⟩:=Zt vs1 k om
  have hst:=Zih (rn:=rn) Z4
  have hsk:=N9 rn vs1 (k+1)
  have hxm:=Y1 Z4
  refine Zp (Zk none (k:Int) 1 (Y4 Z4)) (Z0 1 (ic [] (Z9s rn x1 (hrn:=ob)) ?_))
  rintro _ _ ⟨z1,rfl,rfl,Ys⟩
  have hnt:=Ys
  refine Z1 (aq (ab 2 (Y3 (fun fz gz m F h=>∃(z:Int) (D2:LI) (u2:Value) (w2:Value),((D2.length:Int)+(R.length:Int)+z<=((VE rn (vs1.take k):Nat):Int)+((VR rn x1:Nat):Int))/\((D2.length:Int)+(R.length:Int)-z<=((VE rn (vs1.take k):Nat):Int)+((VR rn x1:Nat):Int))/\(∀v∈D2,v∈vs1)/\F=sF [0,5,6] fz [(3,ZI D2 u2),(4,ZI R w2),(7,.i z)]/\h=[.tail u2 1,.tail w2 1]/\m=z.toNat) _ _ _ ⟨z1,D,u,w,om,om,Zw,rfl,rfl,rfl⟩ (wk [0,0] fl) ?_)))
  rintro m F h ⟨z,D2,u2,w2,VB,XE,XJ,rfl,rfl,rfl⟩
  refine Xh (Y2 (z>0) (fun Zi=>?_) (fun Zi=>?_))
  ·exact ak (aq (ab 3 (az (Z0 3 (Zp (Zk none (k:Int) 1 (Y4 Z4)) (Z0 1 (iL (Z6 [x1]) 1 1 fun v3=>ZU 0 [(33,Z3 [x1])] (ip 1 (Z6 (D2++[x1])) (Z6 D2) (Z6 [x1]) u2 none 1 (YE _) (YE _) (W6 _) (by simp<;>omega) (by simp [W8,Z6]) fun v4=>Z1 (az (Z0 1 (ia ((z-1)) ((z)-(1)) (Z1 (ZG ⟨(z-1),(D2++[x1]),v4,w2,(by simp only [Yo,Yq,YY];omega),(by simp only [Yo,Yq,YY];omega),(XI XJ hxm),rfl,rfl,rfl⟩ (wk [0,1] fl))))))))))))))
  refine ax 2 (ab 4 (Y3 (fun fz gz m F h=>∃(y:Int) (R2:LI) (u3:Value) (w3:Value),((D2.length:Int)+(R2.length:Int)+y<=((VE rn (vs1.take k):Nat):Int)+((VR rn x1:Nat):Int))/\((D2.length:Int)+(R2.length:Int)-y<=((VE rn (vs1.take k):Nat):Int)+((VR rn x1:Nat):Int))/\(∀v∈R2,v∈vs1)/\F=sF [0,5,6] fz [(3,ZI D2 u3),(4,ZI R2 w3),(7,.i y)]/\h=[.tail u3 1,.tail w3 1]/\m=(-y).toNat) _ _ _ ⟨z,R,u2,w2,ob,ob,YO,rfl,rfl,rfl⟩ (wk [0,0] fl) ?_))
  rintro m F h ⟨y,R2,u3,w3,IS,CC,CD,rfl,rfl,rfl⟩
  refine Xh (Y2 (y<0) (fun ZB=>?_) (fun ZB=>?_))
  ·exact ak (aq (ab 5 (az (Z0 3 (Zp (Zk none (k:Int) 1 (Y4 Z4)) (Z0 1 (iL (Z6 [x1]) 1 1 fun v5=>ZU 0 [(44,Z3 [x1])] (ip 2 (Z6 (R2++[x1])) (Z6 R2) (Z6 [x1]) w3 none 1 (YE _) (YE _) (W6 _) (by simp<;>omega) (by simp [W8,Z6]) fun v6=>Z1 (az (Z0 1 (ia ((y+1)) ((y)+(1)) (Z1 (ZG ⟨(y+1),(R2++[x1]),u3,v6,(by simp only [Yo,Yq,YY];omega),(by simp only [Yo,Yq,YY];omega),(XI CD hxm),rfl,rfl,rfl⟩ (wk [2,0] fl))))))))))))))
  exact ax 4 (az (Z0 1 (ZD k (Z1 (ZG ⟨k+1,D2,u3,R2,w3,ob,(by rw [hst];omega),XJ,CD,rfl,rfl,rfl⟩ (wk [0,0] (fw (ZK k fl))))))))
 have XS:=N9 rn vs1 k
 refine ax 0 (ar (ZU 1 [(46,Z3 D)] (ic [] (KV 14 D) ?_)))
 rintro _ _ ⟨v7,rfl,rfl⟩
 refine ZU 1 [(48,Z3 R)] (ic [] (KV 15 R) ?_)
 rintro _ _ ⟨v8,rfl,rfl⟩
 exact ZU 0 [(49,Vw (R.map (Zx 15)))] (ip 1 (ZT ((D.map (Zx 14))++(R.map (Zx 15)))) (ZT (D.map (Zx 14))) (ZT (R.map (Zx 15))) v7 none 5 (XK _) (XK _) (Us _) (by simp<;>omega) (by simp [VC,ZT]) fun v9=>Zl (r2 [0] [Xl ((D.map (Zx 14))++(R.map (Zx 15))) v9] ⟨_,_,v9,rfl,rfl,⟨by have:=N9 rn vs1 k;omega,fun v hv=>hvo.2.2 v (Zw v hv),fun v hv=>hvo.2.2 v (YO v hv)⟩⟩ (Zd.slh _ (Yg ZT ob))))
theorem Z8q (ds:List Zf) (nf:Nat) (b:Za) (mm:Nat) (hf:fB ds nf mm b) (hop:Vx VI b) (hz:b.sz<=100000000) (ih:∀(b2:Za) (m2:Nat),(fB ds nf m2 b2)->(Vx VI b2)->(b2.sz<=100000000)->(b2.sz<b.sz)->Zm 120 [Yp b2] [] (fun r h=>∃(y:Za),r=Yp y/\h=[]/\KB ds nf m2 y b2.sz)):Zm 120 [Yp b] [] (fun r h=>∃(y:Za),r=Yp y/\h=[]/\KB ds nf mm y b.sz):=by
 have hbe:=b.sz_eq
 have ZL:=UG b
 obtain ⟨hfs,hr1,hr2⟩:=(Ja b).1 hf
 have hos:=De.1 ((HF b).1 hop)
 refine ZF 72 Tryz.func120 (ar (iA (W3 b) fun b1=>iA [nl,.i 0] fun b2=>ie (ar (iL (ZT []) 0 5 fun v1=>Z1 (ar (iL (ZT []) 0 5 fun v2=>?_))))))
 refine Z1 (Y5 (ab 0 (Y3 (fun fz gz m F h=>∃(k:Nat) (xs:List Z7) (v:Value) (rn:List Z7) (u:Value) (z0:Nat),(k<=b.steps.length)/\(CL ds nf mm xs (Yu (b.steps.take k)) z0)/\(z0+2*rn.length<=Yy (b.steps.take k))/\(Ny (mm+(Yu (b.steps.take k))) rn)/\F=sF [1,2] fz [(3,Xl xs v),(4,Xl rn u),(5,.i k)]/\h=[Zh gz 2,Zh gz 3,.tail u 5,.tail v 5]/\m=b.steps.length-k) _ _ _ ⟨0,[],v1,[],v2,0,ob,CL.nil,(by simp [Yy]),(fun s hs=>by cases hs),rfl,rfl,rfl⟩ (wk [2,2,0,0] (fw (Yf fl))) ?_)))
 rintro m F h ⟨k,xs,v,rn,u,z0,Yi,Zj,Zw,YO,rfl,rfl,rfl⟩
 refine Yr 3 [1] (iw (UJ b.steps) (Y2 ((k:Int)<(b.steps.length:Int)) (fun Zc=>?_) (fun Zc=>?_)))
 ·refine ak (aq (ab 1 (Zq 3 [1] ?_)))
  obtain ⟨x1,Z4⟩:=Zt b.steps k om
  have XS:=Dk Z4
  have hfS:=(B5 x1).1 (DO hfs Z4)
  have hoS:=(Fu x1).1 (hos x1 (Y1 Z4))
  have htk:=If Z4
  have htl:=KX b.steps (k+1)
  have hse:=(x1).sz_eq
  have hdt:=Oi Z4
  have hxl:=Zj.len
  have hkl2:=Gq (x1).kids
  refine Zp (Zk none (k:Int) 5 (Va Z4)) (Z0 1 (iA [.i 0,.i 0,.i 0,nl,nl] fun b3=>Zz 0 b3 (Wf x1) (ie (Zq 1 [0] (Zu [] (Z1i x1) (ie (ac ((x1.op==14)||(x1.op==15)) (p:=(x1.op=14)∨(x1.op=15)) (ZZ Zg Zg) (fun Zi=>?_) (fun Zi=>?_))))))))
  ·refine az (ZC 2 [0] (UP [X5 x1] (ZT [x1]) (Ub [x1]).symm 1 5 fun v3=>ZU 0 [(27,Vw [x1])] (ip 4 (ZT (rn++[x1])) (ZT rn) (ZT [x1]) u none 5 (XK _) (XK _) (Us _) (by simp<;>omega) (by simp [VC,ZT]) fun v4=>Z1 (az (Z0 1 (ZD k (Z1 ?_)))))))
   obtain ⟨⟨pa,hpa,hpr⟩,Ys,hpc⟩:=hfS.pair (by assumption)
   rw [Zb hpc,Bx] at hdt
   exact ZG ⟨k+1,xs,v,(rn++[x1]),v4,_,ob,(by rw [hdt];exact Zj),(by rw [htk];simp only [Yo,Yq,YY];omega),(by rw [hdt];exact XI YO ⟨pa,hpa,hpr⟩),rfl,rfl,rfl⟩ (wk [3,3,0,2] (fw (ZK k fl)))
  refine ar (ZU 2 [(30,Vw rn)] (ic [] (Pu rn (hrn:=(fun s hs=>(YO s hs).elim fun a h=>⟨a,h.1⟩))) ?_))
  rintro _ _ ⟨D1,R1,v5,rfl,rfl,Ya⟩
  have hsr:=Ya
  have hq1:=Zj.run YO hsr.2.1 hsr.2.2
  have hl1:=Zj.len
  have htl1:=KX b.steps k
  refine ZU 0 [(31,Vw (D1.map (Zx 14)++R1.map (Zx 15)))] (ip 5 (ZT (xs++(D1.map (Zx 14)++R1.map (Zx 15)))) (ZT xs) (ZT (D1.map (Zx 14)++R1.map (Zx 15))) v none 5 (XK _) (XK _) (Us _) (by simp<;>omega) (by simp [VC,ZT]) fun v6=>Z1 (ar (iL (ZT []) 0 5 fun v7=>Z1 (ar (iL (XT []) 0 2 fun v8=>?_)))))
  refine Z1 (Y5 (ab 2 (Y3 (fun fz gz m F h=>∃(j:Nat) (ks:List Za) (w:Value) (v3:Value) (u4:Value),(j<=x1.kids.length)/\(ks.length=j)/\(KK ds nf (V0 ds x1.op x1.num (mm+(Yu (b.steps.take k)))) ks (YU (x1.kids.take j)))/\F=sF [1,2,5,6] fz [(3,Xl (xs++(D1.map (Zx 14)++R1.map (Zx 15))) v3),(4,Xl [] u4),(7,Qv ks w),(8,.i j)]/\h=[Zh gz 4,Zh gz 5,Zh gz 6,.tail u4 5,.tail v3 5,.tail w 2]/\m=x1.kids.length-j) _ _ _ ⟨0,[],v8,v6,v7,ob,ob,(KK.nil.le (QB _)),rfl,rfl,rfl⟩ (wk [4,4,4,1,1,0] (fw (fr (Yf fl)))) ?_)))
  rintro m F h ⟨j,ks,w,v3,u4,VB,XE,XJ,rfl,rfl,rfl⟩
  refine Yr 3 [0] (iw (KF x1.kids) (Y2 ((j:Int)<(x1.kids.length:Int)) (fun ZB=>?_) (fun ZB=>?_)))
  ·refine ak (aq (ab 3 (az (ZC 4 [0] ?_))))
   obtain ⟨x2,Zv⟩:=Zt x1.kids j om
   have hkz:=Qs Zv
   have hfk:=BO hfS.kids Zv
   rw [Wh] at hfk
   have hok:=Ec.1 hoS.2 x2 (Y1 Zv)
   have hbt:=Gr Zv
   refine Zp (Zk none (j:Int) 2 (T3 Zv)) (Z0 1 (ic [] (ih x2 (V0 ds x1.op x1.num (mm+(Yu (b.steps.take k))) j) hfk hok ob ob) ?_))
   rintro _ _ ⟨y1,rfl,rfl,Ys⟩
   have hkb:=Ys
   exact UP [Yp y1] (XT [y1]) (K8 [y1]).symm 1 2 fun v9=>ZU 0 [(49,JT [y1])] (ip 6 (XT (ks++[y1])) (XT ks) (XT [y1]) w none 2 (J8 _) (J8 _) (GC _) (by simp<;>omega) (by simp [CK,XT]) fun v10=>Z1 (az (Z0 1 (ZD j (Z1 (ZG ⟨j+1,(ks++[y1]),v10,v3,u4,ob,ob,((XJ.snoc XE hkb).le om),rfl,rfl,rfl⟩ (wk [2,2,2,2,2,0] (fw (fr (ZK j fl))))))))))
  refine ax 2 (aE 15 (ZY 5 15 [0,1,2,3,4,5,6,7,8,10] [0,0,0,0] (Z9 9 (dc 9 [] [0,0,0] [b3,b3,b3] (WX x1.args) ?_))))
  rintro _ _ ⟨v11,rfl,rfl⟩
  refine Yv 3 4 [11] [(62,.agg [.i x1.op,.i x1.num,.i x1.into,Z3 x1.args,JT ks])] (Z9 12 (WE 12 [] [] [X5 (Z7.mk x1.op x1.num x1.into x1.args ks)] (ZT [Z7.mk x1.op x1.num x1.into x1.args ks]) (Ub [Z7.mk x1.op x1.num x1.into x1.args ks]).symm 1 5 fun v12=>Yv 2 2 [] [(63,Vw [Z7.mk x1.op x1.num x1.into x1.args ks])] (Z9 13 (dp 13 6 [] [] (ZT ((xs++(D1.map (Zx 14)++R1.map (Zx 15)))++[Z7.mk x1.op x1.num x1.into x1.args ks])) (ZT (xs++(D1.map (Zx 14)++R1.map (Zx 15)))) (ZT [Z7.mk x1.op x1.num x1.into x1.args ks]) v3 none 5 (XK _) (XK _) (Us _) (by simp<;>omega) (by simp [VC,ZT]) fun v13=>Zs 0 1 [14] (de (az (Z0 1 (ZD k (Z1 ?_)))))))))
  obtain ⟨hn1,hn2⟩:=hfS.not_pair (by assumption) hoS.1
  rw [Z5 (by rw [hn2];simp)] at hdt
  have hbj:=IP (xs:=x1.kids) (k:=j) om
  have hkt:=KT.eq hfS hn1 om XJ
  have hq2:=hq1.kt hkt
  exact ZG ⟨k+1,((xs++(D1.map (Zx 14)++R1.map (Zx 15)))++[Z7.mk x1.op x1.num x1.into x1.args ks]),v13,[],u4,_,ob,(by rw [hdt];exact hq2),(by rw [htk];simp only [YY];omega),(fun s hs=>by cases hs),rfl,rfl,rfl⟩ (wk [4,4,4,0] (fw (ZK k fl)))
 have htl2:=KX b.steps k
 have hxl2:=Zj.len
 refine ax 0 (aD 8 (DD 4 8 [0,1,4,5] [(66,Vw rn)] [1] (Z9 2 (dc 2 [] [1] [b1] (Pu rn (hrn:=(fun s hs=>(YO s hs).elim fun a h=>⟨a,h.1⟩))) ?_))))
 rintro _ _ ⟨D2,R2,v14,rfl,rfl,YR⟩
 have hsr:=YR
 have hq1:=Zj.run YO hsr.2.1 hsr.2.2
 have hl1:=Zj.len
 have htl1:=KX b.steps k
 exact Yv 3 3 [] [(67,Vw (D2.map (Zx 14)++R2.map (Zx 15)))] (Z9 3 (dp 3 4 [1] [b1] (ZT (xs++(D2.map (Zx 14)++R2.map (Zx 15)))) (ZT xs) (ZT (D2.map (Zx 14)++R2.map (Zx 15))) v none 5 (XK _) (XK _) (Us _) (by simp<;>omega) (by simp [VC,ZT]) fun v15=>Zs 1 2 [6] (Z9 7 (YX 7 2 [] [] b2 [Xl (xs++(D2.map (Zx 14)++R2.map (Zx 15))) v15,.i b.result] (de (ZV (r3 [] [.agg [Xl (xs++(D2.map (Zx 14)++R2.map (Zx 15))) v15,.i b.result]] [0] [(b2,b2)] ⟨(Za.mk (xs++(D2.map (Zx 14)++R2.map (Zx 15))) b.result),rfl,rfl,(by have e:b.steps.take k=b.steps:=Wg om;rw [e] at Zw hq1;exact (hq1.block ⟨hr1,hr2⟩).le om)⟩ (Zd.agg (.cons (Zd.forget _ _) (.cons (lr _) .nil))))))))))
theorem Z8p (ds:List Zf) (nf:Nat) (b:Za) (mm:Nat) (hf:fB ds nf mm b:=by exact ob) (hop:Vx VI b:=by exact ob) (hz:b.sz<=100000000:=by exact ob):Zm 120 [Yp b] [] (fun r h=>∃(y:Za),r=Yp y/\h=[]/\KB ds nf mm y b.sz):=by
 have key:∀k:Nat,∀(b2:Za) (m2:Nat),(fB ds nf m2 b2)->(Vx VI b2)->(b2.sz<=100000000)->(b2.sz<k)->Zm 120 [Yp b2] [] (fun r h=>∃(y:Za),r=Yp y/\h=[]/\KB ds nf m2 y b2.sz):=by
  intro k
  induction k with
  | zero=>intro b2 m2 h1 h2 h3 h9;omega
  | succ k ih=>intro b2 m2 h1 h2 h3 h9;exact Z8q ds nf b2 m2 h1 h2 h3 fun b3 m3 q1 q2 q3 q9=>ih b3 m3 q1 q2 q3 om
 exact key (b.sz+1) b mm hf hop hz om
theorem Z8r (n:ZH) (qz:Nat) (hn:FO n qz VI:=by exact ob) (hqz:qz<=10000000:=by exact ob):Zm 78 [YH n] [] (fun r h=>∃(n2:ZH),r=YH n2/\h=[]/\FO n2 qz VI):=by
 have hnl:=hn.fn.len
 have Xr:=hn.fn.decls.ok
 have hok:=hn.fn.ok
 refine ZF 36 Tryz.func78 (ar (iA (Xb n) fun b1=>iA [nl,nl] fun b2=>ie (Zq 2 [1] (Zu [] (Bn n.decls) (iL (Xd []) 0 5 fun v1=>Z0 1 (iA [nl,nl] fun b3=>?_))))))
 refine Zz 0 b3 [Y6 n.decls,WV [] v1] (ie (Y5 (ab 0 (Y3 (fun fz gz m F h=>∃(k:Nat) (rs:List YD) (u:Value),(k<=n.routines.length)/\(rs.length=k)/\(∀r∈rs,RF n.decls n.routines.length qz VI r)/\F=sF [1,2,3] fz [(4,.i k)]/\h=[.obj b3 [Y6 n.decls,WV rs u],Zh gz 2,Zh gz 3,.tail u 5]/\m=n.routines.length-k) _ _ _ ⟨0,[],v1,ob,ob,(fun r hr=>by cases hr),rfl,rfl,rfl⟩ (wk [0,1,1,0] (Yf fl)) ?_))))
 rintro m F h ⟨k,rs,u,Yi,Zj,Zw,rfl,rfl,rfl⟩
 refine Yr 3 [2] (iw (Q2 n.routines) (Y2 ((k:Int)<(n.routines.length:Int)) (fun Zc=>?_) (fun Zc=>?_)))
 ·refine ak (aq (ab 1 (aE 19 (ZY 14 19 [0,1,2,3,4] [0,2] ?_))))
  obtain ⟨x1,Z4⟩:=Zt n.routines k om
  have hrf:=hn.rf (Y1 Z4)
  have hrp:(x1).params.length<=3:=(Ty.bd (f:=⟨(x1).params,(x1).result,default⟩) hrf.sig).1
  have hrl:=hrf.lent.1
  have hrz:=hrf.body.2
  refine dx 5 (Zk none (k:Int) 5 (VT Z4)) (ZY 9 13 [6,7,8,9] [2] (dx 10 (Zk none (k:Int) 5 (VT Z4)) (Zs 6 8 [11,12] (Z9 13 (dc 13 [] [2,0] [b1,b3] (Z8p n.decls n.routines.length x1.body _ (hf:=hrf.body.1) (hop:=hrf.op)) ?_)))))
  rintro _ _ ⟨y1,rfl,rfl,Ya⟩
  have hkb0:=Ya
  have hkb:=hkb0.le (z2:=qz) hrz
  exact Z9 14 (YL 14 [] [0] [b3] (Eo x1 y1 (hp:=om) (hl:=om)) (Z9 15 (dL 15 [0] [b3] (Xd [YD.mk x1.params x1.lent x1.result y1]) 1 5 fun v2=>Yv 3 3 [] [(32,JU [YD.mk x1.params x1.lent x1.result y1])] (Z9 16 (dp 16 4 [] [] (Xd (rs++[YD.mk x1.params x1.lent x1.result y1])) (Xd rs) (Xd [YD.mk x1.params x1.lent x1.result y1]) u none 5 (Tj _) (Tj _) (BM _) (by simp<;>omega) (by simp [DK,Xd]) fun v3=>Zs 1 2 [17] (Z9 18 (YX 18 2 [] [] b3 [Y6 n.decls,WV (rs++[YD.mk x1.params x1.lent x1.result y1]) v3] (de (az (Z0 1 (ZD k (Z1 (ZG ⟨k+1,(rs++[YD.mk x1.params x1.lent x1.result y1]),v3,ob,ob,(XI Zw (hrf.with hkb.fb hkb.sz hkb.op)),rfl,rfl,rfl⟩ (wk [0,2,2,0] (ZK k fl)))))))))))))))
 exact ax 0 (Zq 1 [0] (Zz 1 b2 [Y6 n.decls,WV rs u] (ie (ZV (r3 [] [.agg [Y6 n.decls,WV rs u]] [0] [(b2,b2)] ⟨(ZH.mk n.decls rs),rfl,rfl,(FO.fin hn.fn om Zw).1⟩ (Zd.agg (.cons (lr _) (.cons (Zd.forget _ _) .nil))))))))
theorem Rv (b:Nat) (ga:Hd) (gb:Hd) (gc:Hd) (gd:Hd) (ge:Hd) (gf:Hd) (n:ZH) (s:Z7) (L:ZO) (ln:LI) (q:Int) (i:Nat) (kb0:Za) (m:LI) (hn:Xz n:=by exact ob) (hk:XN n.decls L q:=by exact ob) (hf:Ct n L.vars s:=by exact ob) (hop:s.op=7∨s.op=8:=by exact ob) (hkb:s.kids[i]? = some kb0:=by exact ob) (harm:(W5 n.decls s.op s.num)[i]? = some m:=by exact ob) (hbt:0<=W7 n (L.vars++m) kb0:=by exact ob) (hb:L.vars.length+4*s.sz<=1000000000:=by exact ob) (hq:0<=q/\q+4*s.sz<=999999990:=by exact ob) (hln:ln.length<=4294967296:=by exact ob) (ih:∀(b2:Za) (c:Nat) (ra:Hd) (rb:Hd) (rc:Hd) (rd:Hd) (re:Hd) (rf:Hd) (M:ZO) (mm:Nat) (p:Int),(b2.sz<s.sz)->(XN n.decls M p)->(0<=W7 n M.vars b2)->(mm<=M.vars.length)->(M.vars.length+4*b2.sz<=1000000000)->(0<=p/\p+4*b2.sz<=999999990)->Zm 227 [.p c 0,YH n,Yp b2,.i mm] [.obj c [.h ra,.h rb,.h rc,.h rd,.h re,.h rf,Z3 ln],rV ra M.vars,rV rb M.own,rV rc M.par,rV rd M.con,rV re M.fst,rV rf M.tok] (fun r h=>(∃(wa:Hd) (wb:Hd) (wc:Hd) (wd:Hd) (we:Hd) (wf:Hd) (M':ZO),r=.b true/\h=[.obj c [.h wa,.h wb,.h wc,.h wd,.h we,.h wf,Z3 ln],rV wa M'.vars,rV wb M'.own,rV wc M'.par,rV wd M'.con,rV we M'.fst,rV wf M'.tok]/\U8 n ln M mm b2=some M')∨(r=.b false/\h=[]/\U8 n ln M mm b2=none))):Zm 206 [.p b 0,YH n,X5 s,.i i] [.obj b [.h ga,.h gb,.h gc,.h gd,.h ge,.h gf,Z3 ln],rV ga L.vars,rV gb L.own,rV gc L.par,rV gd L.con,rV ge L.fst,rV gf L.tok] (fun r h=>(∃(c:Nat) (wa:Hd) (wb:Hd) (wc:Hd) (wd:Hd) (we:Hd) (wf:Hd) (L':ZO),r=.tup [.p c 0,.b true]/\h=[.obj c [.h wa,.h wb,.h wc,.h wd,.h we,.h wf,Z3 ln],rV wa L'.vars,rV wb L'.own,rV wc L'.par,rV wd L'.con,rV we L'.fst,rV wf L'.tok,.obj b [.h ga,.h gb,.h gc,.h gd,.h ge,.h gf,Z3 ln],rV ga L.vars,rV gb L.own,rV gc L.par,rV gd L.con,rV ge L.fst,rV gf L.tok]/\U8 n ln (TT n.decls L s.op s.num s.args i) L.vars.length kb0=some L')∨(r=.tup [.any,.b false]/\h=[.obj b [.h ga,.h gb,.h gc,.h gd,.h ge,.h gf,Z3 ln],rV ga L.vars,rV gb L.own,rV gc L.par,rV gd L.con,rV ge L.fst,rV gf L.tok]/\U8 n ln (TT n.decls L s.op s.num s.args i) L.vars.length kb0=none)):=by
 obtain ⟨e1,e2,e3,e4,e5⟩:=hk.len
 have Xr:=hn.decls
 have hkz:=Ki s
 have haz:=JB s
 have hK:=Ho hk hq.1 hf hop harm
 have hm3:=NM Xr harm
 have hkl:=(X4.1 hkb).1
 have hks:=Qs hkb
 refine ZF 83 Tryz.func206 (ar (iA (Xb n) fun b1=>iA (Wf s) fun b2=>Z1 (Zq 4 [2] (Zp (Dn 3 ga L.vars) (Z1 (Yc 1 (ic [2,2,2,2,2,2,2] (Zcn b ga gb gc gd ge gf L ln (hlk:=hk.len)) ?_)))))))
 rintro _ _ ⟨c1,wa1,wb1,wc1,wd1,we1,wf1,rfl,rfl⟩
 refine Z1 (Xh (WQ [14] (ac (s.op==8) Zg (fun Zc=>?_) (fun Zc=>?_))))
 ·obtain ⟨x,hxa⟩:=hf.one om
  have ha:s.args[0]? = some x:=by rw [hxa];rfl
  have hx:=hf.args x (by rw [hxa];simp)
  obtain ⟨cc,hcc,hmc⟩:=Z42 Zc harm
  have hal:=(X4.1 ha).1
  have hcl:=(X4.1 hcc).1
  have hm4:=hm3
  rw [hmc] at hm4
  refine Zq 4 [15,14] (ic [] (Jp n.decls s.num) ?_)
  rintro _ _ ⟨v1,rfl,rfl⟩
  refine Z0 1 (Zp (Zk (some v1) (i:Int) 1 (Y4 hcc)) (Z1 (Zq 3 [16] (Zu [] (Qx n.decls cc) (Z1 (aD 11 (ZY 5 11 [0,1,2,3,4,5] [1,15] (dx 6 (Zk none 0 1 (Y4 ha)) (Zs 2 4 [7,8] (dx 9 (Uh 5 wd1 L.con x x.toNat (hq:=rfl)) (Z9 10 (CH 10 5 [] [] wd1 L.con x.toNat cc (de (aD 11 (ZY 5 11 [0,1,2,3,4,5] [2,15] (dx 6 (Zk none 0 1 (Y4 ha)) (Zs 2 4 [7,8] (dx 9 (Uh 6 we1 L.fst x x.toNat (hq:=rfl)) (Z9 10 (CH 10 6 [] [] we1 L.fst x.toNat (L.vars.length:Int) (de (Y0 (ab 0 (Y3 (fun fz gz m F h=>∃(k:Nat) (L3:ZO) (ka:Hd) (kb:Hd) (kc:Hd) (kd:Hd) (ke:Hd) (kf:Hd),(k<=(ZP n.decls cc).length)/\(Tx L3)/\(L3.vars.length=L.vars.length+k)/\(CW L3 x ((ZP n.decls cc).drop k)=Cz n.decls L x cc)/\F=sF [3,5,6,10,11,13] fz [(14,.i k)]/\h=[.obj c1 [.h ka,.h kb,.h kc,.h kd,.h ke,.h kf,Z3 ln],Zh gz 8,Zh gz 9,Zh gz 10,Zh gz 11,Zh gz 12,Zh gz 13,Zh gz 14,Zh gz 15,Zh gz 16,rV ka L3.vars,rV kb L3.own,rV kc L3.par,rV kd L3.con,rV ke L3.fst,rV kf L3.tok]/\m=(ZP n.decls cc).length-k) _ _ _ ⟨0,(ZO.mk L.vars L.own L.par (L.con.set x.toNat cc) (L.fst.set x.toNat (L.vars.length:Int)) L.tok),wa1,wb1,wc1,wd1,we1,wf1,ob,(Tx.arm hk.len),ob,(by rw [Cz];rfl),rfl,rfl,rfl⟩ (wk [3,7,7,7,7,7,7,7,7,7,3,3,3,1,0,1] (Yf fl) (e:=(rc (rc (rc (rc (rc (rc (rc (rc (rc (rc (rv (xs:=L.vars) ob (rv (xs:=L.own) ob (rv (xs:=L.par) ob (rv (xs:=(L.con.set x.toNat cc)) ob (rv (xs:=(L.fst.set x.toNat (L.vars.length:Int))) ob (rv (xs:=L.tok) ob rz)))))))))))))))))) ?_))))))))))))))))))))))))
  rintro m F h ⟨k,L3,ka,kb,kc,kd,ke,kf,Yi,Zj,Zw,YO,rfl,rfl,rfl⟩
  refine YN 2 (io (.i (((ZP n.decls cc).length:Nat):Int)) (.i (((Z6 (ZP n.decls cc)).length:Nat):Int)) (li (by rw [Yd])) (Y2 ((k:Int)<(((ZP n.decls cc).length:Nat):Int)) (fun Zi=>?_) (fun Zi=>?_)))
  ·refine ak (aq (ab 1 (aE 10 (Zs 7 10 [0,1,2] ?_))))
   obtain ⟨x1,Z4⟩:=Zt (ZP n.decls cc) k om
   refine dx 3 (Zk none (k:Int) 1 (Y4 Z4)) (ZY 3 6 [4,5,6] [8] (dx 7 (Zk none 0 1 (Y4 ha)) (Zs 1 2 [8] (Z9 9 (dc 9 [0,9,9,9,9,9,9] [] [] (KL c1 ka kb kc kd ke kf L3 ln x1 0 x (hlk:=Zj)) ?_)))))
   rintro _ _ ⟨wa2,wb2,wc2,wd2,we2,wf2,rfl⟩
   exact de (az (Z0 1 (ZD k (Z1 (ZG ⟨k+1,(L3.grow x1 0 x),wa2,wb2,wc2,wd2,we2,wf2,ob,(Tx.grow Zj),(by simp [ZO.grow];omega),(by rw [Yj Z4,CW] at YO;exact YO),rfl,rfl,rfl⟩ (wk [0,6,6,6,6,6,6,6,6,6,0,0,0,0,0,0] (ZK k fl)))))))
  have hE:TT n.decls L s.op s.num s.args i=L3:=by rw [Zc3 Zc ha hcc,<-YO,Xp om];rfl
  refine ax 0 (aD 12 (ZY 6 12 [0,1,2,3,4,5] [9,8] (dx 6 (Zk none (i:Int) 2 (T3 hkb)) (Zs 3 5 [7,8] (Z9 9 (dc 9 [0,9,9,9,9,9,9] [] [] (ih kb0 c1 ka kb kc kd ke kf L3 L.vars.length q ob (by rw [<-hE];exact hK.1) (by rw [<-hE,hK.2];exact hbt) (by rw [<-hE,hK.2];simp) (by rw [<-hE,hK.2,Yo];omega) ob) ?_))))))
  rintro _ _ (⟨wa3,wb3,wc3,wd3,we3,wf3,M'1,rfl,rfl,Ya⟩|⟨rfl,rfl,Ys⟩)
  ·exact Zs 0 2 [10,11] (de (ZV (r2 [0,0,0,0,0,0,0,0,0,0,0,0,0,0] [.p c1 0,.b true] (.inl ⟨c1,wa3,wb3,wc3,wd3,we3,wf3,M'1,rfl,rfl,(by rw [hE];exact Ya)⟩) (lr _))))
  exact Zs 0 2 [10,11] (de (ZV (r2 [0,0,0,0,0,0,0] [.p c1 0,.b false] (.inr ⟨rfl,rfl,(by rw [hE];exact Ys)⟩) (Zd.tup (.cons (Zd.any _) (.cons (lr _) .nil))))))
 have hE:=Zc4 (ds:=n.decls) (L:=L) (num:=s.num) (args:=s.args) (i:=i) Zc
 refine ak (aD 12 (ZY 6 12 [0,1,2,3,4,5] [15,14] (dx 6 (Zk none (i:Int) 2 (T3 hkb)) (Zs 3 5 [7,8] (Z9 9 (dc 9 [0,0,0,0,0,0,0] [] [] (ih kb0 c1 wa1 wb1 wc1 wd1 we1 wf1 L L.vars.length q ob (by rw [<-hE];exact hK.1) (by rw [<-hE,hK.2];exact hbt) (by rw [<-hE,hK.2];simp) (by rw [<-hE,hK.2,Yo];omega) ob) ?_))))))
 rintro _ _ (⟨wa4,wb4,wc4,wd4,we4,wf4,M'2,rfl,rfl,YR⟩|⟨rfl,rfl,X2⟩)
 ·exact Zs 0 2 [10,11] (de (ZV (r2 [0,0,0,0,0,0,0,0,0,0,0,0,0,0] [.p c1 0,.b true] (.inl ⟨c1,wa4,wb4,wc4,wd4,we4,wf4,M'2,rfl,rfl,(by rw [hE];exact YR)⟩) (lr _))))
 exact Zs 0 2 [10,11] (de (ZV (r2 [0,0,0,0,0,0,0] [.p c1 0,.b false] (.inr ⟨rfl,rfl,(by rw [hE];exact X2)⟩) (Zd.tup (.cons (Zd.any _) (.cons (lr _) .nil))))))
theorem Zcm (b:Nat) (ga:Hd) (gb:Hd) (gc:Hd) (gd:Hd) (ge:Hd) (gf:Hd) (n:ZH) (s:Z7) (L:ZO) (ln:LI) (q:Int) (hn:Xz n:=by exact ob) (hk:XN n.decls L q:=by exact ob) (hf:Ct n L.vars s:=by exact ob) (hop:s.op=7∨s.op=8:=by exact ob) (hb:L.vars.length+4*s.sz<=1000000000:=by exact ob) (hq:0<=q/\q+4*s.sz<=999999990:=by exact ob) (hln:ln.length<=4294967296:=by exact ob) (ih:∀(b2:Za) (c:Nat) (ra:Hd) (rb:Hd) (rc:Hd) (rd:Hd) (re:Hd) (rf:Hd) (M:ZO) (mm:Nat) (p:Int),(b2.sz<s.sz)->(XN n.decls M p)->(0<=W7 n M.vars b2)->(mm<=M.vars.length)->(M.vars.length+4*b2.sz<=1000000000)->(0<=p/\p+4*b2.sz<=999999990)->Zm 227 [.p c 0,YH n,Yp b2,.i mm] [.obj c [.h ra,.h rb,.h rc,.h rd,.h re,.h rf,Z3 ln],rV ra M.vars,rV rb M.own,rV rc M.par,rV rd M.con,rV re M.fst,rV rf M.tok] (fun r h=>(∃(wa:Hd) (wb:Hd) (wc:Hd) (wd:Hd) (we:Hd) (wf:Hd) (M':ZO),r=.b true/\h=[.obj c [.h wa,.h wb,.h wc,.h wd,.h we,.h wf,Z3 ln],rV wa M'.vars,rV wb M'.own,rV wc M'.par,rV wd M'.con,rV we M'.fst,rV wf M'.tok]/\U8 n ln M mm b2=some M')∨(r=.b false/\h=[]/\U8 n ln M mm b2=none))):Zm 167 [.p b 0,YH n,X5 s] [.obj b [.h ga,.h gb,.h gc,.h gd,.h ge,.h gf,Z3 ln],rV ga L.vars,rV gb L.own,rV gc L.par,rV gd L.con,rV ge L.fst,rV gf L.tok] (fun r h=>(∃(wa:Hd) (wb:Hd) (wc:Hd) (wd:Hd) (we:Hd) (wf:Hd) (L':ZO),r=.b true/\h=[.obj b [.h wa,.h wb,.h wc,.h wd,.h we,.h wf,Z3 ln],rV wa L'.vars,rV wb L'.own,rV wc L'.par,rV wd L'.con,rV we L'.fst,rV wf L'.tok]/\CE n ln L s=some L')∨(r=.b false/\h=[]/\CE n ln L s=none)):=by
 obtain ⟨e1,e2,e3,e4,e5⟩:=hk.len
 have Xr:=hn.decls
 have hkz:=Ki s
 have haz:=JB s
 obtain ⟨hk1,hk2,hk3⟩:=hf.kids hop
 obtain ⟨kd,hkd⟩:=Zt s.kids 0 om
 obtain ⟨m0,hm0⟩:=Zt (W5 n.decls s.op s.num) 0 om
 obtain ⟨x,hxa⟩:=hf.one om
 have ha:s.args[0]? = some x:=by rw [hxa];rfl
 have hx:=hf.args x (by rw [hxa];simp)
 have hgx:=QI ha
 have hal:=(X4.1 ha).1
 refine ZF 88 Tryz.func167 (ar (iA (Xb n) fun b1=>iA (Wf s) fun b2=>Z1 (Xh (Xs [0,4,5] [(23,.b ((s.op==8)&&(!Tf L ln x)))] (fun gz=>[Zh gz 2,Zh gz 3,Zh gz 4,Zh gz 5,Zh gz 6,Zh gz 7,Zh gz 8,Zh gz 0,Zh gz 1]) ?_ ?_))))
 ·refine ZC 4 [0] (ib (b:=(s.op==8)) 15 (fun Ze=>?_) (fun Ze=>?_))
  ·exact ZC 3 [0] (Zp (Zk none 0 1 (Y4 ha)) (Z0 1 (Zu [2,2,2,2,2,2,2] (Ht b ga gb gc gd ge gf L ln x (hlk:=hk.len) (hd:=hk.down)) (Z1 (Zy 9 (Zo (!Tf L ln x) Ze fl))))))
  exact Z1 (wk [2,2,2,2,2,2,2,0,0] (Zo false Ze fl))
 refine ac ((s.op==8)&&(!Tf L ln x)) (p:=(s.op=8)/\(¬(Tf L ln x=true))) (Yt Zg (Yl Iff.rfl)) (fun Zc=>?_) (fun Zc=>?_)
 ·exact ar (Zl (r1 [] (.inr ⟨rfl,rfl,(by rw [CE,Zb (by rw [hgx];exact Zc)])⟩)))
 have hgo:=Z4o (n:=n) (ln:=ln) (L:=L) (s:=s) (by rw [hgx];exact Zc) hkd
 refine ak (Zq 3 [8,7] (ic [0,0,0,0,0,0,0] (Rv b ga gb gc gd ge gf n s L ln q 0 kd m0 (hkb:=hkd) (harm:=hm0) (hbt:=(hk3 0 kd m0 hkd hm0)) (ih:=ob)) ?_))
 rintro _ _ (⟨c1,wa1,wb1,wc1,wd1,we1,wf1,L'1,rfl,rfl,YR⟩|⟨rfl,rfl,X2⟩)
 ·have hone:=YR
  obtain ⟨l1,l2⟩:=Rl hn hk hq.1 hf hop hkd hm0 (hk3 0 kd m0 hkd hm0) hone
  refine Z1 (Y5 (V9 (ak (Y5 (ab 0 (Y3 (fun fz gz m F h=>∃(k:Nat),(1<=k/\k<=s.kids.length)/\(JN n ln L s.op s.num s.args L'1 (s.kids.drop k) k=JN n ln L s.op s.num s.args L'1 (s.kids.drop 1) 1)/\F=sF [0,4,5,7] fz [(9,.i k)]/\h=gz/\m=s.kids.length-k) _ _ _ ⟨1,ob,ob,rfl,rfl,rfl⟩ (Zy 16 (fc (x:=.i 1) li fl)) ?_))))))
  rintro m F h ⟨k,Yi,Zj,rfl,rfl,rfl⟩
  refine Yr 3 [14] (iw (KF s.kids) (Y2 ((k:Int)<(s.kids.length:Int)) (fun Zi=>?_) (fun Zi=>?_)))
  ·obtain ⟨ke,hke⟩:=Zt s.kids k om
   obtain ⟨mk,hmk⟩:=Zt (W5 n.decls s.op s.num) k om
   have hcs:=Zc6 (n:=n) (ln:=ln) (L:=L) (op:=s.op) (num:=s.num) (args:=s.args) (one:=L'1) hke
   refine ak (aq (ab 1 (Zq 4 [15,14] (ic [7,7,7,7,7,7,7] (Rv b ga gb gc gd ge gf n s L ln q k ke mk (hkb:=hke) (harm:=hmk) (hbt:=(hk3 k ke mk hke hmk)) (ih:=ob)) ?_))))
   rintro _ _ (⟨c2,wa2,wb2,wc2,wd2,we2,wf2,L'2,rfl,rfl,Xk⟩|⟨rfl,rfl,XU⟩)
   ·have htwo:=Xk
    obtain ⟨l3,l4⟩:=Rl hn hk hq.1 hf hop hke hmk (hk3 k ke mk hke hmk) htwo
    refine Z1 (aD 26 (ZY 15 26 [0,1,2,3,4,5,6,7,8,9,10] [14,0] (Z9 11 (Ak 11 [16,2] [] [] [rV wb1 L'1.own,rV wb2 L'2.own] (Z1m L'1.own L'2.own) Gu (gL (v:=wb1) 0 (gL (v:=wb2) 1 gN)) (Jj (Jj Aw)) ?_))))
    rintro _ _ ⟨rfl,rfl⟩
    refine CG [0,4,5,7,9] [(73,.b ((!(decide (L'1.own=L'2.own)))||(!(decide (L'1.tok=L'2.tok)))))] (fun gz=>gz) ?_ ?_
    ·refine Zs 11 14 [12,13,14] (db (b:=(!(decide (L'1.own=L'2.own)))) 62 (fun ZE=>?_) (fun ZE=>?_))
     ·exact Zs 0 11 [15,16,17,18,19,20,21,22,23,24,25] (de (Zy 23 (Zo true ZE fl)))
     refine ZY 3 11 [15,16,17,18,19,20,21,22] [15,2] (Z9 23 (Ak 23 [20,7] [] [] [rV wf1 L'1.tok,rV wf2 L'2.tok] (Z1m L'1.tok L'2.tok) Gu (gL (v:=wf1) 0 (gL (v:=wf2) 1 gN)) (Jj (Jj Aw)) ?_))
     rintro _ _ ⟨rfl,rfl⟩
     exact Zs 0 2 [24,25] (de (wk [2,2,2,2,2,2,2,1,1,1,1,1,1,1,1,1,1,1,1,1,0,0,0] (Zo (!(decide (L'1.tok=L'2.tok))) ZE fl)))
    refine ac ((!(decide (L'1.own=L'2.own)))||(!(decide (L'1.tok=L'2.tok)))) (p:=(¬(L'1.own=L'2.own))∨(¬(L'1.tok=L'2.tok))) (ZZ (Yl dq) (Yl dq)) (fun ZB=>?_) (fun ZB=>?_)
    ·exact ar (Zl (r1 [] (.inr ⟨rfl,rfl,(by rw [hgo,hone];exact RI (by rw [<-Zj,hcs,htwo];exact Zg4 ZB))⟩)))
    exact ak (az (Z0 1 (ZD k (Z1 (ZG ⟨k+1,ob,(by rw [hcs,htwo,Zg5 ZB] at Zj;exact Zj),rfl,rfl,rfl⟩ (wk [15,15,0,14,14,14,14,7,7,7,7,7,7,7,7,7] (ZK k fl)))))))
   have htwo:=XU
   exact Z1 (aD 26 (Zs 0 26 [0,1,2,3,4,5,6,7,8,9,10,11,12,13,14,15,16,17,18,19,20,21,22,23,24,25] (de (Vq (ar (Zl (r1 [] (.inr ⟨rfl,rfl,(by rw [hgo,hone];exact RI (by rw [<-Zj,hcs,htwo];rfl))⟩))))))))
  have hE:JN n ln L s.op s.num s.args L'1 (s.kids.drop 1) 1=true:=by rw [<-Zj,Xp om,JN]
  exact ax 0 (Zq 7 [0] (Zz 7 b [.h ga,.h wb1,.h gc,.h gd,.h ge,.h gf,Z3 ln] (ie (Zq 7 [1] (Zz 0 b [.h ga,.h wb1,.h gc,.h gd,.h ge,.h wf1,Z3 ln] (ie (ar (Zl (r1 [0,7,2,7,7,7,5] (.inl ⟨ga,wb1,gc,gd,ge,wf1,(ZO.mk L.vars L'1.own L.par L.con L.fst L'1.tok),rfl,rfl,(by rw [hgo,hone];exact Zd2 hE)⟩) (eq:=(rc (rv (xs:=L.vars) ob (rv (xs:=L'1.own) ob (rv (xs:=L.par) ob (rv (xs:=L.con) ob (rv (xs:=L.fst) ob (rv (xs:=L'1.tok) ob rz)))))))))))))))))
 have hone:=X2
 exact Z1 (Y5 (Vq (ar (Zl (r1 [] (.inr ⟨rfl,rfl,(by rw [hgo,hone];rfl)⟩))))))
theorem Rw (b:Nat) (ga:Hd) (gb:Hd) (gc:Hd) (gd:Hd) (ge:Hd) (gf:Hd) (n:ZH) (s:Z7) (L:ZO) (ln:LI) (q:Int) (hn:Xz n:=by exact ob) (hk:XN n.decls L q:=by exact ob) (ht:0<=X1 n L.vars s:=by exact ob) (hb:L.vars.length+4*s.sz<=1000000000:=by exact ob) (hq:0<=q/\q+4*s.sz<=999999990:=by exact ob) (hln:ln.length<=4294967296:=by exact ob) (ih:∀(b2:Za) (c:Nat) (ra:Hd) (rb:Hd) (rc:Hd) (rd:Hd) (re:Hd) (rf:Hd) (M:ZO) (mm:Nat) (p:Int),(b2.sz<s.sz)->(XN n.decls M p)->(0<=W7 n M.vars b2)->(mm<=M.vars.length)->(M.vars.length+4*b2.sz<=1000000000)->(0<=p/\p+4*b2.sz<=999999990)->Zm 227 [.p c 0,YH n,Yp b2,.i mm] [.obj c [.h ra,.h rb,.h rc,.h rd,.h re,.h rf,Z3 ln],rV ra M.vars,rV rb M.own,rV rc M.par,rV rd M.con,rV re M.fst,rV rf M.tok] (fun r h=>(∃(wa:Hd) (wb:Hd) (wc:Hd) (wd:Hd) (we:Hd) (wf:Hd) (M':ZO),r=.b true/\h=[.obj c [.h wa,.h wb,.h wc,.h wd,.h we,.h wf,Z3 ln],rV wa M'.vars,rV wb M'.own,rV wc M'.par,rV wd M'.con,rV we M'.fst,rV wf M'.tok]/\U8 n ln M mm b2=some M')∨(r=.b false/\h=[]/\U8 n ln M mm b2=none))):Zm 144 [.p b 0,YH n,X5 s] [.obj b [.h ga,.h gb,.h gc,.h gd,.h ge,.h gf,Z3 ln],rV ga L.vars,rV gb L.own,rV gc L.par,rV gd L.con,rV ge L.fst,rV gf L.tok] (fun r h=>(∃(wa:Hd) (wb:Hd) (wc:Hd) (wd:Hd) (we:Hd) (wf:Hd) (L':ZO),r=.b true/\h=[.obj b [.h wa,.h wb,.h wc,.h wd,.h we,.h wf,Z3 ln],rV wa L'.vars,rV wb L'.own,rV wc L'.par,rV wd L'.con,rV we L'.fst,rV wf L'.tok]/\QU n ln L s=some L')∨(r=.b false/\h=[]/\QU n ln L s=none)):=by
 obtain ⟨e1,e2,e3,e4,e5⟩:=hk.len
 have Xr:=hn.decls
 have hkz:=Ki s
 have haz:=JB s
 have hf:=Z22 ht
 refine ZF 89 Tryz.func144 (ar (iA (Xb n) fun b1=>iA (Wf s) fun b2=>Z1 (aD 8 (ZY 2 8 [0,1,2,3,4,5] [1,2,0] (Z9 6 (Ak 6 [3] [] [] [rV ga L.vars] (N3 n L.vars s ob ob) Gu (gS (gL (v:=ga) 0 (gS gN))) (Jj Aw) ?_))))))
 rintro _ _ ⟨rfl,rfl⟩
 refine Zs 0 1 [7] (de (Y0 (Xh (WQ [1] (ab 0 (ar (Yx (s.op==14) Zg (fun Zc=>?_) (fun Zc=>?_))))))))
 ·obtain ⟨x,hxa⟩:=hf.one om
  have ha:s.args[0]? = some x:=by rw [hxa];rfl
  have hx:=hf.args x (by rw [hxa];simp)
  have hgx:=QI ha
  have hal:=(X4.1 ha).1
  obtain ⟨xo,hxo⟩:=Zt L.own x.toNat om
  have hgo:=Tp hxo
  have hob:=hk.bd xo (Y1 hxo)
  have hon:=hk.nn xo (Y1 hxo)
  refine Zq 3 [1] (Zp (Zk none 0 1 (Y4 ha)) (Z0 1 (Zu [3,0,2,2,2,2,2] (Ht b ga gb gc gd ge gf L ln x (hlk:=hk.len) (hd:=hk.down)) (Z1 (aE 21 (ZY 15 21 [0,1,2,3,4,5] [0,7] (dx 6 (Zk none 0 1 (Y4 ha)) (ZY 7 14 [7,8,9,10,11,12,13] [0,7] (dx 14 (Zk none 0 1 (Y4 ha)) (Zs 5 6 [15] (dx 16 (Uh 2 gb L.own x x.toNat (hq:=rfl)) (Uz 17 (Qy 2 gb L.own x.toNat xo hxo) (da 18 ((xo+1)) ((xo)+(1)) (dx 19 (Uh 2 gb L.own x x.toNat (hq:=rfl)) (Z9 20 (CH 20 2 [] [] gb L.own x.toNat (xo+1) (de (Xh (Yx (!Tf L ln x) (p:=¬(Tf L ln x=true)) (Yl Iff.rfl) (fun Zi=>?_) (fun Zi=>?_))))))))))))))))))))
  ·have hP:=(Sf (n:=n) (ln:=ln) (L:=L) Zc hgx).trans (Z60 Zi)
   exact ar (Zl (r1 [] (.inr ⟨rfl,rfl,(by rw [Tv,hP];first|rfl|exact Tl (by assumption)|exact Tm (by assumption) (by assumption)|exact Tn (by assumption))⟩)))
  have hP:=(Sf (n:=n) (ln:=ln) (L:=L) Zc hgx).trans (Z61 Zi hgo)
  obtain ⟨kx,hxv⟩:=Fy hn hk hq.1 hf hP
  refine ak (Yr 2 [7] (Zu [] (Kv s.op) (Xs [0,5,7] [(80,.b (Xj s.op&&((X1 n L.vars s) != 0)))] (fun gz=>gz) ?_ ?_)))
  ·refine Z0 1 (ib (b:=Xj s.op) 77 (fun Ze=>?_) (fun Ze=>?_))
   ·exact Z1 (Zy 9 (Zo ((X1 n L.vars s) != 0) Ze fl))
   exact Z1 (Zy 9 (Zo false Ze fl))
  refine ac (Xj s.op&&((X1 n L.vars s) != 0)) (p:=(Xj s.op=true)/\((X1 n L.vars s)≠0)) (Yt Iff.rfl Yn) (fun ZB=>?_) (fun ZB=>?_)
  ·refine az (Z0 2 (ic [1,1,0,0,0,0,0] (KL b ga gb gc gd ge gf (ZO.mk L.vars (L.own.set x.toNat (xo+1)) L.par L.con L.fst L.tok) ln (X1 n L.vars s) 1 (-1) (hlb:=(by rw [hxv];omega)) (hlk:=kx.len)) ?_))
   rintro _ _ ⟨wa1,wb1,wc1,wd1,we1,wf1,rfl⟩
   exact ie (ar (Zl (r1 [0,0,0,0,0,0,0] (.inl ⟨wa1,wb1,wc1,wd1,we1,wf1,((ZO.mk L.vars (L.own.set x.toNat (xo+1)) L.par L.con L.fst L.tok).grow (X1 n L.vars s) 1 (-1)),rfl,rfl,(by rw [Tv,hP];first|rfl|exact Tl (by assumption)|exact Tm (by assumption) (by assumption)|exact Tn (by assumption))⟩))))
  refine Zq 2 [7] (Zu [] (Kv s.op) (ie (ac (Xj s.op) Iff.rfl (fun Y7=>?_) (fun Y7=>?_))))
  ·refine az (Z0 1 (ic [1,1,0,0,0,0,0] (KL b ga gb gc gd ge gf (ZO.mk L.vars (L.own.set x.toNat (xo+1)) L.par L.con L.fst L.tok) ln 0 0 (-1) (hlb:=(by rw [hxv];omega)) (hlk:=kx.len)) ?_))
   rintro _ _ ⟨wa2,wb2,wc2,wd2,we2,wf2,rfl⟩
   exact ie (ar (Zl (r1 [0,0,0,0,0,0,0] (.inl ⟨wa2,wb2,wc2,wd2,we2,wf2,((ZO.mk L.vars (L.own.set x.toNat (xo+1)) L.par L.con L.fst L.tok).grow 0 0 (-1)),rfl,rfl,(by rw [Tv,hP];first|rfl|exact Tl (by assumption)|exact Tm (by assumption) (by assumption)|exact Tn (by assumption))⟩))))
  exact ak (ar (Zl (r1 [1,1,0,0,0,0,0] (.inl ⟨ga,gb,gc,gd,ge,gf,(ZO.mk L.vars (L.own.set x.toNat (xo+1)) L.par L.con L.fst L.tok),rfl,rfl,(by rw [Tv,hP];first|rfl|exact Tl (by assumption)|exact Tm (by assumption) (by assumption)|exact Tn (by assumption))⟩) (eq:=(rc (rv (xs:=L.vars) ob (rv (xs:=(L.own.set x.toNat (xo+1))) ob (rv (xs:=L.par) ob (rv (xs:=L.con) ob (rv (xs:=L.fst) ob (rv (xs:=L.tok) ob rz)))))))))))
 refine ar (Yx (s.op==15) Zg (fun YM=>?_) (fun YM=>?_))
 ·obtain ⟨x,hxa⟩:=hf.one om
  have ha:s.args[0]? = some x:=by rw [hxa];rfl
  have hx:=hf.args x (by rw [hxa];simp)
  have hgx:=QI ha
  have hal:=(X4.1 ha).1
  refine az (ZC 3 [1] (Zp (Zk none 0 1 (Y4 ha)) (Z0 1 (ic [3,0,2,2,2,2,2] (Hu b ga gb gc gd ge gf L ln x (hlk:=hk.len) (hq:=(fun y hy=>⟨hk.nn y hy,by have:=hk.bd y hy;omega⟩))) ?_))))
  rintro _ _ (⟨wa3,wb3,wc3,wd3,we3,wf3,L'1,rfl,rfl,YR⟩|⟨rfl,rfl,X2⟩)
  ·have hP:=(Sh (n:=n) (ln:=ln) (L:=L) YM hgx).trans (YR)
   obtain ⟨kx,hxv⟩:=Fy hn hk hq.1 hf hP
   refine Z1 (Y5 (V9 (ak (Yr 2 [7] (Zu [] (Kv s.op) (Xs [0,5,7] [(80,.b (Xj s.op&&((X1 n L.vars s) != 0)))] (fun gz=>gz) ?_ ?_))))))
   ·refine Z0 1 (ib (b:=Xj s.op) 77 (fun ZE=>?_) (fun ZE=>?_))
    ·exact Z1 (Zy 9 (Zo ((X1 n L.vars s) != 0) ZE fl))
    exact Z1 (Zy 9 (Zo false ZE fl))
   refine ac (Xj s.op&&((X1 n L.vars s) != 0)) (p:=(Xj s.op=true)/\((X1 n L.vars s)≠0)) (Yt Iff.rfl Yn) (fun YZ=>?_) (fun YZ=>?_)
   ·refine az (Z0 2 (ic [0,0,0,0,0,0,0] (KL b wa3 wb3 wc3 wd3 we3 wf3 L'1 ln (X1 n L.vars s) 1 (-1) (hlb:=(by rw [hxv];omega)) (hlk:=kx.len)) ?_))
    rintro _ _ ⟨wa4,wb4,wc4,wd4,we4,wf4,rfl⟩
    exact ie (ar (Zl (r1 [0,0,0,0,0,0,0] (.inl ⟨wa4,wb4,wc4,wd4,we4,wf4,(L'1.grow (X1 n L.vars s) 1 (-1)),rfl,rfl,(by rw [Tv,hP];first|rfl|exact Tl (by assumption)|exact Tm (by assumption) (by assumption)|exact Tn (by assumption))⟩))))
   refine Zq 2 [7] (Zu [] (Kv s.op) (ie (ac (Xj s.op) Iff.rfl (fun WB=>?_) (fun WB=>?_))))
   ·refine az (Z0 1 (ic [0,0,0,0,0,0,0] (KL b wa3 wb3 wc3 wd3 we3 wf3 L'1 ln 0 0 (-1) (hlb:=(by rw [hxv];omega)) (hlk:=kx.len)) ?_))
    rintro _ _ ⟨wa5,wb5,wc5,wd5,we5,wf5,rfl⟩
    exact ie (ar (Zl (r1 [0,0,0,0,0,0,0] (.inl ⟨wa5,wb5,wc5,wd5,we5,wf5,(L'1.grow 0 0 (-1)),rfl,rfl,(by rw [Tv,hP];first|rfl|exact Tl (by assumption)|exact Tm (by assumption) (by assumption)|exact Tn (by assumption))⟩))))
   exact ak (ar (Zl (r1 [0,0,0,0,0,0,0] (.inl ⟨wa3,wb3,wc3,wd3,we3,wf3,L'1,rfl,rfl,(by rw [Tv,hP];first|rfl|exact Tl (by assumption)|exact Tm (by assumption) (by assumption)|exact Tn (by assumption))⟩))))
  have hP:=(Sh (n:=n) (ln:=ln) (L:=L) YM hgx).trans (X2)
  exact Z1 (Y5 (Vq (ar (Zl (r1 [] (.inr ⟨rfl,rfl,(by rw [Tv,hP];first|rfl|exact Tl (by assumption)|exact Tm (by assumption) (by assumption)|exact Tn (by assumption))⟩))))))
 refine Y5 (Xy (fun fz gz F h=>F=sF [0,4,5,7,17] fz [(58,.b ((s.op==16)||(s.op==17)))]/\h=gz) ?_ ?_)
 ·refine ac (s.op==16) Zg (fun VL=>?_) (fun VL=>?_)
  ·exact ak (ZJ ⟨rfl,rfl⟩ (Zy 9 (fc (x:=.b (s.op==16)) (lb (by first|rfl|(rw [Zb VL])|(rw [Z5 VL])|(simp [VL];done)|(rw [Ye];simp [VL];done)|omega)) fl)))
  exact Vk (ZJ ⟨rfl,rfl⟩ (Zy 9 (fc (x:=.b (s.op==17)) (lb (by first|rfl|(rw [Zb VL])|(rw [Z5 VL])|(simp [VL];done)|(rw [Ye];simp [VL];done)|omega)) fl)))
 rintro F h ⟨rfl,rfl⟩
 refine ac ((s.op==16)||(s.op==17)) (p:=(s.op=16)∨(s.op=17)) (ZZ Zg Zg) (fun Vc=>?_) (fun Vc=>?_)
 ·obtain ⟨x,hxa⟩:=hf.one om
  have ha:s.args[0]? = some x:=by rw [hxa];rfl
  have hx:=hf.args x (by rw [hxa];simp)
  have hgx:=QI ha
  have hal:=(X4.1 ha).1
  refine az (ZC 3 [2,1] (ic [3,0,2,2,2,2,2] (Zcp b ga gb gc gd ge gf n s L ln q x) ?_))
  rintro _ _ (⟨wa6,wb6,wc6,wd6,we6,wf6,L'2,rfl,rfl,Wi⟩|⟨rfl,rfl,V6⟩)
  ·have hP:=(Si (n:=n) (ln:=ln) (L:=L) Vc hgx).trans (Wi)
   obtain ⟨kx,hxv⟩:=Fy hn hk hq.1 hf hP
   refine Z1 (Y5 (V9 (ak (Yr 2 [7] (Zu [] (Kv s.op) (Xs [0,5,7] [(80,.b (Xj s.op&&((X1 n L.vars s) != 0)))] (fun gz=>gz) ?_ ?_))))))
   ·refine Z0 1 (ib (b:=Xj s.op) 77 (fun Ym=>?_) (fun Ym=>?_))
    ·exact Z1 (Zy 9 (Zo ((X1 n L.vars s) != 0) Ym fl))
    exact Z1 (Zy 9 (Zo false Ym fl))
   refine ac (Xj s.op&&((X1 n L.vars s) != 0)) (p:=(Xj s.op=true)/\((X1 n L.vars s)≠0)) (Yt Iff.rfl Yn) (fun Vu=>?_) (fun Vu=>?_)
   ·refine az (Z0 2 (ic [0,0,0,0,0,0,0] (KL b wa6 wb6 wc6 wd6 we6 wf6 L'2 ln (X1 n L.vars s) 1 (-1) (hlb:=(by rw [hxv];omega)) (hlk:=kx.len)) ?_))
    rintro _ _ ⟨wa7,wb7,wc7,wd7,we7,wf7,rfl⟩
    exact ie (ar (Zl (r1 [0,0,0,0,0,0,0] (.inl ⟨wa7,wb7,wc7,wd7,we7,wf7,(L'2.grow (X1 n L.vars s) 1 (-1)),rfl,rfl,(by rw [Tv,hP];first|rfl|exact Tl (by assumption)|exact Tm (by assumption) (by assumption)|exact Tn (by assumption))⟩))))
   refine Zq 2 [7] (Zu [] (Kv s.op) (ie (ac (Xj s.op) Iff.rfl (fun TD=>?_) (fun TD=>?_))))
   ·refine az (Z0 1 (ic [0,0,0,0,0,0,0] (KL b wa6 wb6 wc6 wd6 we6 wf6 L'2 ln 0 0 (-1) (hlb:=(by rw [hxv];omega)) (hlk:=kx.len)) ?_))
    rintro _ _ ⟨wa8,wb8,wc8,wd8,we8,wf8,rfl⟩
    exact ie (ar (Zl (r1 [0,0,0,0,0,0,0] (.inl ⟨wa8,wb8,wc8,wd8,we8,wf8,(L'2.grow 0 0 (-1)),rfl,rfl,(by rw [Tv,hP];first|rfl|exact Tl (by assumption)|exact Tm (by assumption) (by assumption)|exact Tn (by assumption))⟩))))
   exact ak (ar (Zl (r1 [0,0,0,0,0,0,0] (.inl ⟨wa6,wb6,wc6,wd6,we6,wf6,L'2,rfl,rfl,(by rw [Tv,hP];first|rfl|exact Tl (by assumption)|exact Tm (by assumption) (by assumption)|exact Tn (by assumption))⟩))))
  have hP:=(Si (n:=n) (ln:=ln) (L:=L) Vc hgx).trans (V6)
  exact Z1 (Y5 (Vq (ar (Zl (r1 [] (.inr ⟨rfl,rfl,(by rw [Tv,hP];first|rfl|exact Tl (by assumption)|exact Tm (by assumption) (by assumption)|exact Tn (by assumption))⟩))))))
 refine Y5 (Xy (fun fz gz F h=>F=sF [0,4,5,7] fz [(65,.b ((s.op==7)||(s.op==8)))]/\h=gz) ?_ ?_)
 ·refine ac (s.op==7) Zg (fun Vv=>?_) (fun Vv=>?_)
  ·exact ak (ZJ ⟨rfl,rfl⟩ (Zy 9 (fc (x:=.b (s.op==7)) (lb (by first|rfl|(rw [Zb Vv])|(rw [Z5 Vv])|(simp [Vv];done)|(rw [Ye];simp [Vv];done)|omega)) fl)))
  exact Vk (ZJ ⟨rfl,rfl⟩ (Zy 9 (fc (x:=.b (s.op==8)) (lb (by first|rfl|(rw [Zb Vv])|(rw [Z5 Vv])|(simp [Vv];done)|(rw [Ye];simp [Vv];done)|omega)) fl)))
 rintro F h ⟨rfl,rfl⟩
 refine ac ((s.op==7)||(s.op==8)) (p:=(s.op=7)∨(s.op=8)) (ZZ Zg Zg) (fun Q5=>?_) (fun Q5=>?_)
 ·refine az (ZC 3 [2,1] (ic [3,0,2,2,2,2,2] (Zcm b ga gb gc gd ge gf n s L ln q (ih:=ob)) ?_))
  rintro _ _ (⟨wa9,wb9,wc9,wd9,we9,wf9,L'3,rfl,rfl,TE⟩|⟨rfl,rfl,T6⟩)
  ·have hP:=(Sj (n:=n) (ln:=ln) (L:=L) Q5).trans (TE)
   obtain ⟨kx,hxv⟩:=Fy hn hk hq.1 hf hP
   refine Z1 (Y5 (V9 (ak (Yr 2 [7] (Zu [] (Kv s.op) (Xs [0,5,7] [(80,.b (Xj s.op&&((X1 n L.vars s) != 0)))] (fun gz=>gz) ?_ ?_))))))
   ·refine Z0 1 (ib (b:=Xj s.op) 77 (fun X7=>?_) (fun X7=>?_))
    ·exact Z1 (Zy 9 (Zo ((X1 n L.vars s) != 0) X7 fl))
    exact Z1 (Zy 9 (Zo false X7 fl))
   refine ac (Xj s.op&&((X1 n L.vars s) != 0)) (p:=(Xj s.op=true)/\((X1 n L.vars s)≠0)) (Yt Iff.rfl Yn) (fun CX=>?_) (fun CX=>?_)
   ·refine az (Z0 2 (ic [0,0,0,0,0,0,0] (KL b wa9 wb9 wc9 wd9 we9 wf9 L'3 ln (X1 n L.vars s) 1 (-1) (hlb:=(by rw [hxv];omega)) (hlk:=kx.len)) ?_))
    rintro _ _ ⟨wa10,wb10,wc10,wd10,we10,wf10,rfl⟩
    exact ie (ar (Zl (r1 [0,0,0,0,0,0,0] (.inl ⟨wa10,wb10,wc10,wd10,we10,wf10,(L'3.grow (X1 n L.vars s) 1 (-1)),rfl,rfl,(by rw [Tv,hP];first|rfl|exact Tl (by assumption)|exact Tm (by assumption) (by assumption)|exact Tn (by assumption))⟩))))
   refine Zq 2 [7] (Zu [] (Kv s.op) (ie (ac (Xj s.op) Iff.rfl (fun F3=>?_) (fun F3=>?_))))
   ·refine az (Z0 1 (ic [0,0,0,0,0,0,0] (KL b wa9 wb9 wc9 wd9 we9 wf9 L'3 ln 0 0 (-1) (hlb:=(by rw [hxv];omega)) (hlk:=kx.len)) ?_))
    rintro _ _ ⟨wa11,wb11,wc11,wd11,we11,wf11,rfl⟩
    exact ie (ar (Zl (r1 [0,0,0,0,0,0,0] (.inl ⟨wa11,wb11,wc11,wd11,we11,wf11,(L'3.grow 0 0 (-1)),rfl,rfl,(by rw [Tv,hP];first|rfl|exact Tl (by assumption)|exact Tm (by assumption) (by assumption)|exact Tn (by assumption))⟩))))
   exact ak (ar (Zl (r1 [0,0,0,0,0,0,0] (.inl ⟨wa9,wb9,wc9,wd9,we9,wf9,L'3,rfl,rfl,(by rw [Tv,hP];first|rfl|exact Tl (by assumption)|exact Tm (by assumption) (by assumption)|exact Tn (by assumption))⟩))))
  have hP:=(Sj (n:=n) (ln:=ln) (L:=L) Q5).trans (T6)
  exact Z1 (Y5 (Vq (ar (Zl (r1 [] (.inr ⟨rfl,rfl,(by rw [Tv,hP];first|rfl|exact Tl (by assumption)|exact Tm (by assumption) (by assumption)|exact Tn (by assumption))⟩))))))
 refine az (ZC 3 [2,1] (ic [3,0,2,2,2,2,2] (Zco b ga gb gc gd ge gf n s L ln q (hnum:=hf.num) (hargs:=hf.args) (hinto:=(fun q=>(hf.into om).2))) ?_))
 rintro _ _ (⟨wa12,wb12,wc12,wd12,we12,wf12,L'4,rfl,rfl,JL⟩|⟨rfl,rfl,JM⟩)
 ·have hP:=(Sk (n:=n) (ln:=ln) (L:=L) Zc YM Vc Q5).trans (JL)
  obtain ⟨kx,hxv⟩:=Fy hn hk hq.1 hf hP
  refine Z1 (Y5 (V9 (ak (Yr 2 [7] (Zu [] (Kv s.op) (Xs [0,5,7] [(80,.b (Xj s.op&&((X1 n L.vars s) != 0)))] (fun gz=>gz) ?_ ?_))))))
  ·refine Z0 1 (ib (b:=Xj s.op) 77 (fun XY=>?_) (fun XY=>?_))
   ·exact Z1 (Zy 9 (Zo ((X1 n L.vars s) != 0) XY fl))
   exact Z1 (Zy 9 (Zo false XY fl))
  refine ac (Xj s.op&&((X1 n L.vars s) != 0)) (p:=(Xj s.op=true)/\((X1 n L.vars s)≠0)) (Yt Iff.rfl Yn) (fun KI=>?_) (fun KI=>?_)
  ·refine az (Z0 2 (ic [0,0,0,0,0,0,0] (KL b wa12 wb12 wc12 wd12 we12 wf12 L'4 ln (X1 n L.vars s) 1 (-1) (hlb:=(by rw [hxv];omega)) (hlk:=kx.len)) ?_))
   rintro _ _ ⟨wa13,wb13,wc13,wd13,we13,wf13,rfl⟩
   exact ie (ar (Zl (r1 [0,0,0,0,0,0,0] (.inl ⟨wa13,wb13,wc13,wd13,we13,wf13,(L'4.grow (X1 n L.vars s) 1 (-1)),rfl,rfl,(by rw [Tv,hP];first|rfl|exact Tl (by assumption)|exact Tm (by assumption) (by assumption)|exact Tn (by assumption))⟩))))
  refine Zq 2 [7] (Zu [] (Kv s.op) (ie (ac (Xj s.op) Iff.rfl (fun KJ=>?_) (fun KJ=>?_))))
  ·refine az (Z0 1 (ic [0,0,0,0,0,0,0] (KL b wa12 wb12 wc12 wd12 we12 wf12 L'4 ln 0 0 (-1) (hlb:=(by rw [hxv];omega)) (hlk:=kx.len)) ?_))
   rintro _ _ ⟨wa14,wb14,wc14,wd14,we14,wf14,rfl⟩
   exact ie (ar (Zl (r1 [0,0,0,0,0,0,0] (.inl ⟨wa14,wb14,wc14,wd14,we14,wf14,(L'4.grow 0 0 (-1)),rfl,rfl,(by rw [Tv,hP];first|rfl|exact Tl (by assumption)|exact Tm (by assumption) (by assumption)|exact Tn (by assumption))⟩))))
  exact ak (ar (Zl (r1 [0,0,0,0,0,0,0] (.inl ⟨wa12,wb12,wc12,wd12,we12,wf12,L'4,rfl,rfl,(by rw [Tv,hP];first|rfl|exact Tl (by assumption)|exact Tm (by assumption) (by assumption)|exact Tn (by assumption))⟩))))
 have hP:=(Sk (n:=n) (ln:=ln) (L:=L) Zc YM Vc Q5).trans (JM)
 exact Z1 (Y5 (Vq (ar (Zl (r1 [] (.inr ⟨rfl,rfl,(by rw [Tv,hP];first|rfl|exact Tl (by assumption)|exact Tm (by assumption) (by assumption)|exact Tn (by assumption))⟩))))))
theorem Zck (c:Nat) (ga:Hd) (gb:Hd) (gc:Hd) (gd:Hd) (ge:Hd) (gf:Hd) (n:ZH) (b:Za) (L:ZO) (ln:LI) (q:Int) (mm:Nat) (hn:Xz n) (hk:XN n.decls L q) (ht:0<=W7 n L.vars b) (hm:mm<=L.vars.length) (hb:L.vars.length+4*b.sz<=1000000000) (hq:0<=q/\q+4*b.sz<=999999990) (hln:ln.length<=4294967296) (ih:∀(s2:Z7) (c:Nat) (ra:Hd) (rb:Hd) (rc:Hd) (rd:Hd) (re:Hd) (rf:Hd) (M:ZO) (p:Int),(s2.sz<b.sz)->(XN n.decls M p)->(0<=X1 n M.vars s2)->(M.vars.length+4*s2.sz<=1000000000)->(0<=p/\p+4*s2.sz<=999999990)->Zm 144 [.p c 0,YH n,X5 s2] [.obj c [.h ra,.h rb,.h rc,.h rd,.h re,.h rf,Z3 ln],rV ra M.vars,rV rb M.own,rV rc M.par,rV rd M.con,rV re M.fst,rV rf M.tok] (fun r h=>(∃(wa:Hd) (wb:Hd) (wc:Hd) (wd:Hd) (we:Hd) (wf:Hd) (M':ZO),r=.b true/\h=[.obj c [.h wa,.h wb,.h wc,.h wd,.h we,.h wf,Z3 ln],rV wa M'.vars,rV wb M'.own,rV wc M'.par,rV wd M'.con,rV we M'.fst,rV wf M'.tok]/\QU n ln M s2=some M')∨(r=.b false/\h=[]/\QU n ln M s2=none))):Zm 227 [.p c 0,YH n,Yp b,.i mm] [.obj c [.h ga,.h gb,.h gc,.h gd,.h ge,.h gf,Z3 ln],rV ga L.vars,rV gb L.own,rV gc L.par,rV gd L.con,rV ge L.fst,rV gf L.tok] (fun r h=>(∃(wa:Hd) (wb:Hd) (wc:Hd) (wd:Hd) (we:Hd) (wf:Hd) (L':ZO),r=.b true/\h=[.obj c [.h wa,.h wb,.h wc,.h wd,.h we,.h wf,Z3 ln],rV wa L'.vars,rV wb L'.own,rV wc L'.par,rV wd L'.con,rV we L'.fst,rV wf L'.tok]/\U8 n ln L mm b=some L')∨(r=.b false/\h=[]/\U8 n ln L mm b=none)):=by
 have hbz:=b.sz_eq
 obtain ⟨vs,rt,hvs,hres,hrt⟩:=NW ht
 have hri:=Dv hres
 have XS:=UG b
 refine ZF 45 Tryz.func227 (ar (iA (Xb n) fun b1=>iA (W3 b) fun b2=>?_))
 refine Z1 (Y5 (ab 0 (Y3 (fun fz gz m F h=>∃(k:Nat) (q2:Int) (L2:ZO) (ka:Hd) (kb:Hd) (kc:Hd) (kd:Hd) (ke:Hd) (kf:Hd),(k<=b.steps.length)/\(XN n.decls L2 q2)/\(0<=q2/\q2+4*Yy (b.steps.drop k)<=999999990)/\(L2.vars.length+4*Yy (b.steps.drop k)<=1000000000)/\(UF n (b.steps.drop k) L2.vars=some vs)/\(JW n ln L2 (b.steps.drop k)=JW n ln L b.steps)/\(L.vars.length<=L2.vars.length)/\F=sF [0,3,5,6] fz [(9,.i k)]/\h=[Zh gz 0,Zh gz 1,.obj c [.h ka,.h kb,.h kc,.h kd,.h ke,.h kf,Z3 ln],rV ka L2.vars,rV kb L2.own,rV kc L2.par,rV kd L2.con,rV ke L2.fst,rV kf L2.tok]/\m=b.steps.length-k) _ _ _ ⟨0,q,L,ga,gb,gc,gd,ge,gf,ob,hk,(by rw [Cl];omega),(by rw [Cl];omega),hvs,rfl,om,rfl,rfl,rfl⟩ (Zy 9 (Yf fl)) ?_)))
 rintro m F h ⟨k,q2,L2,ka,kb,kc,kd,ke,kf,Yi,Zj,Zw,YO,Wk,K6,O1,rfl,rfl,rfl⟩
 refine Yr 3 [0] (iw (UJ b.steps) (Y2 ((k:Int)<(b.steps.length:Int)) (fun Zc=>?_) (fun Zc=>?_)))
 ·obtain ⟨s1,hs1⟩:=Zt b.steps k om
  have hss:=Et hs1
  have hdr:=Yj hs1
  have hz:Yy (b.steps.drop k)=s1.sz+Yy (b.steps.drop (k+1)):=by rw [hdr,Yy]
  rw [hdr] at Wk K6
  obtain ⟨g1,g2⟩:=Z24 Wk
  refine ak (aq (ab 1 (aD 9 (ZY 4 9 [0,1,2,3,4] [1,0] (dx 5 (Zk none (k:Int) 5 (Va hs1)) (Zs 2 3 [6] (Z9 7 (dc 7 [2,2,2,2,2,2,2] [] [] (ih s1 c ka kb kc kd ke kf L2 q2 ob Zj g1 om om) ?_))))))))
  rintro _ _ (⟨wa1,wb1,wc1,wd1,we1,wf1,M'1,rfl,rfl,Ya⟩|⟨rfl,rfl,Ys⟩)
  ·have hP:=Ya
   have kx:=Z21 hn Zj Zw.1 g1 hP
   exact Zs 0 1 [8] (de (V9 (ak (az (Z0 1 (ZD k (Z1 (ZG ⟨k+1,(q2+4*s1.sz),M'1,wa1,wb1,wc1,wd1,we1,wf1,ob,kx.1,om,(by rw [kx.2];have:=Z0w n L2.vars s1;omega),(by rw [kx.2];exact g2),(by rw [<-K6,JW,hP];rfl),(by rw [kx.2];have:=Z0w n L2.vars s1;omega),rfl,rfl,rfl⟩ (wk [7,7,0,0,0,0,0,0,0] (ZK k fl))))))))))
  have hP:=Ys
  exact Zs 0 1 [8] (de (Vq (ar (Zl (r1 [] (.inr ⟨rfl,rfl,(by rw [IK,<-K6,JW,hP];rfl)⟩))))))
 rw [Xp om] at Wk K6
 have hvv:L2.vars=vs:=by rw [UF] at Wk;exact AJ Wk
 have hB:U8 n ln L mm b=Ap mm b.result L2:=by rw [IK,<-K6,JW];rfl
 obtain ⟨xr,hxr⟩:=Zt L2.vars b.result.toNat (by rw [hvv];omega)
 have hgr:=Tp hxr
 have hrl:0<=b.result/\b.result<L2.vars.length:=by rw [hvv];omega
 rw [UF] at Wk
 refine ax 0 (aq (aD 16 (ZY 10 16 [0,1,2,3,4,5] [2,0] (dx 6 (Uh 3 ka L2.vars b.result b.result.toNat (hq:=rfl)) (Uz 7 (Qy 3 ka L2.vars b.result.toNat xr hxr) (Zs 6 8 [8,9] (db (b:=(xr != 0)) 35 (fun Ze=>?_) (fun Ze=>?_))))))))
 ·have YR:xr≠0:=(Yn).1 Ze
  refine ZY 3 6 [10,11,12] [0] (Z9 13 (dc 13 [2,2,2,2,2,2,2] [] [] (Hu c ka kb kc kd ke kf L2 ln b.result (hlk:=Zj.len) (hq:=(fun y hy=>⟨Zj.nn y hy,by have:=Zj.bd y hy;omega⟩))) ?_))
  rintro _ _ (⟨wa2,wb2,wc2,wd2,we2,wf2,L'1,rfl,rfl,X2⟩|⟨rfl,rfl,Xk⟩)
  ·have hE:=hB.trans (Z6n hgr (by assumption) X2)
   have kx:=Zj.take X2
   have hxv:L'1.vars.length=L2.vars.length:=by rw [(JX X2).2.1]
   refine Zs 0 2 [14,15] (de (V9 (ak (Yc 2 (ic [0,0,0,0,0,0,0] (Ru c wa2 wb2 wc2 wd2 we2 wf2 L'1 ln mm (hlk:=(by first|exact kx.len|exact Zj.len)) (hlb:=om) (hm:=om)) ?_)))))
   rintro _ _ (⟨wa3,wb3,wc3,wd3,we3,wf3,L'2,rfl,rfl,XU⟩|⟨rfl,rfl,Wi⟩)
   ·exact Zl (r1 [0,0,0,0,0,0,0] (.inl ⟨wa3,wb3,wc3,wd3,we3,wf3,L'2,rfl,rfl,(by first|exact hE|(rw [hE];exact XU)|(rw [hB,ER hgr (by assumption)];exact XU))⟩))
   exact Zl (r1 [] (.inr ⟨rfl,rfl,(by first|exact hE|(rw [hE];exact Wi)|(rw [hB,ER hgr (by assumption)];exact Wi))⟩))
  have hE:=hB.trans (Z6m hgr (by assumption) Xk)
  exact Zs 0 2 [14,15] (de (Vq (ar (Zl (r1 [] (.inr ⟨rfl,rfl,(by first|exact hE|(rw [hE];exact Xk)|(rw [hB,ER hgr (by assumption)];exact Xk))⟩))))))
 have V6:¬(xr≠0):=Y9 Yn Ze
 refine Zs 0 6 [10,11,12,13,14,15] (de (V9 (ak (Yc 2 (ic [2,2,2,2,2,2,2] (Ru c ka kb kc kd ke kf L2 ln mm (hlk:=(by first|exact kx.len|exact Zj.len)) (hlb:=om) (hm:=om)) ?_)))))
 rintro _ _ (⟨wa4,wb4,wc4,wd4,we4,wf4,L'3,rfl,rfl,VD⟩|⟨rfl,rfl,T5⟩)
 ·exact Zl (r1 [0,0,0,0,0,0,0] (.inl ⟨wa4,wb4,wc4,wd4,we4,wf4,L'3,rfl,rfl,(by first|exact hE|(rw [hE];exact VD)|(rw [hB,ER hgr (by assumption)];exact VD))⟩))
 exact Zl (r1 [] (.inr ⟨rfl,rfl,(by first|exact hE|(rw [hE];exact T5)|(rw [hB,ER hgr (by assumption)];exact T5))⟩))
theorem Zcl (n:ZH) (ln:LI) (hn:Xz n) (hln:ln.length<=4294967296) (m:Nat):∀(b2:Za) (c:Nat) (ra:Hd) (rb:Hd) (rc:Hd) (rd:Hd) (re:Hd) (rf:Hd) (M:ZO) (mm:Nat) (p:Int),(b2.sz<m+1)->(XN n.decls M p)->(0<=W7 n M.vars b2)->(mm<=M.vars.length)->(M.vars.length+4*b2.sz<=1000000000)->(0<=p/\p+4*b2.sz<=999999990)->Zm 227 [.p c 0,YH n,Yp b2,.i mm] [.obj c [.h ra,.h rb,.h rc,.h rd,.h re,.h rf,Z3 ln],rV ra M.vars,rV rb M.own,rV rc M.par,rV rd M.con,rV re M.fst,rV rf M.tok] (fun r h=>(∃(wa:Hd) (wb:Hd) (wc:Hd) (wd:Hd) (we:Hd) (wf:Hd) (M':ZO),r=.b true/\h=[.obj c [.h wa,.h wb,.h wc,.h wd,.h we,.h wf,Z3 ln],rV wa M'.vars,rV wb M'.own,rV wc M'.par,rV wd M'.con,rV we M'.fst,rV wf M'.tok]/\U8 n ln M mm b2=some M')∨(r=.b false/\h=[]/\U8 n ln M mm b2=none)):=by
 induction m with
 | zero=>intro b c ga gb gc gd ge gf L mm q h;have:=b.sz_pos;omega
 | succ m ih=>
  intro b c ga gb gc gd ge gf L mm q h1 hk ht hm hb hp
  exact Zck c ga gb gc gd ge gf n b L ln q mm hn hk ht hm hb hp hln fun s c ga gb gc gd ge gf L q h2 hk ht hb hp=>Rw c ga gb gc gd ge gf n s L ln q hn hk ht hb hp hln
   fun b2 c ga gb gc gd ge gf L mm q h3 hk ht hm hb hp=>ih b2 c ga gb gc gd ge gf L mm q om hk ht hm hb hp
theorem Zcr (n:ZH) (ln:LI) (hn:Xz n) (hln:ln.length<=4294967296) (m:Nat):∀(s2:Z7) (c:Nat) (ra:Hd) (rb:Hd) (rc:Hd) (rd:Hd) (re:Hd) (rf:Hd) (M:ZO) (p:Int),(s2.sz<m+1)->(XN n.decls M p)->(0<=X1 n M.vars s2)->(M.vars.length+4*s2.sz<=1000000000)->(0<=p/\p+4*s2.sz<=999999990)->Zm 144 [.p c 0,YH n,X5 s2] [.obj c [.h ra,.h rb,.h rc,.h rd,.h re,.h rf,Z3 ln],rV ra M.vars,rV rb M.own,rV rc M.par,rV rd M.con,rV re M.fst,rV rf M.tok] (fun r h=>(∃(wa:Hd) (wb:Hd) (wc:Hd) (wd:Hd) (we:Hd) (wf:Hd) (M':ZO),r=.b true/\h=[.obj c [.h wa,.h wb,.h wc,.h wd,.h we,.h wf,Z3 ln],rV wa M'.vars,rV wb M'.own,rV wc M'.par,rV wd M'.con,rV we M'.fst,rV wf M'.tok]/\QU n ln M s2=some M')∨(r=.b false/\h=[]/\QU n ln M s2=none)):=by
 intro s c ga gb gc gd ge gf L q h2 hk ht hb hp
 exact Rw c ga gb gc gd ge gf n s L ln q hn hk ht hb hp hln fun b2 c ga gb gc gd ge gf L mm q h3 hk ht hm hb hp=>Zcl n ln hn hln m b2 c ga gb gc gd ge gf L mm q om hk ht hm hb hp
theorem Zcq (c:Nat) (ra:Hd) (rb:Hd) (rc:Hd) (rd:Hd) (re:Hd) (rf:Hd) (n:ZH) (s2:Z7) (M:ZO) (ln:LI) (p:Int) (hn:Xz n) (hln:ln.length<=4294967296) (hk:XN n.decls M p) (ht:0<=X1 n M.vars s2) (hb:M.vars.length+4*s2.sz<=1000000000) (hp:0<=p/\p+4*s2.sz<=999999990):Zm 144 [.p c 0,YH n,X5 s2] [.obj c [.h ra,.h rb,.h rc,.h rd,.h re,.h rf,Z3 ln],rV ra M.vars,rV rb M.own,rV rc M.par,rV rd M.con,rV re M.fst,rV rf M.tok] (fun r h=>(∃(wa:Hd) (wb:Hd) (wc:Hd) (wd:Hd) (we:Hd) (wf:Hd) (M':ZO),r=.b true/\h=[.obj c [.h wa,.h wb,.h wc,.h wd,.h we,.h wf,Z3 ln],rV wa M'.vars,rV wb M'.own,rV wc M'.par,rV wd M'.con,rV we M'.fst,rV wf M'.tok]/\QU n ln M s2=some M')∨(r=.b false/\h=[]/\QU n ln M s2=none)):=Zcr n ln hn hln s2.sz s2 c ra rb rc rd re rf M p om hk ht hb hp
theorem Zh4 (rt:YD) (hp:rt.params.length<=1000000:=by exact ob) (hl:rt.lent.length<=4294967296:=by exact ob):Zm 143 [A8 rt] [] (fun r h=>∃(c:Nat) (wa:Hd) (wb:Hd) (wc:Hd) (wd:Hd) (we:Hd) (wf:Hd),r=.p c 0/\h=[.obj c [.h wa,.h wb,.h wc,.h wd,.h we,.h wf,Z3 rt.lent],rV wa ((KP rt).vars),rV wb ((KP rt).own),rV wc ((KP rt).par),rV wd ((KP rt).con),rV we ((KP rt).fst),rV wf ((KP rt).tok)]):=by
 refine ZF 45 Tryz.func143 (ar (iA (JP rt) fun b1=>Z1 (Zq 2 [0] (ic [] (WX rt.lent) ?_))))
 rintro _ _ ⟨v1,rfl,rfl⟩
 refine ZU 1 [(8,.agg [nl,nl,nl,nl,nl,nl,Z3 rt.lent])] (iA [nl,nl,nl,nl,nl,nl,Z3 rt.lent] fun b2=>?_)
 refine Xe (Z2g 0 b2 [nl,nl,nl,nl,nl,nl,Z3 rt.lent] [.h hN,.h hN,.h hN,.h hN,.h hN,.h hN,Z3 rt.lent] (.cons (Zd.hd (v:=hN)) (.cons (Zd.hd (v:=hN)) (.cons (Zd.hd (v:=hN)) (.cons (Zd.hd (v:=hN)) (.cons (Zd.hd (v:=hN)) (.cons (Zd.hd (v:=hN)) (.cons (lr _) .nil)))))))) (Xe (Ev) (Xe (Ev) (Xe (Ev) (Xe (Ev) (Xe (Ev) (Xe (Ev) (Z1 (Y5 (ab 0 (Y3 (fun fz gz m F h=>∃(k:Nat) (L2:ZO) (ka:Hd) (kb:Hd) (kc:Hd) (kd:Hd) (ke:Hd) (kf:Hd),(k<=rt.params.length)/\(Tx L2)/\(L2.vars.length=k)/\(Bi rt.lent (rt.params.drop k) k L2=KP rt)/\F=sF [1,3] fz [(4,.i k)]/\h=[.obj b2 [.h ka,.h kb,.h kc,.h kd,.h ke,.h kf,Z3 rt.lent],Zh gz 8,rV ka L2.vars,rV kb L2.own,rV kc L2.par,rV kd L2.con,rV ke L2.fst,rV kf L2.tok]/\m=rt.params.length-k) _ _ _ ⟨0,(ZO.mk [] [] [] [] [] []),hN,hN,hN,hN,hN,hN,ob,⟨rfl,rfl,rfl,rfl,rfl⟩,rfl,rfl,rfl,rfl,rfl⟩ (wk [6,7,0,0,0,0,0,0] (Yf fl) (e:=(rc (rc (rv (xs:=[]) ob (rv (xs:=[]) ob (rv (xs:=[]) ob (rv (xs:=[]) ob (rv (xs:=[]) ob (rv (xs:=[]) ob rz)))))))))) ?_))))))))))
 rintro m F h ⟨k,L2,ka,kb,kc,kd,ke,kf,Yi,Zj,Zw,YO,rfl,rfl,rfl⟩
 refine Yr 3 [1] (iw (Yd rt.params) (Y2 ((k:Int)<(rt.params.length:Int)) (fun Zc=>?_) (fun Zc=>?_)))
 ·refine ak (aq (ab 1 (Zq 3 [1] ?_)))
  obtain ⟨x1,Z4⟩:=Zt rt.params k om
  refine Zp (Zk none (k:Int) 1 (Y4 Z4)) (Xs [1,3,4] [(29,.b ((x1 != 0)&&(!(decide ((k:Int)∈rt.lent)))))] (fun gz=>gz) ?_ ?_)
  ·refine Z0 3 (ib (b:=(x1 != 0)) 23 (fun Ze=>?_) (fun Ze=>?_))
   ·exact ZC 3 [1] (Zu [] (UE rt.lent (k:Int)) (Z1 (Zy 8 (Zo (!(decide ((k:Int)∈rt.lent))) Ze fl))))
   exact Z1 (Zy 8 (Zo false Ze fl))
  refine ac ((x1 != 0)&&(!(decide ((k:Int)∈rt.lent)))) (p:=(x1≠0)/\(¬((k:Int)∈rt.lent))) (Yt Yn (Yl dq)) (fun Zi=>?_) (fun Zi=>?_)
  ·refine az (ZC 4 [1] (Zp (Zk none (k:Int) 1 (Y4 Z4)) (Z0 1 (ic [0,1,1,1,1,1,1] (KL b2 ka kb kc kd ke kf L2 rt.lent x1 1 (-1) (hlk:=Zj)) ?_))))
   rintro _ _ ⟨wa1,wb1,wc1,wd1,we1,wf1,rfl⟩
   exact ie (az (Z0 1 (ZD k (Z1 (ZG ⟨k+1,(L2.grow x1 1 (-1)),wa1,wb1,wc1,wd1,we1,wf1,ob,(Tx.grow Zj),(by simp [ZO.grow];omega),(by rw [Yj Z4,Bi] at YO;first|(rw [Zb Zi] at YO;exact YO)|(rw [Z5 Zi] at YO;exact YO)),rfl,rfl,rfl⟩ (wk [0,6,0,0,0,0,0,0] (ZK k fl)))))))
  refine az (ZC 4 [1] (Zp (Zk none (k:Int) 1 (Y4 Z4)) (Z0 1 (ic [0,1,1,1,1,1,1] (KL b2 ka kb kc kd ke kf L2 rt.lent x1 0 (-1) (hlk:=Zj)) ?_))))
  rintro _ _ ⟨wa2,wb2,wc2,wd2,we2,wf2,rfl⟩
  exact ie (az (Z0 1 (ZD k (Z1 (ZG ⟨k+1,(L2.grow x1 0 (-1)),wa2,wb2,wc2,wd2,we2,wf2,ob,(Tx.grow Zj),(by simp [ZO.grow];omega),(by rw [Yj Z4,Bi] at YO;first|(rw [Zb Zi] at YO;exact YO)|(rw [Z5 Zi] at YO;exact YO)),rfl,rfl,rfl⟩ (wk [0,6,0,0,0,0,0,0] (ZK k fl)))))))
 refine ax 0 (Y0 ?_)
 have hNl:L2=KP rt:=by rw [<-YO,Xp om];rfl
 exact ZV (r1 [0,1,1,1,1,1,1] ⟨b2,ka,kb,kc,kd,ke,kf,rfl,rfl⟩ (eq:=(rc (rv (xs:=L2.vars) (by rw [hNl]) (rv (xs:=L2.own) (by rw [hNl]) (rv (xs:=L2.par) (by rw [hNl]) (rv (xs:=L2.con) (by rw [hNl]) (rv (xs:=L2.fst) (by rw [hNl]) (rv (xs:=L2.tok) (by rw [hNl]) rz)))))))))
end Go.Abs
