/-
  A part of the proofs of several laws (see the last file): no condition.
-/
import Derived.Test.YtabmbhgiodcppaaGreatXdC
set_option linter.all false
set_option linter.unusedVariables false
set_option linter.unusedSimpArgs false
set_option linter.unusedSectionVars false
set_option maxRecDepth 10000
set_option maxHeartbeats 4000000
namespace Go.Abs
open Go.Proofs
theorem PD (rd:Nat) (bs:LI) (p:Nat) (g:Wa) (gb:Nat) (rs:List Func) (vs:LI) (t:Int) (b:Nat) (ZM:∀z∈bs,0<=z/\z<=255) (hp:p+40000<=1000000000:=by exact ob) (hg:GP g:=by exact ob) (Wp:g.funcs <+: rs:=by exact ob) (hv:vs.length+3*b<=900:=by exact ob) (hb:b<=20:=by exact ob):Zm 184 [.p rd 0,.agg (Ws g gb),Z4 vs,.i t,.i b] [YG rd bs p,XR gb rs] (fun r h=>∃(e:Z2) (p2:Nat),r=Y7 e/\h=[YG rd bs p2,XR gb rs]/\GE g vs.length 30 e/\p<=p2/\p2<=p+40000):=by
 have Zjm:=Gn hb
 refine ZE 34 Tryz.func184 (ar (iA (Ws g gb) fun b1=>iA [.i 0,.i 0,nl] fun b2=>ie (Zl 5 [1] (ic [2,2] (Kb rd bs p g gb rs vs t b (ZM:=ob)) ?_))))
 rintro _ _ ⟨e1,p21,rfl,rfl,Y9⟩
 have Xo:=Y9.1
 refine iA [.i 0,.i 0,nl] fun b3=>?_
 refine Zx 0 b3 (YY e1) (ie (aq (ab 0 (Y2 (fun fz gz m F h=>∃(bq:Nat) (eQ:Z2) (pq:Nat),(GE g vs.length (bS bq) eQ)/\(bq<=b)/\(p<=pq/\pq+1900*bq<=p+1900*(b+1))/\F=sF [0,2,3,6,10,11] fz [(4,.i bq)]/\h=[.obj b3 (YY eQ),YG rd bs pq,Zf gz 2,Zf gz 3,Zf gz 4]/\m=bq+1) _ _ _ ⟨b,e1,p21,Xo,ob,ob,rfl,rfl,rfl⟩ (Zw 5 fl) ?_))))
 rintro m F h ⟨bq,eQ,pq,Yj,Zg,Zz,rfl,rfl,rfl⟩
 refine Ym 1 [0] (ic [] (PL eQ (hz:=(by have h1:=Yj.2;have h2:=(Gn (b:=bq) om).1;omega))) ?_)
 rintro _ _ ⟨w1,rfl,rfl,Yt⟩
 have M3:=Yt
 have hq20:=Gn (b:=bq) om
 have hq21:=Gn (b:=bq / 2) om
 have XO:=Yj.2
 refine Xx [0,2,3,4,6,10,11] [(24,.b ((decide (w1<0))&&(decide ((bq:Int)>2))))] (fun gz=>gz) ?_ ?_
 ·refine Z0 2 (ib (b:=(decide (w1<0))) 21 (fun Ze=>?_) (fun Ze=>?_))
  ·exact Z1 (Zw 5 (Zq (decide ((bq:Int)>2)) Ze fl))
  exact Z1 (Zw 5 (Zq false Ze fl))
 refine ac ((decide (w1<0))&&(decide ((bq:Int)>2))) (p:=(w1<0)/\((bq:Int)>2)) (YI dq dq) (fun Za=>?_) (fun Za=>?_)
 ·refine ak (ab 1 (Yf 1 (Zo (E1 bq 2 om om) (Z1 (az (ZB 5 [4] (ic [1,1] (Kb rd bs pq g gb rs vs t (bq / 2) (ZM:=ob)) ?_)))))))
  rintro _ _ ⟨e2,p22,rfl,rfl,Xk⟩
  have Xo:=Xk.1
  exact Zx 2 b3 (YY e2) (ie (ZI ⟨(bq / 2),e2,p22,Xo,ob,ob,rfl,rfl,rfl⟩ (Zw 5 (fc (x:=.i (bq / 2:Nat)) li fl))))
 exact ax 0 (Zl 1 [0] (Zx 3 b2 (YY eQ) (ie (ZT (r3 [2,2] [Y7 eQ] [0] [(b2,b2)] ⟨eQ,pq,rfl,rfl,⟨⟨Yj.1,by omega⟩,by omega⟩⟩ (lr _))))))
theorem Z9o (rd:Nat) (bs:LI) (p:Nat) (t:Int) (ZM:∀z∈bs,0<=z/\z<=255) (hp:p+14<=1000000000:=by exact ob):Zm 214 [.p rd 0,.i t] [YG rd bs p] (fun r h=>∃(e:Z2) (p2:Nat),r=Y7 e/\h=[YG rd bs p2]/\(∀g:Wa,SE g 9 e)/\p<=p2/\p2<=p+14):=by
 refine ZE 45 Tryz.func214 (ar (iA [.i 0,.i 0,nl] fun b1=>ie (ar (iL (Yz []) 0 3 fun v1=>ZQ 0 [(10,XD [])] (Zu [] (XT 6 0 []) (iA [.i 0,.i 0,nl] fun b2=>Zx 0 b2 (YY (Z2.mk 6 0 [])) (ie (Xj (YC (t==3) Zi (fun Za=>?_) (fun Za=>?_))))))))))
 ·refine ar (iL (Yz []) 0 3 fun v2=>ZQ 0 [(14,XD [])] (Zu [] (XT 6 2 []) (iA [.i 0,.i 0,nl] fun b3=>?_)))
  refine Zx 0 b3 (YY (Z2.mk 6 2 [])) (ie (aD 9 (ZX 6 9 [0,1,4] [0,0] (BN (fun fz gz F h=>∃(k1:Int) (b4:Nat),(Pk 9 k1)/\F=sF [0,4,6] fz [(7,.p b4 0)]/\h=[.obj b4 (YY (Z2.mk 6 3 [Z2.mk 6 2 [],Z2.mk 0 k1 [],Z2.mk 6 2 []])),.obj rd [Up bs,.i (p+1:Nat)],Zf gz 0,Zf gz 1,Zf gz 2,Zf gz 3,Zf gz 4]) ?_ ?_))))
  ·refine Us 2 7 ?_ ?_
   ·refine dc 2 [5] [0,0] [b3,b3] (W2 rd bs p 9 (ZM:=ob)) ?_
    rintro _ _ ⟨k1,rfl,rfl,Y9⟩
    have qhp1:=Y9.lt om
    refine Us 3 7 ?_ ?_
    ·refine YK 3 [] [1,1] [b3,b3] (Be k1) (Us 5 7 ?_ ?_)
     ·refine WG 5 [] [] [Y7 (Z2.mk 6 2 []),Y7 (Z2.mk 0 k1 []),Y7 (Z2.mk 6 2 [])] (Yz [Z2.mk 6 2 [],Z2.mk 0 k1 [],Z2.mk 6 2 []]) (XQ [Z2.mk 6 2 [],Z2.mk 0 k1 [],Z2.mk 6 2 []]).symm 3 3 fun v3=>Yq 3 3 [] [(21,XD [Z2.mk 6 2 [],Z2.mk 0 k1 [],Z2.mk 6 2 []])] (Us 6 7 ?_ ?_)
      ·exact YK 6 [] [] [] (XT 6 3 [Z2.mk 6 2 [],Z2.mk 0 k1 [],Z2.mk 6 2 []]) (Z7 7 (dA 7 [] [] [.i 0,.i 0,nl] fun b4=>Z7 8 (X0 8 0 [] [] b4 (YY (Z2.mk 6 3 [Z2.mk 6 2 [],Z2.mk 0 k1 [],Z2.mk 6 2 []])) (de (ZJ ⟨k1,b4,(by assumption),rfl,rfl⟩ (wk [0,1,1,1,1,1,1] fl))))))
      exact dA 7 [] [] [.i 0,.i 0,nl] fun b5=>Z7 6 (YK 6 [] [] [] (XT 6 3 [Z2.mk 6 2 [],Z2.mk 0 k1 [],Z2.mk 6 2 []]) (Z7 8 (X0 8 0 [] [] b5 (YY (Z2.mk 6 3 [Z2.mk 6 2 [],Z2.mk 0 k1 [],Z2.mk 6 2 []])) (de (ZJ ⟨k1,b5,(by assumption),rfl,rfl⟩ (wk [0,1,1,1,1,1,1] fl))))))
     exact dA 7 [1,1] [b3,b3] [.i 0,.i 0,nl] fun b6=>Z7 5 (WG 5 [] [] [Y7 (Z2.mk 6 2 []),Y7 (Z2.mk 0 k1 []),Y7 (Z2.mk 6 2 [])] (Yz [Z2.mk 6 2 [],Z2.mk 0 k1 [],Z2.mk 6 2 []]) (XQ [Z2.mk 6 2 [],Z2.mk 0 k1 [],Z2.mk 6 2 []]).symm 3 3 fun v4=>Yq 2 2 [] [(21,XD [Z2.mk 6 2 [],Z2.mk 0 k1 [],Z2.mk 6 2 []])] (Z7 6 (YK 6 [] [] [] (XT 6 3 [Z2.mk 6 2 [],Z2.mk 0 k1 [],Z2.mk 6 2 []]) (Z7 8 (X0 8 1 [] [] b6 (YY (Z2.mk 6 3 [Z2.mk 6 2 [],Z2.mk 0 k1 [],Z2.mk 6 2 []])) (de (ZJ ⟨k1,b6,(by assumption),rfl,rfl⟩ (wk [0,1,1,1,1,1,1] fl))))))))
    exact dA 7 [1,1] [b3,b3] [.i 0,.i 0,nl] fun b7=>Z7 3 (YK 3 [] [2,2] [b3,b3] (Be k1) (Z7 5 (WG 5 [] [] [Y7 (Z2.mk 6 2 []),Y7 (Z2.mk 0 k1 []),Y7 (Z2.mk 6 2 [])] (Yz [Z2.mk 6 2 [],Z2.mk 0 k1 [],Z2.mk 6 2 []]) (XQ [Z2.mk 6 2 [],Z2.mk 0 k1 [],Z2.mk 6 2 []]).symm 3 3 fun v5=>Yq 2 2 [] [(21,XD [Z2.mk 6 2 [],Z2.mk 0 k1 [],Z2.mk 6 2 []])] (Z7 6 (YK 6 [] [] [] (XT 6 3 [Z2.mk 6 2 [],Z2.mk 0 k1 [],Z2.mk 6 2 []]) (Z7 8 (X0 8 1 [] [] b7 (YY (Z2.mk 6 3 [Z2.mk 6 2 [],Z2.mk 0 k1 [],Z2.mk 6 2 []])) (de (ZJ ⟨k1,b7,(by assumption),rfl,rfl⟩ (wk [0,1,1,1,1,1,1] fl))))))))))
   refine dA 7 [0,0] [b3,b3] [.i 0,.i 0,nl] fun b8=>Z7 2 (dc 2 [6] [1,1] [b3,b3] (W2 rd bs p 9 (ZM:=ob)) ?_)
   rintro _ _ ⟨k2,rfl,rfl,Yt⟩
   have qhp2:=Yt.lt om
   exact Z7 3 (YK 3 [] [2,2] [b3,b3] (Be k2) (Z7 5 (WG 5 [] [] [Y7 (Z2.mk 6 2 []),Y7 (Z2.mk 0 k2 []),Y7 (Z2.mk 6 2 [])] (Yz [Z2.mk 6 2 [],Z2.mk 0 k2 [],Z2.mk 6 2 []]) (XQ [Z2.mk 6 2 [],Z2.mk 0 k2 [],Z2.mk 6 2 []]).symm 3 3 fun v6=>Yq 2 2 [] [(21,XD [Z2.mk 6 2 [],Z2.mk 0 k2 [],Z2.mk 6 2 []])] (Z7 6 (YK 6 [] [] [] (XT 6 3 [Z2.mk 6 2 [],Z2.mk 0 k2 [],Z2.mk 6 2 []]) (Z7 8 (X0 8 2 [] [] b8 (YY (Z2.mk 6 3 [Z2.mk 6 2 [],Z2.mk 0 k2 [],Z2.mk 6 2 []])) (de (ZJ ⟨k2,b8,(by assumption),rfl,rfl⟩ (wk [0,1,1,1,1,1,1] fl))))))))))
  rintro F h ⟨k1,b4,Y9,rfl,rfl⟩
  have qhp1:=Y9.lt om
  refine aD 8 (ZX 5 8 [0,1,4] [0,2] (Z7 2 (dc 2 [1] [1,0] [b3,b4] (W2 rd bs (p+1) 9 (ZM:=ob)) ?_)))
  rintro _ _ ⟨k3,rfl,rfl,YS⟩
  have qhp3:=YS.lt om
  exact Z7 3 (YK 3 [] [2,1] [b3,b4] (Be k3) (Z7 5 (WG 5 [] [] [Y7 (Z2.mk 6 3 [Z2.mk 6 2 [],Z2.mk 0 k1 [],Z2.mk 6 2 []]),Y7 (Z2.mk 0 k3 []),Y7 (Z2.mk 6 2 [])] (Yz [Z2.mk 6 3 [Z2.mk 6 2 [],Z2.mk 0 k1 [],Z2.mk 6 2 []],Z2.mk 0 k3 [],Z2.mk 6 2 []]) (XQ [Z2.mk 6 3 [Z2.mk 6 2 [],Z2.mk 0 k1 [],Z2.mk 6 2 []],Z2.mk 0 k3 [],Z2.mk 6 2 []]).symm 3 3 fun v7=>Yq 2 2 [] [(28,XD [Z2.mk 6 3 [Z2.mk 6 2 [],Z2.mk 0 k1 [],Z2.mk 6 2 []],Z2.mk 0 k3 [],Z2.mk 6 2 []])] (Z7 6 (YK 6 [] [] [] (XT 6 3 [Z2.mk 6 3 [Z2.mk 6 2 [],Z2.mk 0 k1 [],Z2.mk 6 2 []],Z2.mk 0 k3 [],Z2.mk 6 2 []]) (Z7 7 (X0 7 7 [] [] b1 (YY (Z2.mk 6 3 [Z2.mk 6 3 [Z2.mk 6 2 [],Z2.mk 0 k1 [],Z2.mk 6 2 []],Z2.mk 0 k3 [],Z2.mk 6 2 []])) (de (ZT (r3 [2] [Y7 (Z2.mk 6 3 [Z2.mk 6 3 [Z2.mk 6 2 [],Z2.mk 0 k1 [],Z2.mk 6 2 []],Z2.mk 0 k3 [],Z2.mk 6 2 []])] [0] [(b1,b1)] ⟨(Z2.mk 6 3 [Z2.mk 6 3 [Z2.mk 6 2 [],Z2.mk 0 k1 [],Z2.mk 6 2 []],Z2.mk 0 k3 [],Z2.mk 6 2 []]),(p+1)+1,rfl,rfl,⟨fun g=>SE.three (s1:=4) (s2:=1) (s3:=1) om om (SE.three (s1:=1) (s2:=1) (s3:=1) om om (SE.nil om om om) (SE.int om om) (SE.nil om om om) om) (SE.int om om) (SE.nil om om om) om,by omega⟩⟩ (lr _)))))))))))
 refine ak (Zl 1 [0] (iA [.i 0,.i 0,nl] fun b9=>Zx 0 b9 (YY (Z2.mk 6 0 [])) (ie (YQ 1 (ic [4] (W2 rd bs p 3 (ZM:=ob)) ?_)))))
 rintro _ _ ⟨k4,rfl,rfl,X2⟩
 have qhp4:=X2.lt om
 refine ia ((1+k4)) ((1)+(k4)) (Z1 (ab 0 (Y2 (fun fz gz m F h=>∃(j:Int) (eQ:Z2) (pq:Nat),(0<=j/\j<=3)/\(∀g:Wa,SE g (7-2*j.toNat) eQ)/\(p+1<=pq/\pq+4*j.toNat<=p+13)/\F=sF [0,4,8] fz [(9,.i j)]/\h=[YG rd bs pq,.obj b9 (YY eQ),Zf gz 4]/\m=j.toNat) _ _ _ ⟨(1+k4),(Z2.mk 6 0 []),p+1,ob,(fun g=>SE.nil om om om),ob,rfl,rfl,rfl⟩ (wk [0,0,2] fl) ?_)))
 rintro m F h ⟨j,eQ,pq,Yj,Zg,Zz,rfl,rfl,rfl⟩
 refine Xj (Y3 (j>0) (fun Zj=>?_) (fun Zj=>?_))
 ·refine ak (aq (ab 1 (aE 7 (ZX 5 7 [0,3] [1] (Z7 1 (dc 1 [0] [0] [b9] (PO rd bs pq (ZM:=ob)) ?_))))))
  rintro _ _ ⟨z1,rfl,rfl,Xk⟩
  have hz:=Xk
  exact Z7 2 (YK 2 [] [1] [b9] (Be z1) (Z7 4 (WG 4 [] [] [Y7 (Z2.mk 0 z1 []),Y7 eQ] (Yz [Z2.mk 0 z1 [],eQ]) (XQ [Z2.mk 0 z1 [],eQ]).symm 2 3 fun v8=>Yq 2 2 [] [(42,XD [Z2.mk 0 z1 [],eQ])] (Z7 5 (YK 5 [] [] [] (XT 6 1 [Z2.mk 0 z1 [],eQ]) (Z7 6 (X0 6 2 [] [] b9 (YY (Z2.mk 6 1 [Z2.mk 0 z1 [],eQ])) (de (az (Z0 1 (ia ((j-1)) ((j)-(1)) (Z1 (ZI ⟨(j-1),(Z2.mk 6 1 [Z2.mk 0 z1 [],eQ]),pq+4,ob,(fun g=>SE.two om om (SE.int (q:=1) om om) (Zg g) om),ob,rfl,rfl,rfl⟩ (wk [2,0,1] fl))))))))))))))
 exact ax 0 (Zl 1 [1] (Zx 2 b1 (YY eQ) (ie (ZT (r3 [1] [Y7 eQ] [0] [(b1,b1)] ⟨eQ,pq,rfl,rfl,⟨fun g=>(⟨(Zg g).1,by have:=(Zg g).2;omega⟩:SE g 9 _),by omega⟩⟩ (lr _))))))
theorem Z9r (rd:Nat) (bs:LI) (p:Nat) (g:Wa) (gb:Nat) (rs:List Func) (ZM:∀z∈bs,0<=z/\z<=255) (hp:p+1600<=1000000000:=by exact ob) (hg:GP g:=by exact ob) (Wp:g.funcs <+: rs:=by exact ob):Zm 180 [.p rd 0,.agg (Ws g gb)] [YG rd bs p,XR gb rs] (fun r h=>∃(e:Z2) (p2:Nat),r=Y7 e/\h=[YG rd bs p2,XR gb rs]/\GE g 0 200 e/\p<=p2/\p2<=p+1600):=by
 have hbv:=EJ
 refine ZE 27 Tryz.func180 (ar (iA (Ws g gb) fun b1=>iA [.i 0,.i 0,nl] fun b2=>ie (Yf 1 (iL (Z6 [1,1,3]) 3 1 fun v1=>ZQ 0 [(8,Z4 [1,1,3])] (ic [3] (T1 rd bs p [1,1,3] (ZM:=ob)) ?_)))))
 rintro _ _ ⟨z1,rfl,rfl,Y9⟩
 have hz:=C5 (a:=1) (b:=3) Y9 (by decide)
 refine Z1 (Zl 3 [3] (iL (Z6 [z1]) 1 1 fun v2=>ZQ 0 [(13,Z4 [z1])] (ic [1,4] (Kb rd bs (p+1) g gb rs [z1] 0 16 (ZM:=ob) (hv:=(by simp))) ?_)))
 rintro _ _ ⟨e1,p21,rfl,rfl,Yt⟩
 have Xo:=Yt.1
 have Ke:=Yt.2
 rw [hbv.2.2.2.1] at Xo
 refine iA [.i 0,.i 0,nl] fun b3=>Zx 0 b3 (YY e1) (ie (YQ 1 (ic [1] (W2 rd bs p21 3 (ZM:=ob)) ?_)))
 rintro _ _ ⟨k1,rfl,rfl,YS⟩
 have qhp3:=YS.lt om
 refine Z1 (XA (fun fz gz F h=>∃(eQ:Z2),(GE g 1 151 eQ)/\F=sF [0,4,5,6] fz []/\h=[Zf gz 0,.obj b3 (YY eQ),Zf gz 2,Zf gz 5]) ?_ ?_)
 ·refine ac (k1==0) Zi (fun Za=>?_) (fun Za=>?_)
  ·exact az (ZB 1 [1] (UO [Y7 e1] (Yz [e1]) (XQ [e1]).symm 1 3 fun v3=>ZQ 0 [(19,XD [e1])] (Zu [] (XT 5 0 [e1]) (Zx 2 b3 (YY (Z2.mk 5 0 [e1])) (ie (ZJ ⟨(Z2.mk 5 0 [e1]),(GE.one om om Xo om),rfl,rfl⟩ (wk [2,0,1,3] fl)))))))
  exact ak (ZJ ⟨e1,(GE.le Xo om),rfl,rfl⟩ (wk [0,0,0,2] fl))
 rintro F h ⟨eQ,Jj,rfl,rfl⟩
 refine aD 7 (ZX 4 7 [0,1,3] [1] (Z7 2 (dc 2 [0] [0] [b3] (Z9o rd bs (p21+1) z1 (ZM:=ob)) ?_)))
 rintro _ _ ⟨e2,p22,rfl,rfl,X2⟩
 have hli:=X2.1
 exact Z7 4 (WG 4 [] [] [Y7 e2,Y7 eQ] (Yz [e2,eQ]) (XQ [e2,eQ]).symm 2 3 fun v4=>Yq 2 2 [] [(25,XD [e2,eQ])] (Z7 5 (YK 5 [] [] [] (XT 13 0 [e2,eQ]) (Z7 6 (X0 6 4 [] [] b2 (YY (Z2.mk 13 0 [e2,eQ])) (de (ZT (r3 [2,3] [Y7 (Z2.mk 13 0 [e2,eQ])] [0] [(b2,b2)] ⟨(Z2.mk 13 0 [e2,eQ]),p22,rfl,rfl,⟨GE.letS ((hli g).ge (X5 _)) Jj om,by omega⟩⟩ (lr _)))))))))
theorem Z9z (rd:Nat) (bs:LI) (p:Nat) (g:Wa) (gb:Nat) (rs:List Func) (f:Func) (i:Int) (w:Int) (ZM:∀z∈bs,0<=z/\z<=255) (hp:p+1000<=1000000000:=by exact ob) (hg:GP g:=by exact ob) (Wp:g.funcs <+: rs:=by exact ob) (hi:0<=i:=by exact ob) (hf:g.funcs[i.toNat]? = some f:=by exact ob) (hw:0<=w/\w<f.params.length:=by exact ob):Zm 181 [.p rd 0,.agg (Ws g gb),.i i,.i w] [YG rd bs p,XR gb rs] (fun r h=>∃(e:Z2) (p2:Nat),r=Y7 e/\h=[YG rd bs p2,XR gb rs]/\GE g f.params.length 200 e/\p<=p2/\p2<=p+1000):=by
 obtain ⟨hil,_⟩:=X9.1 hf
 have hgl:=hg.len
 have hso:=(hg.sigs f (Y4 hf)).bd
 have hbv:=EJ
 refine ZE 136 Tryz.func181 (ar (iA (Ws g gb) fun b1=>iA [.i 0,.i 0,nl] fun b2=>ie (Zl 3 [1] (Zo (XI gb g.funcs.length 4 i.toNat 5 i) (Z0 1 (VC (WO 3 gb 4 4 5 (i.toNat * 5+0) (Z9 (Xu rs)) [Z4 f.params] 29 (Z4 f.params) (UK Wp hf 0 rfl (Vl rfl))) (Z1 (Yf 1 (iw (Ye f.params) (Z1 (Yf 1 (iL (Z6 [0,1]) 2 1 fun v1=>ZQ 0 [(26,Z4 [0,1])] (ic [] (TE f.params [0,1]) ?_)))))))))))))
 rintro _ _ ⟨v2,rfl,rfl⟩
 refine Z1 (ar (iL (Yz []) 0 3 fun v3=>?_))
 refine Z1 (Y6 (ab 0 (Y2 (fun fz gz m F h=>∃(k:Nat) (ys:List Z2) (u:Value) (pq:Nat),(k<=f.params.length)/\(ys.length=k)/\(∀e∈ys,GE g (f.params.length+2) 3 e)/\(p<=pq/\pq<=p+k)/\F=sF [0,2,3,5,8,9,10] fz [(11,Z4 (f.params++[0,1])),(12,QQ ys u),(13,.i k)]/\h=[Zf gz 3,Zf gz 4,YG rd bs pq,Zf gz 6,.tail u 3]/\m=f.params.length-k) _ _ _ ⟨0,[],v3,p,ob,ob,(fun e he=>by cases he),ob,rfl,rfl,rfl⟩ (wk [3,3,3,3,0] (fc (x:=ZC (f.params++[0,1]) v2) (Zd.forget _ _) (fr (Yc fl)))) ?_)))
 rintro m F h ⟨k,ys,u,pq,Yj,Zg,Zz,YN,rfl,rfl,rfl⟩
 refine Xj (Y3 ((k:Int)<(f.params.length:Int)) (fun Za=>?_) (fun Za=>?_))
 ·refine ak (aq (ab 1 (ar (YC ((k:Int)==w) Zi (fun Zj=>?_) (fun Zj=>?_)))))
  ·exact az (Z0 2 (ia (((f.params.length+1:Nat):Int)) (((f.params.length:Int))+(1)) (Zu [] (Qo ((f.params.length+1:Nat):Int)) (UO [Y7 (Z2.mk 12 ((f.params.length+1:Nat):Int) [])] (Yz [(Z2.mk 12 ((f.params.length+1:Nat):Int) [])]) (XQ [(Z2.mk 12 ((f.params.length+1:Nat):Int) [])]).symm 1 3 fun v4=>ZQ 0 [(41,XD [(Z2.mk 12 ((f.params.length+1:Nat):Int) [])])] (ip 5 (Yz (ys++[(Z2.mk 12 ((f.params.length+1:Nat):Int) [])])) (Yz ys) (Yz [(Z2.mk 12 ((f.params.length+1:Nat):Int) [])]) u none 3 (Te _) (Te _) (Au _) (by simp<;>omega) (by simp [At,Yz]) fun v5=>Z1 (az (Z0 1 (ZD k (Z1 (ZI ⟨k+1,(ys++[(Z2.mk 12 ((f.params.length+1:Nat):Int) [])]),v5,pq,ob,ob,(XF Zz (GE.var om om om)),ob,rfl,rfl,rfl⟩ (wk [2,2,2,2,0] (fw (ZK k fl)))))))))))))
  refine aq (XA (fun fz gz F h=>∃(wb:Bool) (p5:Nat),(pq<=p5/\p5<=pq+1)/\F=sF [0,2,3,5,8,9,10,11,12,13] fz [(52,.b wb)]/\h=[Zf gz 0,Zf gz 1,YG rd bs p5,Zf gz 3,Zf gz 4]) ?_ ?_)
  ·refine az (Z0 2 ?_)
   obtain ⟨x1,Z3⟩:=Zt f.params k om
   refine Zo (Zk none (k:Int) 1 (Y8 Z3)) (Z0 3 (ib (b:=(x1==0)) 48 (fun Ze=>?_) (fun Ze=>?_)))
   ·refine Z0 1 (ic [2] (W2 rd bs pq 2 (ZM:=ob)) ?_)
    rintro _ _ ⟨k1,rfl,rfl,Yt⟩
    have qhp2:=Yt.lt om
    exact Z1 (ZJ ⟨(k1==0),pq+1,om,rfl,rfl⟩ (wk [1,1,0,0,0] fl))
   exact Z1 (ZJ ⟨false,pq,ob,rfl,rfl⟩ (Zw 5 fl))
  rintro F h ⟨wb,p5,kR10_0,rfl,rfl⟩
  refine ac wb Iff.rfl (fun ZF=>?_) (fun ZF=>?_)
  ·exact az (Z0 2 (Zu [] (Qo (k:Int)) (Z0 1 (Zu [] (Qo (f.params.length:Int)) (UO [Y7 (Z2.mk 12 (k:Int) []),Y7 (Z2.mk 12 (f.params.length:Int) [])] (Yz [(Z2.mk 12 (k:Int) []),(Z2.mk 12 (f.params.length:Int) [])]) (XQ [(Z2.mk 12 (k:Int) []),(Z2.mk 12 (f.params.length:Int) [])]).symm 2 3 fun v6=>ZQ 0 [(58,XD [(Z2.mk 12 (k:Int) []),(Z2.mk 12 (f.params.length:Int) [])])] (Zu [] (XT 1 0 [(Z2.mk 12 (k:Int) []),(Z2.mk 12 (f.params.length:Int) [])]) (UO [Y7 (Z2.mk 1 0 [(Z2.mk 12 (k:Int) []),(Z2.mk 12 (f.params.length:Int) [])])] (Yz [(Z2.mk 1 0 [(Z2.mk 12 (k:Int) []),(Z2.mk 12 (f.params.length:Int) [])])]) (XQ [(Z2.mk 1 0 [(Z2.mk 12 (k:Int) []),(Z2.mk 12 (f.params.length:Int) [])])]).symm 1 3 fun v7=>ZQ 0 [(60,XD [(Z2.mk 1 0 [(Z2.mk 12 (k:Int) []),(Z2.mk 12 (f.params.length:Int) [])])])] (ip 6 (Yz (ys++[(Z2.mk 1 0 [(Z2.mk 12 (k:Int) []),(Z2.mk 12 (f.params.length:Int) [])])])) (Yz ys) (Yz [(Z2.mk 1 0 [(Z2.mk 12 (k:Int) []),(Z2.mk 12 (f.params.length:Int) [])])]) u none 3 (Te _) (Te _) (Au _) (by simp<;>omega) (by simp [At,Yz]) fun v8=>Z1 (az (Z0 1 (ZD k (Z1 (ZI ⟨k+1,(ys++[(Z2.mk 1 0 [(Z2.mk 12 (k:Int) []),(Z2.mk 12 (f.params.length:Int) [])])]),v8,p5,ob,ob,(XF Zz (GE.two (s1:=1) (s2:=1) om om (GE.var om om om) (GE.var om om om) om)),ob,rfl,rfl,rfl⟩ (wk [3,3,3,3,0] (fw (ZK k fl))))))))))))))))
  exact az (Z0 2 (Zu [] (Qo (k:Int)) (UO [Y7 (Z2.mk 12 (k:Int) [])] (Yz [(Z2.mk 12 (k:Int) [])]) (XQ [(Z2.mk 12 (k:Int) [])]).symm 1 3 fun v9=>ZQ 0 [(65,XD [(Z2.mk 12 (k:Int) [])])] (ip 5 (Yz (ys++[(Z2.mk 12 (k:Int) [])])) (Yz ys) (Yz [(Z2.mk 12 (k:Int) [])]) u none 3 (Te _) (Te _) (Au _) (by simp<;>omega) (by simp [At,Yz]) fun v10=>Z1 (az (Z0 1 (ZD k (Z1 (ZI ⟨k+1,(ys++[(Z2.mk 12 (k:Int) [])]),v10,p5,ob,ob,(XF Zz (GE.var om om om)),ob,rfl,rfl,rfl⟩ (wk [2,2,2,2,0] (fw (ZK k fl))))))))))))
 refine ax 0 (ar (ZQ 2 [(68,XD ys)] (Zu [] (XT 9 i ys) (iA [.i 0,.i 0,nl] fun b3=>Zx 0 b3 (YY (Z2.mk 9 i ys)) (ie (Zl 1 [0] (iA [.i 0,.i 0,nl] fun b4=>?_)))))))
 refine Zx 0 b4 (YY (Z2.mk 9 i ys)) (ie (aq (aq (XA (fun fz gz F h=>∃(wb:Bool) (p5:Nat),(pq<=p5/\p5<=pq+1)/\F=sF [0,2,3,5,8,9,10,11,14,15] fz [(82,.b wb)]/\h=[Zf gz 0,Zf gz 1,Zf gz 2,Zf gz 3,YG rd bs p5,Zf gz 5]) ?_ ?_))))
 ·refine az (ZB 3 [3] (Zo (XI gb g.funcs.length 4 i.toNat 5 i) (Z0 1 (VC (WO 5 gb 4 4 5 (i.toNat * 5+1) (Z9 (Xu rs)) [.i f.result] 3 (.i f.result) (UK Wp hf 1 rfl (Vl rfl))) (Z0 2 (ib (b:=(f.result==1)) 78 (fun ZH=>?_) (fun ZH=>?_)))))))
  ·refine Z0 1 (ic [4] (W2 rd bs pq 5 (ZM:=ob)) ?_)
   rintro _ _ ⟨k2,rfl,rfl,Xk⟩
   have qhp5:=Xk.lt om
   exact Z1 (ZJ ⟨(decide (k2>0)),pq+1,ob,rfl,rfl⟩ (wk [1,1,1,1,0,0] fl))
  exact Z1 (ZJ ⟨false,pq,ob,rfl,rfl⟩ (Zw 6 fl))
 rintro F h ⟨wb,p5,kR15_0,rfl,rfl⟩
 refine XA (fun fz gz F h=>∃(eQ:Z2) (p6:Nat),(GE g (f.params.length+2) 41 eQ)/\(p5<=p6/\p6<=p5+302)/\F=sF [0,2,3,5,8,9,15] fz []/\h=[.obj b4 (YY eQ),Zf gz 2,Zf gz 3,YG rd bs p6,Zf gz 5]) ?_ ?_
 ·refine ac wb Iff.rfl (fun Yh=>?_) (fun Yh=>?_)
  ·refine Zl 3 [3] (ic [4,4] (Kb rd bs p5 g gb rs (f.params++[0,1]) 0 4 (ZM:=ob) (hv:=(by first|omega|(simp only [ZV,Yp,Yx];omega)))) ?_)
   rintro _ _ ⟨e1,p21,rfl,rfl,Wo⟩
   have Xo:=Wo.1
   have Ke:=Wo.2
   try rw [ZV] at Xo
   rw [hbv.2.1] at Xo
   refine iA [.i 0,.i 0,nl] fun b5=>?_
   refine Zx 0 b5 (YY e1) (ie (aq (aq (XA (fun fz gz F h=>∃(wc:Bool),(True)/\F=sF [0,2,3,5,8,9,10,14,15,16] fz [(94,.b wc)]/\h=gz) ?_ ?_))))
   ·refine az (Z0 3 (ib (b:=(decide ((f.params.length:Int)>1))) 89 (fun Yn=>?_) (fun Yn=>?_)))
    ·refine Z0 1 ?_
     obtain ⟨x2,Zy⟩:=Zt f.params 0 om
     exact Zo (Zk none 0 1 (Y8 Zy)) (Z1 (ZJ ⟨(x2==2),ob,rfl,rfl⟩ (Zw 7 fl)))
    exact Z1 (ZJ ⟨false,ob,rfl,rfl⟩ (Zw 7 fl))
   rintro F h ⟨wc,kR17_0,rfl,rfl⟩
   refine XA (fun fz gz F h=>∃(eA:Z2),(GE g (f.params.length+2) 30 eA)/\F=sF [0,2,3,5,8,9,14,15,16] fz []/\h=[.obj b5 (YY eA),Zf gz 1,Zf gz 2,Zf gz 3,Zf gz 4,Zf gz 5,Zf gz 6]) ?_ ?_
   ·refine ac wc Iff.rfl (fun YM=>?_) (fun YM=>?_)
    ·exact az (Zu [] (Qo 0) (Z0 1 (Zu [] (Qo (f.params.length:Int)) (UO [Y7 (Z2.mk 12 0 []),Y7 (Z2.mk 12 (f.params.length:Int) [])] (Yz [Z2.mk 12 0 [],(Z2.mk 12 (f.params.length:Int) [])]) (XQ [Z2.mk 12 0 [],(Z2.mk 12 (f.params.length:Int) [])]).symm 2 3 fun v11=>ZQ 0 [(98,XD [Z2.mk 12 0 [],(Z2.mk 12 (f.params.length:Int) [])])] (Zu [] (XT 11 0 [Z2.mk 12 0 [],(Z2.mk 12 (f.params.length:Int) [])]) (Zx 1 b5 (YY (Z2.mk 11 0 [Z2.mk 12 0 [],(Z2.mk 12 (f.params.length:Int) [])])) (ie (ZJ ⟨(Z2.mk 11 0 [Z2.mk 12 0 [],(Z2.mk 12 (f.params.length:Int) [])]),(GE.two (s1:=1) (s2:=1) om om (GE.var om om om) (GE.var om om om) om),rfl,rfl⟩ (wk [0,1,1,1,1,1,1] fl)))))))))
    exact ak (ZJ ⟨e1,Xo,rfl,rfl⟩ (Zw 7 fl))
   rintro F h ⟨eA,Zbt,rfl,rfl⟩
   exact az (ZB 2 [0,4] (UO [Y7 eA,Y7 (Z2.mk 9 i ys)] (Yz [eA,Z2.mk 9 i ys]) (XQ [eA,Z2.mk 9 i ys]).symm 2 3 fun v12=>ZQ 0 [(102,XD [eA,Z2.mk 9 i ys])] (Zu [] (XT 6 1 [eA,Z2.mk 9 i ys]) (Zx 4 b4 (YY (Z2.mk 6 1 [eA,Z2.mk 9 i ys])) (ie (ZJ ⟨(Z2.mk 6 1 [eA,Z2.mk 9 i ys]),p21,(GE.two (s1:=30) (s2:=10) om om Zbt (GE.node (L:=f.params.length) (s:=3) (q:=10) om (fun _=>by omega) om Zz om om om) om),ob,rfl,rfl⟩ (wk [0,5,5,2,2] fl)))))))
  refine Zl 3 [3] (Zo (XI gb g.funcs.length 4 i.toNat 5 i) (Z0 1 (VC (WO 5 gb 4 4 5 (i.toNat * 5+1) (Z9 (Xu rs)) [.i f.result] 3 (.i f.result) (UK Wp hf 1 rfl (Vl rfl))) (YC (f.result==0) Zi (fun X1=>?_) (fun X1=>?_)))))
  ·refine aE 11 (ZX 6 11 [0,3,4,5,7] [3,1] (Z7 1 (dL 1 [1,3] [b3,b1] (Z6 [1,2]) 2 1 fun v13=>Yq 5 5 [] [(112,Z4 [1,2])] (Z7 2 (dc 2 [5] [1,3] [b3,b1] (T1 rd bs p5 [1,2] (ZM:=ob)) ?_)))))
   rintro _ _ ⟨z1,rfl,rfl,Tn⟩
   have hz:=C5 (a:=1) (b:=2) Tn (by decide)
   refine Z7 6 (dc 6 [0,5] [1] [b3] (Kb rd bs (p5+1) g gb rs (f.params++[0,1]) 0 4 (ZM:=ob) (hv:=(by first|omega|(simp only [ZV,Yp,Yx];omega)))) ?_)
   rintro _ _ ⟨e2,p22,rfl,rfl,TR⟩
   have Xo:=TR.1
   have Ke:=TR.2
   try rw [ZV] at Xo
   rw [hbv.2.1] at Xo
   exact Z7 8 (WG 8 [] [] [Y7 e2,Y7 (Z2.mk 9 i ys)] (Yz [e2,Z2.mk 9 i ys]) (XQ [e2,Z2.mk 9 i ys]).symm 2 3 fun v14=>Yq 2 2 [] [(119,XD [e2,Z2.mk 9 i ys])] (Z7 9 (YK 9 [] [] [] (XT z1 0 [e2,Z2.mk 9 i ys]) (Z7 10 (X0 10 4 [] [] b4 (YY (Z2.mk z1 0 [e2,Z2.mk 9 i ys])) (de (ZJ ⟨(Z2.mk z1 0 [e2,Z2.mk 9 i ys]),p22,(GE.two (s1:=30) (s2:=10) om om Xo (GE.node (L:=f.params.length) (s:=3) (q:=10) om (fun _=>by omega) om Zz om om om) om),ob,rfl,rfl⟩ (wk [0,5,5,1,1] fl))))))))
  exact ak (ZJ ⟨(Z2.mk 9 i ys),p5,(GE.le (GE.node (L:=f.params.length) (s:=3) (q:=10) om (fun _=>by omega) om Zz om om om) om),ob,rfl,rfl⟩ (wk [0,1,1,1,1] fl))
 rintro F h ⟨eQ,p6,Jk,Fj,rfl,rfl⟩
 refine aD 16 (ZX 9 16 [0,2,3,4,5,6,7] [2,2] (dx 8 (XI gb g.funcs.length 4 i.toNat 5 i) (Zs 7 8 [9] (UC 10 (WO 4 gb 4 4 5 (i.toNat * 5+1) (Z9 (Xu rs)) [.i f.result] 3 (.i f.result) (UK Wp hf 1 rfl (Vl rfl))) (ZX 5 6 [12] [0] (Z7 1 (YK 1 [] [0,4,2,2] [b4,gb,b1,b1] (Qo w) (Z7 11 (dc 11 [3,3] [0] [b4] (Kb rd bs p6 g gb rs f.params f.result 4 (ZM:=ob) (hv:=(by first|omega|(simp only [ZV,Yp,Yx];omega)))) ?_)))))))))
 rintro _ _ ⟨e3,p23,rfl,rfl,To⟩
 have Xo:=To.1
 have Ke:=To.2
 try rw [ZV] at Xo
 rw [hbv.2.1] at Xo
 exact Z7 13 (WG 13 [] [] [Y7 (Z2.mk 12 w []),Y7 e3,Y7 eQ] (Yz [Z2.mk 12 w [],e3,eQ]) (XQ [Z2.mk 12 w [],e3,eQ]).symm 3 3 fun v15=>Yq 2 2 [] [(134,XD [Z2.mk 12 w [],e3,eQ])] (Z7 14 (YK 14 [] [] [] (XT 8 1 [Z2.mk 12 w [],e3,eQ]) (Z7 15 (X0 15 4 [] [] b2 (YY (Z2.mk 8 1 [Z2.mk 12 w [],e3,eQ])) (de (ZT (r3 [2,2] [Y7 (Z2.mk 8 1 [Z2.mk 12 w [],e3,eQ])] [0] [(b2,b2)] ⟨(Z2.mk 8 1 [Z2.mk 12 w [],e3,eQ]),p23,rfl,rfl,⟨GE.matchL hg (s1:=1) (s2:=30) (s3:=41) (GE.var om om om) Xo Jk om,by omega⟩⟩ (lr _)))))))))
theorem Za0 (rd:Nat) (bs:LI) (p:Nat) (g:Wa) (gb:Nat) (rs:List Func) (f:Func) (i:Int) (ZM:∀z∈bs,0<=z/\z<=255) (hp:p+1000<=1000000000:=by exact ob) (hg:GP g:=by exact ob) (Wp:g.funcs <+: rs:=by exact ob) (hi:0<=i:=by exact ob) (hf:g.funcs[i.toNat]? = some f:=by exact ob) (h0:0<f.params.length:=by exact ob):Zm 182 [.p rd 0,.agg (Ws g gb),.i i] [YG rd bs p,XR gb rs] (fun r h=>∃(e:Z2) (p2:Nat),r=Y7 e/\h=[YG rd bs p2,XR gb rs]/\GE g f.params.length 200 e/\p<=p2/\p2<=p+1000):=by
 obtain ⟨hil,_⟩:=X9.1 hf
 have hgl:=hg.len
 have hso:=(hg.sigs f (Y4 hf)).bd
 have hbv:=EJ
 refine ZE 96 Tryz.func182 (ar (iA (Ws g gb) fun b1=>iA [.i 0,.i 0,nl] fun b2=>ie (Zl 3 [1] (Zo (XI gb g.funcs.length 4 i.toNat 5 i) (Z0 1 (VC (WO 3 gb 4 4 5 (i.toNat * 5+0) (Z9 (Xu rs)) [Z4 f.params] 29 (Z4 f.params) (UK Wp hf 0 rfl (Vl rfl))) (Z1 (Yf 1 (iw (Ye f.params) (Z1 (Yf 1 (Zu [] (Qo (f.params.length:Int)) (UO [Y7 (Z2.mk 12 (f.params.length:Int) [])] (Yz [(Z2.mk 12 (f.params.length:Int) [])]) (XQ [(Z2.mk 12 (f.params.length:Int) [])]).symm 1 3 fun v1=>Z1 (Yf 1 (ia (((f.params.length+2:Nat):Int)) (((f.params.length:Int))+(2)) (Zu [] (Qo ((f.params.length+2:Nat):Int)) (UO [Y7 (Z2.mk 12 ((f.params.length+2:Nat):Int) [])] (Yz [(Z2.mk 12 ((f.params.length+2:Nat):Int) [])]) (XQ [(Z2.mk 12 ((f.params.length+2:Nat):Int) [])]).symm 1 3 fun v2=>?_)))))))))))))))))
 refine Z1 (Y6 (ab 0 (Y2 (fun fz gz m F h=>∃(k:Nat) (ys:List Z2) (u:Value) (zs:List Z2) (w:Value),(1<=k/\k<=f.params.length)/\(ys.length=k)/\(zs.length=k)/\(∀e∈ys,GE g (f.params.length+3) 1 e)/\(∀e∈zs,GE g (f.params.length+3) 1 e)/\F=sF [0,2,4,6,7,8] fz [(9,QQ ys u),(10,QQ zs w),(11,.i k)]/\h=[Zf gz 2,Zf gz 3,Zf gz 4,Zf gz 5,.tail u 3,.tail w 3]/\m=f.params.length-k) _ _ _ ⟨1,[(Z2.mk 12 (f.params.length:Int) [])],v1,[(Z2.mk 12 ((f.params.length+2:Nat):Int) [])],v2,ob,ob,ob,(IN (GE.var om om om)),(IN (GE.var om om om)),rfl,rfl,rfl⟩ (wk [2,2,2,2,1,0] (fw (fc (x:=.i 1) li fl))) ?_)))
 rintro m F h ⟨k,ys,u,zs,w,Yj,Zg,Zz,YN,Wh,rfl,rfl,rfl⟩
 refine Xj (Y3 ((k:Int)<(f.params.length:Int)) (fun Za=>?_) (fun Za=>?_))
 ·exact ak (aq (ab 1 (Yf 2 (Zu [] (Qo (k:Int)) (UO [Y7 (Z2.mk 12 (k:Int) [])] (Yz [(Z2.mk 12 (k:Int) [])]) (XQ [(Z2.mk 12 (k:Int) [])]).symm 1 3 fun v3=>ZQ 0 [(38,XD [(Z2.mk 12 (k:Int) [])])] (ip 5 (Yz (ys++[(Z2.mk 12 (k:Int) [])])) (Yz ys) (Yz [(Z2.mk 12 (k:Int) [])]) u none 3 (Te _) (Te _) (Au _) (by simp<;>omega) (by simp [At,Yz]) fun v4=>Z1 (az (Z0 2 (Zu [] (Qo (k:Int)) (UO [Y7 (Z2.mk 12 (k:Int) [])] (Yz [(Z2.mk 12 (k:Int) [])]) (XQ [(Z2.mk 12 (k:Int) [])]).symm 1 3 fun v5=>ZQ 0 [(43,XD [(Z2.mk 12 (k:Int) [])])] (ip 7 (Yz (zs++[(Z2.mk 12 (k:Int) [])])) (Yz zs) (Yz [(Z2.mk 12 (k:Int) [])]) w none 3 (Te _) (Te _) (Au _) (by simp<;>omega) (by simp [At,Yz]) fun v6=>Z1 (az (Z0 1 (ZD k (Z1 (ZI ⟨k+1,(ys++[(Z2.mk 12 (k:Int) [])]),v4,(zs++[(Z2.mk 12 (k:Int) [])]),v6,ob,ob,ob,(XF YN (GE.var om om om)),(XF Wh (GE.var om om om)),rfl,rfl,rfl⟩ (wk [4,4,4,4,2,0] (fw (ZK k fl)))))))))))))))))))
 refine ax 0 (ar (ZQ 2 [(46,XD ys)] (Zu [] (XT 9 i ys) (iA [.i 0,.i 0,nl] fun b3=>Zx 0 b3 (YY (Z2.mk 9 i ys)) (ie (ar (ZQ 2 [(49,XD zs)] (Zu [] (XT 9 i zs) (iA [.i 0,.i 0,nl] fun b4=>?_)))))))))
 refine Zx 0 b4 (YY (Z2.mk 9 i zs)) (ie (aD 14 (ZX 9 14 [0,1,2,3,7] [1,3,0] (BN (fun fz gz F h=>∃(e1:Z2) (p21:Nat) (b5:Nat),(GE g (f.params++[3,0,3]).length (bS 4) e1/\p<=p21/\p21<=p+bC 4)/\F=sF [0,2,4,6,7,8,12] fz [(14,.p b5 0)]/\h=[.obj b5 (YY (Z2.mk 1 0 [Z2.mk 9 i ys,Z2.mk 1 0 [e1,Z2.mk 9 i zs]])),YG rd bs p21,Zf gz 5,Zf gz 0,Zf gz 1,Zf gz 2,Zf gz 3,Zf gz 6,Zf gz 7]) ?_ ?_))))
 ·refine Us 4 12 ?_ ?_
  ·refine dL 4 [0,3,1] [b4,b1,b3] (Z6 [3,0,3]) 3 1 fun v7=>Yq 8 8 [] [(55,Z4 [3,0,3])] (Us 5 12 ?_ ?_)
   ·refine dc 5 [] [0,3,1] [b4,b1,b3] (TE f.params [3,0,3]) ?_
    rintro _ _ ⟨v8,rfl,rfl⟩
    refine Yq 7 7 [] [(56,Z4 (f.params++[3,0,3]))] (Us 6 12 ?_ ?_)
    ·refine dc 6 [6,6] [0,1] [b4,b3] (Kb rd bs p g gb rs (f.params++[3,0,3]) 0 4 (ZM:=ob) (hv:=(by first|omega|(simp only [ZV,Yp,Yx];omega)))) ?_
     rintro _ _ ⟨e1,p21,rfl,rfl,Y9⟩
     have Xo:=Y9.1
     have Ke:=Y9.2
     try rw [ZV] at Xo
     rw [hbv.2.1] at Xo
     refine Us 8 12 ?_ ?_
     ·refine WG 8 [3] [b3] [Y7 e1,Y7 (Z2.mk 9 i zs)] (Yz [e1,Z2.mk 9 i zs]) (XQ [e1,Z2.mk 9 i zs]).symm 2 3 fun v9=>Yq 5 5 [] [(59,XD [e1,Z2.mk 9 i zs])] (Us 9 12 ?_ ?_)
      ·refine YK 9 [] [3] [b3] (XT 1 0 [e1,Z2.mk 9 i zs]) (Us 10 12 ?_ ?_)
       ·refine WG 10 [] [] [Y7 (Z2.mk 9 i ys),Y7 (Z2.mk 1 0 [e1,Z2.mk 9 i zs])] (Yz [Z2.mk 9 i ys,Z2.mk 1 0 [e1,Z2.mk 9 i zs]]) (XQ [Z2.mk 9 i ys,Z2.mk 1 0 [e1,Z2.mk 9 i zs]]).symm 2 3 fun v10=>Yq 3 3 [] [(61,XD [Z2.mk 9 i ys,Z2.mk 1 0 [e1,Z2.mk 9 i zs]])] (Us 11 12 ?_ ?_)
        ·exact YK 11 [] [] [] (XT 1 0 [Z2.mk 9 i ys,Z2.mk 1 0 [e1,Z2.mk 9 i zs]]) (Z7 12 (dA 12 [] [] [.i 0,.i 0,nl] fun b5=>Z7 13 (X0 13 0 [] [] b5 (YY (Z2.mk 1 0 [Z2.mk 9 i ys,Z2.mk 1 0 [e1,Z2.mk 9 i zs]])) (de (ZJ ⟨e1,p21,b5,(by assumption),rfl,rfl⟩ (wk [0,2,2,4,4,4,4,4,4] fl))))))
        exact dA 12 [] [] [.i 0,.i 0,nl] fun b6=>Z7 11 (YK 11 [] [] [] (XT 1 0 [Z2.mk 9 i ys,Z2.mk 1 0 [e1,Z2.mk 9 i zs]]) (Z7 13 (X0 13 0 [] [] b6 (YY (Z2.mk 1 0 [Z2.mk 9 i ys,Z2.mk 1 0 [e1,Z2.mk 9 i zs]])) (de (ZJ ⟨e1,p21,b6,(by assumption),rfl,rfl⟩ (wk [0,2,2,4,4,4,4,4,4] fl))))))
       exact dA 12 [3] [b3] [.i 0,.i 0,nl] fun b7=>Z7 10 (WG 10 [] [] [Y7 (Z2.mk 9 i ys),Y7 (Z2.mk 1 0 [e1,Z2.mk 9 i zs])] (Yz [Z2.mk 9 i ys,Z2.mk 1 0 [e1,Z2.mk 9 i zs]]) (XQ [Z2.mk 9 i ys,Z2.mk 1 0 [e1,Z2.mk 9 i zs]]).symm 2 3 fun v11=>Yq 2 2 [] [(61,XD [Z2.mk 9 i ys,Z2.mk 1 0 [e1,Z2.mk 9 i zs]])] (Z7 11 (YK 11 [] [] [] (XT 1 0 [Z2.mk 9 i ys,Z2.mk 1 0 [e1,Z2.mk 9 i zs]]) (Z7 13 (X0 13 1 [] [] b7 (YY (Z2.mk 1 0 [Z2.mk 9 i ys,Z2.mk 1 0 [e1,Z2.mk 9 i zs]])) (de (ZJ ⟨e1,p21,b7,(by assumption),rfl,rfl⟩ (wk [0,2,2,4,4,4,4,4,4] fl))))))))
      exact dA 12 [3] [b3] [.i 0,.i 0,nl] fun b8=>Z7 9 (YK 9 [] [4] [b3] (XT 1 0 [e1,Z2.mk 9 i zs]) (Z7 10 (WG 10 [] [] [Y7 (Z2.mk 9 i ys),Y7 (Z2.mk 1 0 [e1,Z2.mk 9 i zs])] (Yz [Z2.mk 9 i ys,Z2.mk 1 0 [e1,Z2.mk 9 i zs]]) (XQ [Z2.mk 9 i ys,Z2.mk 1 0 [e1,Z2.mk 9 i zs]]).symm 2 3 fun v12=>Yq 2 2 [] [(61,XD [Z2.mk 9 i ys,Z2.mk 1 0 [e1,Z2.mk 9 i zs]])] (Z7 11 (YK 11 [] [] [] (XT 1 0 [Z2.mk 9 i ys,Z2.mk 1 0 [e1,Z2.mk 9 i zs]]) (Z7 13 (X0 13 1 [] [] b8 (YY (Z2.mk 1 0 [Z2.mk 9 i ys,Z2.mk 1 0 [e1,Z2.mk 9 i zs]])) (de (ZJ ⟨e1,p21,b8,(by assumption),rfl,rfl⟩ (wk [0,2,2,4,4,4,4,4,4] fl))))))))))
     exact dA 12 [2,3] [b4,b3] [.i 0,.i 0,nl] fun b9=>Z7 8 (WG 8 [4] [b3] [Y7 e1,Y7 (Z2.mk 9 i zs)] (Yz [e1,Z2.mk 9 i zs]) (XQ [e1,Z2.mk 9 i zs]).symm 2 3 fun v13=>Yq 4 4 [] [(59,XD [e1,Z2.mk 9 i zs])] (Z7 9 (YK 9 [] [4] [b3] (XT 1 0 [e1,Z2.mk 9 i zs]) (Z7 10 (WG 10 [] [] [Y7 (Z2.mk 9 i ys),Y7 (Z2.mk 1 0 [e1,Z2.mk 9 i zs])] (Yz [Z2.mk 9 i ys,Z2.mk 1 0 [e1,Z2.mk 9 i zs]]) (XQ [Z2.mk 9 i ys,Z2.mk 1 0 [e1,Z2.mk 9 i zs]]).symm 2 3 fun v14=>Yq 2 2 [] [(61,XD [Z2.mk 9 i ys,Z2.mk 1 0 [e1,Z2.mk 9 i zs]])] (Z7 11 (YK 11 [] [] [] (XT 1 0 [Z2.mk 9 i ys,Z2.mk 1 0 [e1,Z2.mk 9 i zs]]) (Z7 13 (X0 13 2 [] [] b9 (YY (Z2.mk 1 0 [Z2.mk 9 i ys,Z2.mk 1 0 [e1,Z2.mk 9 i zs]])) (de (ZJ ⟨e1,p21,b9,(by assumption),rfl,rfl⟩ (wk [0,2,2,4,4,4,4,4,4] fl))))))))))))
    refine dA 12 [0,3,1] [b4,b1,b3] [.i 0,.i 0,nl] fun b10=>Z7 6 (dc 6 [7,7] [1,2] [b4,b3] (Kb rd bs p g gb rs (f.params++[3,0,3]) 0 4 (ZM:=ob) (hv:=(by first|omega|(simp only [ZV,Yp,Yx];omega)))) ?_)
    rintro _ _ ⟨e2,p22,rfl,rfl,Yt⟩
    have Xo:=Yt.1
    have Ke:=Yt.2
    try rw [ZV] at Xo
    rw [hbv.2.1] at Xo
    exact Z7 8 (WG 8 [4] [b3] [Y7 e2,Y7 (Z2.mk 9 i zs)] (Yz [e2,Z2.mk 9 i zs]) (XQ [e2,Z2.mk 9 i zs]).symm 2 3 fun v15=>Yq 4 4 [] [(59,XD [e2,Z2.mk 9 i zs])] (Z7 9 (YK 9 [] [4] [b3] (XT 1 0 [e2,Z2.mk 9 i zs]) (Z7 10 (WG 10 [] [] [Y7 (Z2.mk 9 i ys),Y7 (Z2.mk 1 0 [e2,Z2.mk 9 i zs])] (Yz [Z2.mk 9 i ys,Z2.mk 1 0 [e2,Z2.mk 9 i zs]]) (XQ [Z2.mk 9 i ys,Z2.mk 1 0 [e2,Z2.mk 9 i zs]]).symm 2 3 fun v16=>Yq 2 2 [] [(61,XD [Z2.mk 9 i ys,Z2.mk 1 0 [e2,Z2.mk 9 i zs]])] (Z7 11 (YK 11 [] [] [] (XT 1 0 [Z2.mk 9 i ys,Z2.mk 1 0 [e2,Z2.mk 9 i zs]]) (Z7 13 (X0 13 4 [] [] b10 (YY (Z2.mk 1 0 [Z2.mk 9 i ys,Z2.mk 1 0 [e2,Z2.mk 9 i zs]])) (de (ZJ ⟨e2,p22,b10,(by assumption),rfl,rfl⟩ (wk [0,2,2,4,4,4,4,4,4] fl))))))))))))
   refine dA 12 [0,3,1] [b4,b1,b3] [.i 0,.i 0,nl] fun b11=>Z7 5 (dc 5 [] [1,4,2] [b4,b1,b3] (TE f.params [3,0,3]) ?_)
   rintro _ _ ⟨v17,rfl,rfl⟩
   refine Yq 6 6 [] [(56,Z4 (f.params++[3,0,3]))] (Z7 6 (dc 6 [7,7] [1,2] [b4,b3] (Kb rd bs p g gb rs (f.params++[3,0,3]) 0 4 (ZM:=ob) (hv:=(by first|omega|(simp only [ZV,Yp,Yx];omega)))) ?_))
   rintro _ _ ⟨e3,p23,rfl,rfl,YS⟩
   have Xo:=YS.1
   have Ke:=YS.2
   try rw [ZV] at Xo
   rw [hbv.2.1] at Xo
   exact Z7 8 (WG 8 [4] [b3] [Y7 e3,Y7 (Z2.mk 9 i zs)] (Yz [e3,Z2.mk 9 i zs]) (XQ [e3,Z2.mk 9 i zs]).symm 2 3 fun v18=>Yq 4 4 [] [(59,XD [e3,Z2.mk 9 i zs])] (Z7 9 (YK 9 [] [4] [b3] (XT 1 0 [e3,Z2.mk 9 i zs]) (Z7 10 (WG 10 [] [] [Y7 (Z2.mk 9 i ys),Y7 (Z2.mk 1 0 [e3,Z2.mk 9 i zs])] (Yz [Z2.mk 9 i ys,Z2.mk 1 0 [e3,Z2.mk 9 i zs]]) (XQ [Z2.mk 9 i ys,Z2.mk 1 0 [e3,Z2.mk 9 i zs]]).symm 2 3 fun v19=>Yq 2 2 [] [(61,XD [Z2.mk 9 i ys,Z2.mk 1 0 [e3,Z2.mk 9 i zs]])] (Z7 11 (YK 11 [] [] [] (XT 1 0 [Z2.mk 9 i ys,Z2.mk 1 0 [e3,Z2.mk 9 i zs]]) (Z7 13 (X0 13 5 [] [] b11 (YY (Z2.mk 1 0 [Z2.mk 9 i ys,Z2.mk 1 0 [e3,Z2.mk 9 i zs]])) (de (ZJ ⟨e3,p23,b11,(by assumption),rfl,rfl⟩ (wk [0,2,2,4,4,4,4,4,4] fl))))))))))))
  refine dA 12 [0,3,1] [b4,b1,b3] [.i 0,.i 0,nl] fun b12=>Z7 4 (dL 4 [1,4,2] [b4,b1,b3] (Z6 [3,0,3]) 3 1 fun v20=>Yq 7 7 [] [(55,Z4 [3,0,3])] (Z7 5 (dc 5 [] [1,4,2] [b4,b1,b3] (TE f.params [3,0,3]) ?_)))
  rintro _ _ ⟨v21,rfl,rfl⟩
  refine Yq 6 6 [] [(56,Z4 (f.params++[3,0,3]))] (Z7 6 (dc 6 [7,7] [1,2] [b4,b3] (Kb rd bs p g gb rs (f.params++[3,0,3]) 0 4 (ZM:=ob) (hv:=(by first|omega|(simp only [ZV,Yp,Yx];omega)))) ?_))
  rintro _ _ ⟨e4,p24,rfl,rfl,X2⟩
  have Xo:=X2.1
  have Ke:=X2.2
  try rw [ZV] at Xo
  rw [hbv.2.1] at Xo
  exact Z7 8 (WG 8 [4] [b3] [Y7 e4,Y7 (Z2.mk 9 i zs)] (Yz [e4,Z2.mk 9 i zs]) (XQ [e4,Z2.mk 9 i zs]).symm 2 3 fun v22=>Yq 4 4 [] [(59,XD [e4,Z2.mk 9 i zs])] (Z7 9 (YK 9 [] [4] [b3] (XT 1 0 [e4,Z2.mk 9 i zs]) (Z7 10 (WG 10 [] [] [Y7 (Z2.mk 9 i ys),Y7 (Z2.mk 1 0 [e4,Z2.mk 9 i zs])] (Yz [Z2.mk 9 i ys,Z2.mk 1 0 [e4,Z2.mk 9 i zs]]) (XQ [Z2.mk 9 i ys,Z2.mk 1 0 [e4,Z2.mk 9 i zs]]).symm 2 3 fun v23=>Yq 2 2 [] [(61,XD [Z2.mk 9 i ys,Z2.mk 1 0 [e4,Z2.mk 9 i zs]])] (Z7 11 (YK 11 [] [] [] (XT 1 0 [Z2.mk 9 i ys,Z2.mk 1 0 [e4,Z2.mk 9 i zs]]) (Z7 13 (X0 13 6 [] [] b12 (YY (Z2.mk 1 0 [Z2.mk 9 i ys,Z2.mk 1 0 [e4,Z2.mk 9 i zs]])) (de (ZJ ⟨e4,p24,b12,(by assumption),rfl,rfl⟩ (wk [0,2,2,4,4,4,4,4,4] fl))))))))))))
 rintro F h ⟨e1,p21,b5,Y9,rfl,rfl⟩
 have Xo:=Y9.1
 have Ke:=Y9.2
 try rw [ZV] at Xo
 rw [hbv.2.1] at Xo
 refine Ym 3 [6] (Zo (XI gb g.funcs.length 4 i.toNat 5 i) (Z0 1 (VC (WO 2 gb 4 4 5 (i.toNat * 5+1) (Z9 (Xu rs)) [.i f.result] 3 (.i f.result) (UK Wp hf 1 rfl (Vl rfl))) (Z1 (XA (fun fz gz F h=>∃(eQ:Z2) (p6:Nat),(GE g (f.params.length+3) 52 eQ)/\(p<=p6/\p6<=p+650)/\F=sF [0,2,4,6,7,14] fz []/\h=[.obj b5 (YY eQ),YG rd bs p6,Zf gz 2,Zf gz 5,Zf gz 6]) ?_ ?_)))))
 ·refine ac (f.result==3) Zi (fun Zj=>?_) (fun Zj=>?_)
  ·refine aE 13 (ZX 8 13 [0,1,2,3,7] [4,6] (da 8 (((f.params.length+2:Nat):Int)) (((f.params.length:Int))+(2)) (Z7 4 (dL 4 [6,4] [b1,b3] (Z6 [3,0,3]) 3 1 fun v24=>Yq 6 6 [] [(74,Z4 [3,0,3])] (Z7 5 (dc 5 [] [6,4] [b1,b3] (TE f.params [3,0,3]) ?_))))))
   rintro _ _ ⟨v25,rfl,rfl⟩
   refine Yq 5 5 [] [(75,Z4 (f.params++[3,0,3]))] (Z7 6 (dc 6 [3,3] [2] [b3] (Kb rd bs p21 g gb rs (f.params++[3,0,3]) 0 4 (ZM:=ob) (hv:=(by first|omega|(simp only [ZV,Yp,Yx];omega)))) ?_))
   rintro _ _ ⟨e5,p25,rfl,rfl,Xk⟩
   have Xo:=Xk.1
   have Ke:=Xk.2
   try rw [ZV] at Xo
   rw [hbv.2.1] at Xo
   exact Z7 9 (YK 9 [] [4] [b3] (Qo ((f.params.length+2:Nat):Int)) (Z7 10 (WG 10 [] [] [Y7 (Z2.mk 9 i ys),Y7 e5,Y7 (Z2.mk 12 ((f.params.length+2:Nat):Int) [])] (Yz [Z2.mk 9 i ys,e5,(Z2.mk 12 ((f.params.length+2:Nat):Int) [])]) (XQ [Z2.mk 9 i ys,e5,(Z2.mk 12 ((f.params.length+2:Nat):Int) [])]).symm 3 3 fun v26=>Yq 2 2 [] [(80,XD [Z2.mk 9 i ys,e5,(Z2.mk 12 ((f.params.length+2:Nat):Int) [])])] (Z7 11 (YK 11 [] [] [] (XT 6 3 [Z2.mk 9 i ys,e5,(Z2.mk 12 ((f.params.length+2:Nat):Int) [])]) (Z7 12 (X0 12 5 [] [] b5 (YY (Z2.mk 6 3 [Z2.mk 9 i ys,e5,(Z2.mk 12 ((f.params.length+2:Nat):Int) [])])) (de (ZJ ⟨(Z2.mk 6 3 [Z2.mk 9 i ys,e5,(Z2.mk 12 ((f.params.length+2:Nat):Int) [])]),p25,(GE.three (s1:=10) (s2:=30) (s3:=1) om om (GE.node (L:=f.params.length) (s:=1) (q:=10) om (fun _=>by omega) om YN om om om) Xo (GE.var om om om) om),ob,rfl,rfl⟩ (wk [0,1,1,5,5] fl))))))))))
  exact ak (ZJ ⟨(Z2.mk 1 0 [Z2.mk 9 i ys,Z2.mk 1 0 [e1,Z2.mk 9 i zs]]),p21,(GE.two (s1:=10) (s2:=41) om om (GE.node (L:=f.params.length) (s:=1) (q:=10) om (fun _=>by omega) om YN om om om) (GE.two (s1:=30) (s2:=10) om om Xo (GE.node (L:=f.params.length) (s:=1) (q:=10) om (fun _=>by omega) om Wh om om om) om) om),ob,rfl,rfl⟩ (wk [0,0,0,2,2] fl))
 rintro F h ⟨eQ,p6,VL,Bm,rfl,rfl⟩
 refine aD 15 (ZX 9 15 [1,2,3,4,5,6] [4,4] (dx 7 (XI gb g.funcs.length 4 i.toNat 5 i) (Zs 7 8 [8] (UC 9 (WO 2 gb 4 4 5 (i.toNat * 5+1) (Z9 (Xu rs)) [.i f.result] 3 (.i f.result) (UK Wp hf 1 rfl (Vl rfl))) (ZX 5 6 [11] [0] (Z7 0 (YK 0 [] [0,2,4,4] [b5,gb,b1,b1] (Qo 0) (Z7 10 (dc 10 [1,1] [0] [b5] (Kb rd bs p6 g gb rs f.params f.result 4 (ZM:=ob) (hv:=(by first|omega|(simp only [ZV,Yp,Yx];omega)))) ?_)))))))))
 rintro _ _ ⟨e6,p26,rfl,rfl,XU⟩
 have Xo:=XU.1
 have Ke:=XU.2
 try rw [ZV] at Xo
 rw [hbv.2.1] at Xo
 exact Z7 12 (WG 12 [] [] [Y7 (Z2.mk 12 0 []),Y7 e6,Y7 eQ] (Yz [Z2.mk 12 0 [],e6,eQ]) (XQ [Z2.mk 12 0 [],e6,eQ]).symm 3 3 fun v27=>Yq 2 2 [] [(94,XD [Z2.mk 12 0 [],e6,eQ])] (Z7 13 (YK 13 [] [] [] (XT 8 3 [Z2.mk 12 0 [],e6,eQ]) (Z7 14 (X0 14 4 [] [] b2 (YY (Z2.mk 8 3 [Z2.mk 12 0 [],e6,eQ])) (de (ZT (r3 [2,2] [Y7 (Z2.mk 8 3 [Z2.mk 12 0 [],e6,eQ])] [0] [(b2,b2)] ⟨(Z2.mk 8 3 [Z2.mk 12 0 [],e6,eQ]),p26,rfl,rfl,⟨GE.matchT hg (s1:=1) (s2:=30) (s3:=52) (GE.var om om om) Xo VL om,by omega⟩⟩ (lr _)))))))))
theorem Z95 (rd:Nat) (bs:LI) (p:Nat) (g:Wa) (gb:Nat) (rs:List Func) (f:Func) (i:Int) (ZM:∀z∈bs,0<=z/\z<=255) (hp:p+1000<=1000000000:=by exact ob) (hg:GP g:=by exact ob) (Wp:g.funcs <+: rs:=by exact ob) (hi:0<=i:=by exact ob) (hf:g.funcs[i.toNat]? = some f:=by exact ob) (h0:0<f.params.length:=by exact ob):Zm 183 [.p rd 0,.agg (Ws g gb),.i i] [YG rd bs p,XR gb rs] (fun r h=>∃(e:Z2) (p2:Nat),r=Y7 e/\h=[YG rd bs p2,XR gb rs]/\GE g f.params.length 200 e/\p<=p2/\p2<=p+1000):=by
 obtain ⟨hil,_⟩:=X9.1 hf
 have hgl:=hg.len
 have hso:=(hg.sigs f (Y4 hf)).bd
 have hbv:=EJ
 refine ZE 75 Tryz.func183 (ar (iA (Ws g gb) fun b1=>iA [.i 0,.i 0,nl] fun b2=>ie (Zl 3 [1] (Zo (XI gb g.funcs.length 4 i.toNat 5 i) (Z0 1 (VC (WO 3 gb 4 4 5 (i.toNat * 5+0) (Z9 (Xu rs)) [Z4 f.params] 29 (Z4 f.params) (UK Wp hf 0 rfl (Vl rfl))) (Z1 (ar (Zu [] (Qo 0) (Zu [] (Be 1) (UO [Y7 (Z2.mk 12 0 []),Y7 (Z2.mk 0 1 [])] (Yz [Z2.mk 12 0 [],Z2.mk 0 1 []]) (XQ [Z2.mk 12 0 [],Z2.mk 0 1 []]).symm 2 3 fun v1=>ZQ 0 [(20,XD [Z2.mk 12 0 [],Z2.mk 0 1 []])] (Zu [] (XT 2 0 [Z2.mk 12 0 [],Z2.mk 0 1 []]) (UO [Y7 (Z2.mk 2 0 [Z2.mk 12 0 [],Z2.mk 0 1 []])] (Yz [Z2.mk 2 0 [Z2.mk 12 0 [],Z2.mk 0 1 []]]) (XQ [Z2.mk 2 0 [Z2.mk 12 0 [],Z2.mk 0 1 []]]).symm 1 3 fun v2=>?_)))))))))))))
 refine Z1 (Y6 (ab 0 (Y2 (fun fz gz m F h=>∃(k:Nat) (ys:List Z2) (u:Value) (pq:Nat),(1<=k/\k<=f.params.length)/\(ys.length=k)/\(∀e∈ys,GE g f.params.length 4 e)/\(p<=pq/\pq<=p+30*k)/\F=sF [0,2,4,6,7] fz [(8,QQ ys u),(9,.i k)]/\h=[Zf gz 2,Zf gz 3,YG rd bs pq,Zf gz 5,.tail u 3]/\m=f.params.length-k) _ _ _ ⟨1,[Z2.mk 2 0 [Z2.mk 12 0 [],Z2.mk 0 1 []]],v2,p,ob,ob,(IN (GE.two (s1:=1) (s2:=1) om om (GE.var om om om) (GE.int om om) om)),ob,rfl,rfl,rfl⟩ (wk [2,2,2,2,0] (fr (fc (x:=.i 1) li fl))) ?_)))
 rintro m F h ⟨k,ys,u,pq,Yj,Zg,Zz,YN,rfl,rfl,rfl⟩
 refine YQ 2 (iw (Ye f.params) (Y3 ((k:Int)<(f.params.length:Int)) (fun Za=>?_) (fun Za=>?_)))
 ·refine ak (aq (ab 1 (aE 12 (ZX 6 12 [0,1,2,3,4,5] [1] ?_))))
  obtain ⟨x1,Z3⟩:=Zt f.params k om
  refine dx 6 (Zk none (k:Int) 1 (Y8 Z3)) (Zs 4 5 [7] (Z7 8 (dc 8 [2,2] [] [] (DT rd bs pq g gb rs f.params x1 (ZM:=ob)) ?_)))
  rintro _ _ ⟨e1,p21,rfl,rfl,Y9⟩
  have hle:=Y9.1
  exact Z7 9 (WG 9 [] [] [Y7 e1] (Yz [e1]) (XQ [e1]).symm 1 3 fun v3=>Yq 2 2 [] [(38,XD [e1])] (Z7 10 (dp 10 5 [] [] (Yz (ys++[e1])) (Yz ys) (Yz [e1]) u none 3 (Te _) (Te _) (Au _) (by simp<;>omega) (by simp [At,Yz]) fun v4=>Zs 0 1 [11] (de (az (Z0 1 (ZD k (Z1 (ZI ⟨k+1,(ys++[e1]),v4,p21,ob,ob,(XF Zz hle),ob,rfl,rfl,rfl⟩ (wk [4,4,2,2,0] (fr (ZK k fl))))))))))))
 refine ax 0 (ar (ZQ 2 [(41,XD ys)] (Zu [] (XT 9 i ys) (iA [.i 0,.i 0,nl] fun b3=>?_))))
 refine Zx 0 b3 (YY (Z2.mk 9 i ys)) (ie (Ym 3 [2] (Zo (XI gb g.funcs.length 4 i.toNat 5 i) (Z0 1 (VC (WO 4 gb 4 4 5 (i.toNat * 5+1) (Z9 (Xu rs)) [.i f.result] 3 (.i f.result) (UK Wp hf 1 rfl (Vl rfl))) (Z1 (XA (fun fz gz F h=>∃(eQ:Z2) (p6:Nat),(GE g f.params.length 34 eQ)/\(p<=p6/\p6<=p+350)/\F=sF [0,2,4,6,7,10] fz []/\h=[.obj b3 (YY eQ),Zf gz 1,Zf gz 2,YG rd bs p6,Zf gz 4]) ?_ ?_)))))))
 ·refine ac (f.result==1) Zi (fun Zj=>?_) (fun Zj=>?_)
  ·refine aE 8 (ZX 4 8 [0,1,2,4] [2,0] (Z7 3 (dc 3 [3,3] [0] [b3] (Kb rd bs pq g gb rs f.params 0 3 (ZM:=ob)) ?_)))
   rintro _ _ ⟨e2,p22,rfl,rfl,Yt⟩
   have Xo:=Yt.1
   have Ke:=Yt.2
   try rw [ZV] at Xo
   first|rw [hbv.2.1] at Xo|rw [hbv.1] at Xo
   exact Z7 5 (WG 5 [] [] [Y7 e2,Y7 (Z2.mk 9 i ys)] (Yz [e2,Z2.mk 9 i ys]) (XQ [e2,Z2.mk 9 i ys]).symm 2 3 fun v5=>Yq 2 2 [] [(55,XD [e2,Z2.mk 9 i ys])] (Z7 6 (YK 6 [] [] [] (XT 6 1 [e2,Z2.mk 9 i ys]) (Z7 7 (X0 7 3 [] [] b3 (YY (Z2.mk 6 1 [e2,Z2.mk 9 i ys])) (de (ZJ ⟨(Z2.mk 6 1 [e2,Z2.mk 9 i ys]),p22,(GE.two (s1:=20) (s2:=13) om om Xo (GE.node (L:=f.params.length) (s:=4) (q:=13) om (fun _=>by omega) om Zz om om om) om),ob,rfl,rfl⟩ (wk [0,3,3,1,1] fl))))))))
  exact ak (ZJ ⟨(Z2.mk 9 i ys),pq,(GE.le (GE.node (L:=f.params.length) (s:=4) (q:=13) om (fun _=>by omega) om Zz om om om) om),ob,rfl,rfl⟩ (Zw 5 fl))
 rintro F h ⟨eQ,p6,VL,Bm,rfl,rfl⟩
 refine ar (Zu [] (Be 0) (Zu [] (Qo 0) (UO [Y7 (Z2.mk 0 0 []),Y7 (Z2.mk 12 0 [])] (Yz [Z2.mk 0 0 [],Z2.mk 12 0 []]) (XQ [Z2.mk 0 0 [],Z2.mk 12 0 []]).symm 2 3 fun v6=>ZQ 0 [(59,XD [Z2.mk 0 0 [],Z2.mk 12 0 []])] (Zu [] (XT 4 0 [Z2.mk 0 0 [],Z2.mk 12 0 []]) (iA [.i 0,.i 0,nl] fun b4=>Zx 0 b4 (YY (Z2.mk 4 0 [Z2.mk 0 0 [],Z2.mk 12 0 []])) (ie (aD 15 (ZX 7 15 [0,1,2,3,4,5,6,7] [0,2,4,4] (dx 8 (XI gb g.funcs.length 4 i.toNat 5 i) (Zs 5 6 [9] (UC 10 (WO 6 gb 4 4 5 (i.toNat * 5+1) (Z9 (Xu rs)) [.i f.result] 3 (.i f.result) (UK Wp hf 1 rfl (Vl rfl))) (Z7 11 (dc 11 [5,5] [1,0] [b3,b4] (Kb rd bs p6 g gb rs f.params f.result 4 (ZM:=ob)) ?_)))))))))))))
 rintro _ _ ⟨e3,p23,rfl,rfl,YS⟩
 have Xo:=YS.1
 have Ke:=YS.2
 try rw [ZV] at Xo
 first|rw [hbv.2.1] at Xo|rw [hbv.1] at Xo
 exact Z7 12 (WG 12 [] [] [Y7 (Z2.mk 4 0 [Z2.mk 0 0 [],Z2.mk 12 0 []]),Y7 eQ,Y7 e3] (Yz [Z2.mk 4 0 [Z2.mk 0 0 [],Z2.mk 12 0 []],eQ,e3]) (XQ [Z2.mk 4 0 [Z2.mk 0 0 [],Z2.mk 12 0 []],eQ,e3]).symm 3 3 fun v7=>Yq 2 2 [] [(73,XD [Z2.mk 4 0 [Z2.mk 0 0 [],Z2.mk 12 0 []],eQ,e3])] (Z7 13 (YK 13 [] [] [] (XT 7 0 [Z2.mk 4 0 [Z2.mk 0 0 [],Z2.mk 12 0 []],eQ,e3]) (Z7 14 (X0 14 6 [] [] b2 (YY (Z2.mk 7 0 [Z2.mk 4 0 [Z2.mk 0 0 [],Z2.mk 12 0 []],eQ,e3])) (de (ZT (r3 [2,2] [Y7 (Z2.mk 7 0 [Z2.mk 4 0 [Z2.mk 0 0 [],Z2.mk 12 0 []],eQ,e3])] [0] [(b2,b2)] ⟨(Z2.mk 7 0 [Z2.mk 4 0 [Z2.mk 0 0 [],Z2.mk 12 0 []],eQ,e3]),p23,rfl,rfl,⟨GE.three (s1:=3) (s2:=34) (s3:=30) om om (GE.two (s1:=1) (s2:=1) om om (GE.int om om) (GE.var om om om) om) VL Xo om,by omega⟩⟩ (lr _)))))))))
theorem Za2 (xs:LI) (t:Int) (hl:xs.length<=1000:=by exact ob):Zm 178 [Z4 xs,.i t] [] (fun r h=>∃(w:Int),r=.i w/\h=[]/\-1<=w/\w<xs.length):=by
 refine ZE 19 Tryz.func178 (Y0 (Y6 (ab 0 (Y2 (fun fz gz m F h=>∃(k:Nat),(k<=xs.length)/\F=sF [0,1] fz [(5,.i k)]/\h=gz/\m=xs.length-k) _ _ _ ⟨0,ob,rfl,rfl,rfl⟩ (wk [] (Yc fl)) ?_))))
 rintro m F h ⟨k,Yj,rfl,rfl,rfl⟩
 refine YQ 2 (iw (Ye xs) (Y3 ((k:Int)<(xs.length:Int)) (fun Za=>?_) (fun Za=>?_)))
 ·refine ak (aq (ab 1 (Yf 2 ?_)))
  obtain ⟨x1,Z3⟩:=Zt xs k om
  refine Zo (Zk none (k:Int) 1 (Y8 Z3)) (YC (x1==t) Zi (fun Zj=>?_) (fun Zj=>?_))
  ·exact ar (Zp (r1 [] ⟨(k:Int),rfl,rfl,ob⟩))
  exact ak (az (Z0 1 (ZD k (Z1 (ZI ⟨k+1,ob,rfl,rfl,rfl⟩ (wk [] (ZK k fl)))))))
 exact ax 0 (ar (Zp (r1 [] ⟨(-1),rfl,rfl,ob⟩)))
theorem Z8n (rd:Nat) (bs:LI) (p:Nat) (g:Wa) (gb:Nat) (rs:List Func) (f:Func) (i:Int) (ZM:∀z∈bs,0<=z/\z<=255) (hp:p+90000<=1000000000) (hg:GP g) (Wp:g.funcs <+: rs) (hi:0<=i) (hf:g.funcs[i.toNat]? = some f) (h0:i=0->f.params.length=0):Zm 151 [.p rd 0,.agg (Ws g gb),.i i] [YG rd bs p,XR gb rs] (fun r h=>∃(e:Z2) (p2:Nat),r=Y7 e/\h=[YG rd bs p2,XR gb rs]/\GE g f.params.length 30 e/\p<=p2/\p2<=p+90000):=by
 obtain ⟨hil,_⟩:=X9.1 hf
 have hgl:=hg.len
 have hso:=(hg.sigs f (Y4 hf)).bd
 have hbv:=EJ
 refine ZE 121 Tryz.func151 (ar (iA (Ws g gb) fun b1=>iA [.i 0,.i 0,nl] fun b2=>ie (Zl 3 [1] (Zo (XI gb g.funcs.length 4 i.toNat 5 i) (Z0 1 (VC (WO 3 gb 4 4 5 (i.toNat * 5+0) (Z9 (Xu rs)) [Z4 f.params] 29 (Z4 f.params) (UK Wp hf 0 rfl (Vl rfl))) (Z1 (Zl 3 [1] (Zo (XI gb g.funcs.length 4 i.toNat 5 i) (Z0 1 (VC (WO 3 gb 4 4 5 (i.toNat * 5+1) (Z9 (Xu rs)) [.i f.result] 3 (.i f.result) (UK Wp hf 1 rfl (Vl rfl))) (Z1 (Yf 1 (ic [] (Za2 f.params 1) ?_))))))))))))))
 rintro _ _ ⟨w1,rfl,rfl,Y9⟩
 have hpl:=Y9
 refine Z1 (ar (Zu [] (Be 0) (iA [.i 0,.i 0,nl] fun b3=>Zx 0 b3 (YY (Z2.mk 0 0 [])) (ie (Yf 1 (ic [3] (W2 rd bs p 4 (ZM:=ob)) ?_))))))
 rintro _ _ ⟨k1,rfl,rfl,Yt⟩
 have qhp2:=Yt.lt om
 refine Z1 (aq (aq (XA (fun fz gz F h=>∃(wb:Bool),(wb=true->i=0)/\F=sF [0,2,4,6,7,8,9,10,11] fz [(34,.b wb)]/\h=gz) ?_ ?_)))
 ·refine az (Z0 3 (ib (b:=(decide (k1<3))) 31 (fun Ze=>?_) (fun Ze=>?_)))
  ·have YS:k1<3:=(dq).1 Ze
   exact Z1 (ZJ ⟨(i==0),(by first|exact (fun h=>Bool.noConfusion h)|(intro h;omega)|(intro h;simp at h;omega)),rfl,rfl⟩ (Zw 5 fl))
  have X2:¬(k1<3):=Yb dq Ze
  exact Z1 (ZJ ⟨false,(by first|exact (fun h=>Bool.noConfusion h)|(intro h;omega)|(intro h;simp at h;omega)),rfl,rfl⟩ (Zw 5 fl))
 rintro F h ⟨wb,kR6_0,rfl,rfl⟩
 refine XA (fun fz gz F h=>∃(eQ:Z2) (p6:Nat),(GE g f.params.length 200 eQ)/\(p<=p6/\p6<=p+42000)/\F=sF [0,4,6,7,8,10] fz []/\h=[YG rd bs p6,.obj b3 (YY eQ),Zf gz 2,Zf gz 3,Zf gz 4]) ?_ ?_
 ·refine ac wb Iff.rfl (fun Za=>?_) (fun Za=>?_)
  ·refine az (ZB 2 [3] (ic [0,3] (Z9r rd bs (p+1) g gb rs (ZM:=ob)) ?_))
   rintro _ _ ⟨e1,p21,rfl,rfl,Xk⟩
   have hbd:=Xk.1
   have hbp:=Xk.2
   exact Zx 2 b3 (YY e1) (ie (ZJ ⟨e1,p21,(by rw [h0 (kR6_0 (by assumption))];exact hbd),ob,rfl,rfl⟩ (wk [1,0,1,1,0] fl)))
  refine aq (XA (fun fz gz F h=>∃(wb:Bool),(wb=true->0<=w1)/\F=sF [0,2,4,6,7,8,9,10,11] fz [(51,.b wb)]/\h=gz) ?_ ?_)
  ·refine az (Z0 3 (ib (b:=(decide (k1<3))) 40 (fun ZH=>?_) (fun ZH=>?_)))
   ·have XU:k1<3:=(dq).1 ZH
    refine Z0 4 (ib (b:=(decide (w1>=0))) 44 (fun Yn=>?_) (fun Yn=>?_))
    ·have Wo:w1>=0:=(dq).1 Yn
     refine Z0 3 (ib (b:=(f.result==0)) 47 (fun Xe=>?_) (fun Xe=>?_))
     ·have Vd:f.result=0:=(Zi).1 Xe
      exact Z1 (ZJ ⟨true,(by first|exact (fun h=>Bool.noConfusion h)|(intro h;omega)|(intro h;simp at h;omega)),rfl,rfl⟩ (Zw 5 fl))
     have VK:¬(f.result=0):=Yb Zi Xe
     exact Z1 (ZJ ⟨(f.result==1),(by first|exact (fun h=>Bool.noConfusion h)|(intro h;omega)|(intro h;simp at h;omega)),rfl,rfl⟩ (Zw 5 fl))
    have Tn:¬(w1>=0):=Yb dq Yn
    exact Z1 (ZJ ⟨false,(by first|exact (fun h=>Bool.noConfusion h)|(intro h;omega)|(intro h;simp at h;omega)),rfl,rfl⟩ (Zw 5 fl))
   have TR:¬(k1<3):=Yb dq ZH
   exact Z1 (ZJ ⟨false,(by first|exact (fun h=>Bool.noConfusion h)|(intro h;omega)|(intro h;simp at h;omega)),rfl,rfl⟩ (Zw 5 fl))
  rintro F h ⟨wb,kR8_0,rfl,rfl⟩
  refine ac wb Iff.rfl (fun Zj=>?_) (fun Zj=>?_)
  ·refine az (ZB 4 [3] (ic [0,3] (Z9z rd bs (p+1) g gb rs _ i w1 (ZM:=ob) (hw:=(by have:=kR8_0 (by assumption);omega))) ?_))
   rintro _ _ ⟨e2,p22,rfl,rfl,To⟩
   have hbd:=To.1
   have hbp:=To.2
   exact Zx 2 b3 (YY e2) (ie (ZJ ⟨e2,p22,(GE.le hbd om),ob,rfl,rfl⟩ (wk [1,0,1,1,0] fl)))
  refine aq (XA (fun fz gz F h=>∃(wb:Bool),(wb=true->0<f.params.length)/\F=sF [0,2,4,6,7,8,10,11] fz [(77,.b wb)]/\h=gz) ?_ ?_)
  ·refine az (Z0 3 (ib (b:=(decide (k1<3))) 59 (fun W8=>?_) (fun W8=>?_)))
   ·have Kf:k1<3:=(dq).1 W8
    refine Z0 1 (iw (Ye f.params) (Z0 3 (ib (b:=(decide ((f.params.length:Int)>0))) 64 (fun Wt=>?_) (fun Wt=>?_))))
    ·have Qr:(f.params.length:Int)>0:=(dq).1 Wt
     refine Z0 1 ?_
     obtain ⟨x1,Z3⟩:=Zt f.params 0 om
     refine Zo (Zk none 0 1 (Y8 Z3)) (Z0 4 (ib (b:=(x1==3)) 70 (fun WM=>?_) (fun WM=>?_)))
     ·have JQ:x1=3:=(Zi).1 WM
      refine Z0 3 (ib (b:=(f.result==0)) 73 (fun Vs=>?_) (fun Vs=>?_))
      ·have JR:f.result=0:=(Zi).1 Vs
       exact Z1 (ZJ ⟨true,(by first|exact (fun h=>Bool.noConfusion h)|(intro h;omega)|(intro h;simp at h;omega)),rfl,rfl⟩ (Zw 5 fl))
      have D0:¬(f.result=0):=Yb Zi Vs
      exact Z1 (ZJ ⟨(f.result==3),(by first|exact (fun h=>Bool.noConfusion h)|(intro h;omega)|(intro h;simp at h;omega)),rfl,rfl⟩ (Zw 5 fl))
     have Bk:¬(x1=3):=Yb Zi WM
     exact Z1 (ZJ ⟨false,(by first|exact (fun h=>Bool.noConfusion h)|(intro h;omega)|(intro h;simp at h;omega)),rfl,rfl⟩ (Zw 5 fl))
    have M4:¬((f.params.length:Int)>0):=Yb dq Wt
    exact Z1 (ZJ ⟨false,(by first|exact (fun h=>Bool.noConfusion h)|(intro h;omega)|(intro h;simp at h;omega)),rfl,rfl⟩ (Zw 5 fl))
   have M5:¬(k1<3):=Yb dq W8
   exact Z1 (ZJ ⟨false,(by first|exact (fun h=>Bool.noConfusion h)|(intro h;omega)|(intro h;simp at h;omega)),rfl,rfl⟩ (Zw 5 fl))
  rintro F h ⟨wb,kR10_0,rfl,rfl⟩
  refine ac wb Iff.rfl (fun ZF=>?_) (fun ZF=>?_)
  ·refine az (ZB 3 [3] (ic [0,3] (Za0 rd bs (p+1) g gb rs _ i (ZM:=ob) (h0:=(kR10_0 (by assumption)))) ?_))
   rintro _ _ ⟨e3,p23,rfl,rfl,He⟩
   have hbd:=He.1
   have hbp:=He.2
   exact Zx 2 b3 (YY e3) (ie (ZJ ⟨e3,p23,(GE.le hbd om),ob,rfl,rfl⟩ (wk [1,0,1,1,0] fl)))
  refine aq (XA (fun fz gz F h=>∃(wb:Bool),(wb=true->0<f.params.length)/\F=sF [0,2,4,6,7,8,10] fz [(102,.b wb)]/\h=gz) ?_ ?_)
  ·refine az (Z0 3 (ib (b:=(decide (k1<3))) 84 (fun Vb=>?_) (fun Vb=>?_)))
   ·have PV:k1<3:=(dq).1 Vb
    refine Z0 1 (iw (Ye f.params) (Z0 3 (ib (b:=(decide ((f.params.length:Int)>0))) 89 (fun UM=>?_) (fun UM=>?_))))
    ·have PW:(f.params.length:Int)>0:=(dq).1 UM
     refine Z0 1 ?_
     obtain ⟨x2,Zy⟩:=Zt f.params 0 om
     refine Zo (Zk none 0 1 (Y8 Zy)) (Z0 4 (ib (b:=(x2==0)) 95 (fun QI=>?_) (fun QI=>?_)))
     ·have PX:x2=0:=(Zi).1 QI
      refine Z0 3 (ib (b:=(f.result==0)) 98 (fun QJ=>?_) (fun QJ=>?_))
      ·have PY:f.result=0:=(Zi).1 QJ
       exact Z1 (ZJ ⟨true,(by first|exact (fun h=>Bool.noConfusion h)|(intro h;omega)|(intro h;simp at h;omega)),rfl,rfl⟩ (Zw 5 fl))
      have R0:¬(f.result=0):=Yb Zi QJ
      exact Z1 (ZJ ⟨(f.result==1),(by first|exact (fun h=>Bool.noConfusion h)|(intro h;omega)|(intro h;simp at h;omega)),rfl,rfl⟩ (Zw 5 fl))
     have R3:¬(x2=0):=Yb Zi QI
     exact Z1 (ZJ ⟨false,(by first|exact (fun h=>Bool.noConfusion h)|(intro h;omega)|(intro h;simp at h;omega)),rfl,rfl⟩ (Zw 5 fl))
    have R4:¬((f.params.length:Int)>0):=Yb dq UM
    exact Z1 (ZJ ⟨false,(by first|exact (fun h=>Bool.noConfusion h)|(intro h;omega)|(intro h;simp at h;omega)),rfl,rfl⟩ (Zw 5 fl))
   have R5:¬(k1<3):=Yb dq Vb
   exact Z1 (ZJ ⟨false,(by first|exact (fun h=>Bool.noConfusion h)|(intro h;omega)|(intro h;simp at h;omega)),rfl,rfl⟩ (Zw 5 fl))
  rintro F h ⟨wb,kR12_0,rfl,rfl⟩
  refine ac wb Iff.rfl (fun Yh=>?_) (fun Yh=>?_)
  ·refine az (ZB 3 [3] (ic [0,3] (Z95 rd bs (p+1) g gb rs _ i (ZM:=ob) (h0:=(kR12_0 (by assumption)))) ?_))
   rintro _ _ ⟨e4,p24,rfl,rfl,Hf⟩
   have hbd:=Hf.1
   have hbp:=Hf.2
   exact Zx 2 b3 (YY e4) (ie (ZJ ⟨e4,p24,(GE.le hbd om),ob,rfl,rfl⟩ (wk [1,0,1,1,0] fl)))
  refine az (ZB 4 [3] (ic [0,3] (PD rd bs (p+1) g gb rs f.params f.result 18 (ZM:=ob)) ?_))
  rintro _ _ ⟨e5,p25,rfl,rfl,Hg⟩
  have hbd:=Hg.1
  have hbp:=Hg.2
  exact Zx 2 b3 (YY e5) (ie (ZJ ⟨e5,p25,(GE.le hbd om),ob,rfl,rfl⟩ (wk [1,0,1,1,0] fl)))
 rintro F h ⟨eQ,p6,Jj,Mf,rfl,rfl⟩
 refine Ym 1 [1] (ic [] (PL eQ (hz:=(by have:=Jj.2;omega))) ?_)
 rintro _ _ ⟨w2,rfl,rfl,M6⟩
 have M3:=M6
 have XO:=Jj.2
 refine Y3 (w2<0) (fun YM=>?_) (fun YM=>?_)
 ·refine Zl 4 [3] (ic [0,3] (PD rd bs p6 g gb rs f.params f.result 12 (ZM:=ob)) ?_)
  rintro _ _ ⟨e6,p26,rfl,rfl,M7⟩
  have hbd:=M7.1
  have hbp:=M7.2
  exact Zx 3 b2 (YY e6) (ie (ZT (r3 [1,1] [Y7 e6] [0] [(b2,b2)] ⟨e6,p26,rfl,rfl,⟨hbd,by omega⟩⟩ (lr _))))
 exact ak (Zl 1 [1] (Zx 2 b2 (YY eQ) (ie (ZT (r3 [1,3] [Y7 eQ] [0] [(b2,b2)] ⟨eQ,p6,rfl,rfl,⟨⟨Jj.1,by omega⟩,by omega⟩⟩ (lr _))))))
theorem Q5 (ps:LI) (rt:Int) :Zm 150 [Z4 ps,.i rt] [] (Yw (EG (Func.mk ps rt (Z2.mk 0 0 [])))):=by
 exact ZE 8 Tryz.func150 (ar (iA [nl,.i 0,.i 0,.i 0,nl] fun b1=>ie (Yf 3 (Zx 0 b1 [Z4 ps,.i rt,.i 0,.i 0,nl] (ie (ZT (r3 [] [.agg [Z4 ps,.i rt,.i 0,.i 0,nl]] [0] [(b1,b1)] ⟨rfl,rfl⟩ (Zd.agg (.cons (Zd.sl _ (Yo Z6 ob)) (.cons li (.cons li (.cons li (.cons (Zd.sl _ rfl) .nil)))))))))))))
theorem Z9y (rd:Nat) (bs:LI) (p:Nat) (xs:LI) (ZM:∀z∈bs,0<=z/\z<=255) (hp:p+1<=1000000000:=by exact ob) (hx:0<xs.length/\xs.length<=1000000:=by exact ob) (hy:xs.all (fun x=>decide (0<=x))=true:=by exact ob):Zm 55 [.p rd 0,Z4 xs] [YG rd bs p] (fun r h=>∃(nn:Nat),r=.i nn/\h=[.obj rd [Up bs,.i (p+1:Nat)]]/\(nn:Int)∈xs):=(T1 rd bs p xs ZM hp hx).mono fun r h ⟨z,hr,hh,hz⟩=>by
  have h0:0<=z:=of_decide_eq_true (A8.1 hy z hz)
  exact ⟨z.toNat,by rw [hr,Int.toNat_of_nonneg h0],hh,by rw [Int.toNat_of_nonneg h0];exact hz⟩
theorem Z8o (rd:Nat) (bs:LI) (p:Nat) (g:Wa) (gb:Nat) (rs:List Func) (f:Func) (i:Int) (nl:Nat) (ZM:∀z∈bs,0<=z/\z<=255) (hp:p+90000<=1000000000:=by exact ob) (hg:GP g:=by exact ob) (Wp:g.funcs <+: rs:=by exact ob) (hi:0<=i:=by exact ob) (hf:g.funcs[i.toNat]? = some f:=by exact ob) (h0:i=0->f.params.length=0:=by exact ob) (hn:g.funcs.length=nl:=by exact ob):Zm 151 [.p rd 0,.agg [Y5 g.decls,.ms gb 0 nl 4],.i i] [YG rd bs p,XR gb rs] (fun r h=>∃(e:Z2) (p2:Nat),r=Y7 e/\h=[YG rd bs p2,XR gb rs]/\GE g f.params.length 30 e/\p<=p2/\p2<=p+90000):=(by subst hn;exact Z8n rd bs p g gb rs f i ZM hp hg Wp hi hf h0)
theorem Z9d (rd:Nat) (bs:LI) (p:Nat) (ZM:∀z∈bs,0<=z/\z<=255) (hp:p+400000<=1000000000):Zm 137 [.p rd 0] [YG rd bs p] (fun r h=>∃(rs:List Func) (ds:List Zc) (m:Nat) (gb:Nat) (p2:Nat),r=.agg [Y5 ds,.ms gb 0 m 4]/\h=[XR gb rs,YG rd bs p2]/\(GL ds m 0 rs/\GD ds/\1<=m/\m<=4)/\p<=p2/\p2<=p+400000):=by
 refine ZE 110 Tryz.func137 (ar (iA [nl,nl] fun b1=>ie (Yf 1 (ic [1] (Z9a rd bs p (ZM:=ob)) ?_))))
 rintro _ _ ⟨ds1,v1,rfl,rfl,Y9⟩
 have hgd:=Y9
 refine Z0 1 (iA [nl,nl] fun b2=>Zx 0 b2 [KR ds1 v1,nl] (ie (ar (iL (Z6 [1]) 1 1 fun v2=>ZQ 0 [(13,Z4 [1])] (Zu [] (Q5 [1] 0) (iL (Z6 [1,1]) 2 1 fun v3=>ZQ 0 [(15,Z4 [1,1])] (Zu [] (Q5 [1,1] 1) (iL (Z6 [1]) 1 1 fun v4=>ZQ 0 [(17,Z4 [1])] (Zu [] (Q5 [1] 1) (iL (Z6 [1,0]) 2 1 fun v5=>ZQ 0 [(19,Z4 [1,0])] (Zu [] (Q5 [1,0] 1) (iL (Z6 [2,1]) 2 1 fun v6=>ZQ 0 [(21,Z4 [2,1])] (Zu [] (Q5 [2,1] 1) (iL (Z6 [1,1]) 2 1 fun v7=>ZQ 0 [(23,Z4 [1,1])] (Zu [] (Q5 [1,1] 0) (iL (Xu [Func.mk [1] 0 (Z2.mk 0 0 []),Func.mk [1,1] 1 (Z2.mk 0 0 []),Func.mk [1] 1 (Z2.mk 0 0 []),Func.mk [1,0] 1 (Z2.mk 0 0 []),Func.mk [2,1] 1 (Z2.mk 0 0 []),Func.mk [1,1] 0 (Z2.mk 0 0 [])]) 6 5 fun v8=>Z1 (ar (iL (Z6 [3]) 1 1 fun v9=>ZQ 0 [(26,Z4 [3])] (Zu [] (Q5 [3] 0) (iL (Z6 [0]) 1 1 fun v10=>ZQ 0 [(28,Z4 [0])] (Zu [] (Q5 [0] 1) (iL (Z6 [0,1]) 2 1 fun v11=>ZQ 0 [(30,Z4 [0,1])] (Zu [] (Q5 [0,1] 1) (iL (Z6 [3,0]) 2 1 fun v12=>ZQ 0 [(32,Z4 [3,0])] (Zu [] (Q5 [3,0] 3) (iL (Z6 [3]) 1 1 fun v13=>ZQ 0 [(34,Z4 [3])] (Zu [] (Q5 [3] 1) (iL (Z6 [1,3,0]) 3 1 fun v14=>ZQ 0 [(36,Z4 [1,3,0])] (Zu [] (Q5 [1,3,0] 0) (iL (Xu [Func.mk [3] 0 (Z2.mk 0 0 []),Func.mk [0] 1 (Z2.mk 0 0 []),Func.mk [0,1] 1 (Z2.mk 0 0 []),Func.mk [3,0] 3 (Z2.mk 0 0 []),Func.mk [3] 1 (Z2.mk 0 0 []),Func.mk [1,3,0] 0 (Z2.mk 0 0 [])]) 6 5 fun v15=>Z1 (ar (iL (Z6 [0]) 1 1 fun v16=>ZQ 0 [(39,Z4 [0])] (Zu [] (Q5 [0] 0) (iL (Z6 [0,0]) 2 1 fun v17=>ZQ 0 [(41,Z4 [0,0])] (Zu [] (Q5 [0,0] 0) (iL (Z6 [1,0]) 2 1 fun v18=>ZQ 0 [(43,Z4 [1,0])] (Zu [] (Q5 [1,0] 0) (iL (Z6 [0]) 1 1 fun v19=>ZQ 0 [(45,Z4 [0])] (Zu [] (Q5 [0] 1) (iL (Xu [Func.mk [0] 0 (Z2.mk 0 0 []),Func.mk [0,0] 0 (Z2.mk 0 0 []),Func.mk [1,0] 0 (Z2.mk 0 0 []),Func.mk [0] 1 (Z2.mk 0 0 [])]) 4 5 fun v20=>Z1 (aD 26 (Zs 23 26 [2,3,4] (dn 5 (.i (([Func.mk [1] 0 (Z2.mk 0 0 []),Func.mk [1,1] 1 (Z2.mk 0 0 []),Func.mk [1] 1 (Z2.mk 0 0 []),Func.mk [1,0] 1 (Z2.mk 0 0 []),Func.mk [2,1] 1 (Z2.mk 0 0 []),Func.mk [1,1] 0 (Z2.mk 0 0 [])].length:Nat):Int)) (.i (((Xu [Func.mk [1] 0 (Z2.mk 0 0 []),Func.mk [1,1] 1 (Z2.mk 0 0 []),Func.mk [1] 1 (Z2.mk 0 0 []),Func.mk [1,0] 1 (Z2.mk 0 0 []),Func.mk [2,1] 1 (Z2.mk 0 0 []),Func.mk [1,1] 0 (Z2.mk 0 0 [])]).length:Nat):Int)) (li (by rw [DF])) (Zs 19 22 [9,10,11] (dn 12 (.i (([Func.mk [3] 0 (Z2.mk 0 0 []),Func.mk [0] 1 (Z2.mk 0 0 []),Func.mk [0,1] 1 (Z2.mk 0 0 []),Func.mk [3,0] 3 (Z2.mk 0 0 []),Func.mk [3] 1 (Z2.mk 0 0 []),Func.mk [1,3,0] 0 (Z2.mk 0 0 [])].length:Nat):Int)) (.i (((Xu [Func.mk [3] 0 (Z2.mk 0 0 []),Func.mk [0] 1 (Z2.mk 0 0 []),Func.mk [0,1] 1 (Z2.mk 0 0 []),Func.mk [3,0] 3 (Z2.mk 0 0 []),Func.mk [3] 1 (Z2.mk 0 0 []),Func.mk [1,3,0] 0 (Z2.mk 0 0 [])]).length:Nat):Int)) (li (by rw [DF])) (Zs 15 18 [16,17,18] (dn 19 (.i (([Func.mk [0] 0 (Z2.mk 0 0 []),Func.mk [0,0] 0 (Z2.mk 0 0 []),Func.mk [1,0] 0 (Z2.mk 0 0 []),Func.mk [0] 1 (Z2.mk 0 0 [])].length:Nat):Int)) (.i (((Xu [Func.mk [0] 0 (Z2.mk 0 0 []),Func.mk [0,0] 0 (Z2.mk 0 0 []),Func.mk [1,0] 0 (Z2.mk 0 0 []),Func.mk [0] 1 (Z2.mk 0 0 [])]).length:Nat):Int)) (li (by rw [DF])) (Z7 0 (dL 0 [] [] (Z6 []) 0 1 fun v21=>Yq 13 13 [] [(48,Z4 [])] (Z7 1 (YK 1 [] [] [] (Q5 [] 0) (Z7 6 (dc 6 [22] [] [] (W2 rd bs (p+1) (([Func.mk [1] 0 (Z2.mk 0 0 []),Func.mk [1,1] 1 (Z2.mk 0 0 []),Func.mk [1] 1 (Z2.mk 0 0 []),Func.mk [1,0] 1 (Z2.mk 0 0 []),Func.mk [2,1] 1 (Z2.mk 0 0 []),Func.mk [1,1] 0 (Z2.mk 0 0 [])].length:Nat):Int) (ZM:=ob)) ?_)))))))))))))))))))))))))))))))))))))))))))))))))))))
 rintro _ _ ⟨k1,rfl,rfl,Yt⟩
 have qhp2:=Yt.lt (by simp)
 simp only [Yp,Yx] at qhp2
 obtain ⟨x1,Z3⟩:=Zt [Func.mk [1] 0 (Z2.mk 0 0 []),Func.mk [1,1] 1 (Z2.mk 0 0 []),Func.mk [1] 1 (Z2.mk 0 0 []),Func.mk [1,0] 1 (Z2.mk 0 0 []),Func.mk [2,1] 1 (Z2.mk 0 0 []),Func.mk [1,1] 0 (Z2.mk 0 0 [])] k1.toNat (by simp only [Yp,Yx];omega)
 refine dx 7 (Zk (some v8) k1 5 (GH Z3)) (Zs 9 10 [8] (Z7 13 (dc 13 [0] [] [] (W2 rd bs ((p+1)+1) (([Func.mk [3] 0 (Z2.mk 0 0 []),Func.mk [0] 1 (Z2.mk 0 0 []),Func.mk [0,1] 1 (Z2.mk 0 0 []),Func.mk [3,0] 3 (Z2.mk 0 0 []),Func.mk [3] 1 (Z2.mk 0 0 []),Func.mk [1,3,0] 0 (Z2.mk 0 0 [])].length:Nat):Int) (ZM:=ob)) ?_)))
 rintro _ _ ⟨k2,rfl,rfl,YS⟩
 have qhp3:=YS.lt (by simp)
 simp only [Yp,Yx] at qhp3
 obtain ⟨x2,Zy⟩:=Zt [Func.mk [3] 0 (Z2.mk 0 0 []),Func.mk [0] 1 (Z2.mk 0 0 []),Func.mk [0,1] 1 (Z2.mk 0 0 []),Func.mk [3,0] 3 (Z2.mk 0 0 []),Func.mk [3] 1 (Z2.mk 0 0 []),Func.mk [1,3,0] 0 (Z2.mk 0 0 [])] k2.toNat (by simp only [Yp,Yx];omega)
 refine dx 14 (Zk (some v15) k2 5 (GH Zy)) (Zs 6 7 [15] (Z7 20 (dc 20 [0] [] [] (W2 rd bs (((p+1)+1)+1) (([Func.mk [0] 0 (Z2.mk 0 0 []),Func.mk [0,0] 0 (Z2.mk 0 0 []),Func.mk [1,0] 0 (Z2.mk 0 0 []),Func.mk [0] 1 (Z2.mk 0 0 [])].length:Nat):Int) (ZM:=ob)) ?_)))
 rintro _ _ ⟨k3,rfl,rfl,X2⟩
 have qhp4:=X2.lt (by simp)
 simp only [Yp,Yx] at qhp4
 obtain ⟨x3,YV⟩:=Zt [Func.mk [0] 0 (Z2.mk 0 0 []),Func.mk [0,0] 0 (Z2.mk 0 0 []),Func.mk [1,0] 0 (Z2.mk 0 0 []),Func.mk [0] 1 (Z2.mk 0 0 [])] k3.toNat (by simp only [Yp,Yx];omega)
 refine dx 21 (Zk (some v20) k3 5 (GH YV)) (Zs 3 4 [22] (Z7 23 (dKN 23 [] [] (Z9 (Xu [Func.mk [] 0 (Z2.mk 0 0 []),x1,x2,x3])) 4 5 fun g1=>Zs 1 2 [24] (Z7 25 (X0 25 22 [] [] b2 [KR ds1 v1,.ms g1 0 4 4] (de (Yf 1 (iL (Z6 [4,4,3,2,4]) 5 1 fun v22=>ZQ 0 [(74,Z4 [4,4,3,2,4])] (ic [3] (Z9y rd bs ((((p+1)+1)+1)+1) [4,4,3,2,4] (ZM:=ob) (hy:=(by decide))) ?_)))))))))
 rintro _ _ ⟨nn1,rfl,rfl,Xk⟩
 have hnn:=Zdf (a:=2) (b:=4) Xk (by decide)
 refine Z1 (Zl 3 [2] (Zo (Rq 3 g1 4 4 nn1 5 (Z9 (Xu [Func.mk [] 0 (Z2.mk 0 0 []),x1,x2,x3]))) (Z0 1 (Zx 2 b2 [KR ds1 v1,.ms g1 0 nn1 4] (ie (YQ 1 (ia (((nn1:Int)-1)) (((nn1:Int))-(1)) (Z1 (ab 0 (Y2 (fun fz gz m F h=>∃(j:Nat) (rq:List Func) (pq:Nat),(j<=nn1)/\(GL ds1 nn1 j rq)/\(p<=pq/\pq+90000*j<=p+10+90000*nn1)/\F=sF [0,2,3] fz [(8,.i ((j:Int)-1))]/\h=[Zf gz 0,YG rd bs pq,Zf gz 25,Zf gz 24,XR g1 rq]/\m=j+1) _ _ _ ⟨nn1,[Func.mk [] 0 (Z2.mk 0 0 []),x1,x2,x3],((((p+1)+1)+1)+1)+1,ob,(GL.start (N0 Z3 (by decide)) (N0 Zy (by decide)) (N0 YV (by decide))),ob,rfl,rfl,rfl⟩ (wk [0,0,23,22,1] fl) ?_))))))))))
 rintro m F h ⟨j,rq,pq,Yj,Zg,Zz,rfl,rfl,rfl⟩
 refine Xj (Y3 (((j:Int)-1)>=0) (fun Za=>?_) (fun Za=>?_))
 ·obtain ⟨f1,hf1⟩:=Zt (rq.take nn1) (((j:Int)-1).toNat) (by rw [Zg.len_take om];omega)
  have hfq:rq[j-1]? = some f1:=by have h:=hf1;rw [show ((j:Int)-1).toNat=j-1 by omega,List.getElem?_take_of_lt om] at h;exact h
  refine ak (aq (ab 1 (ar (Kr 3 [(88,.agg [Y5 ds1,.ms g1 0 nn1 4])] [0] (ic [1,3] (Z8o rd bs pq (Wa.mk ds1 (rq.take nn1)) g1 rq f1 ((j:Int)-1) nn1 (ZM:=ob) (hg:=(Zg.gp hgd om)) (Wp:=(List.take_prefix nn1 rq)) (hf:=hf1) (h0:=(fun h=>Zg.zero f1 (by rw [<-hfq,show j-1=0 by omega]))) (hn:=(Zg.len_take om))) ?_)))))
  rintro _ _ ⟨e1,p21,rfl,rfl,XU⟩
  have hbw:eW ds1 nn1 f1.params.length e1/\(e1).sz<=30:=by have h:=XU.1;unfold GE at h;rw [show (Wa.mk ds1 (rq.take nn1)).funcs.length=nn1 from Zg.len_take om] at h;exact h
  exact iA [.i 0,.i 0,nl] fun b3=>Zx 0 b3 (YY e1) (ie (aE 19 (ZX 13 19 [0,1,2,3,4,5] [3,3] (dx 6 (XI g1 nn1 4 (((j:Int)-1).toNat) 5 ((j:Int)-1)) (Zs 11 12 [7] (UC 8 (WO 2 g1 4 4 5 ((((j:Int)-1).toNat)*5+0) (Z9 (Xu rq)) [Z4 f1.params] 29 (Z4 f1.params) (UK (List.take_prefix nn1 rq) hf1 0 rfl (Vl rfl))) (ZX 7 10 [9,10,11] [3] (dx 12 (XI g1 nn1 4 (((j:Int)-1).toNat) 5 ((j:Int)-1)) (Zs 5 6 [13] (UC 14 (WO 2 g1 4 4 5 ((((j:Int)-1).toNat)*5+1) (Z9 (Xu rq)) [.i f1.result] 3 (.i f1.result) (UK (List.take_prefix nn1 rq) hf1 1 rfl (Vl rfl))) (ZX 2 4 [15,16] [0] (dx 17 (XI g1 nn1 4 (((j:Int)-1).toNat) 5 ((j:Int)-1)) (Z7 18 (QE 18 2 [] [] g1 4 4 5 ((((j:Int)-1).toNat)*5) [Z4 f1.params,.i f1.result,.i e1.op,.i e1.num,XD e1.kids] (Z9 (Xu rq)) (Z9 (Xu (rq.set ((j:Int)-1).toNat ⟨f1.params,f1.result,e1⟩))) (by rw [LM,Zg.len];simp only [Yp,Yx];omega) (Z82 ⟨f1.params,f1.result,e1⟩ (by rw [Zg.len];omega)) (de (az (Z0 1 (ia ((((j:Int)-1)-1)) (((j:Int)-1)-(1)) (Z1 (ZI ⟨(j-1),(rq.set ((j:Int)-1).toNat ⟨f1.params,f1.result,e1⟩),p21,ob,(by rw [show ((j:Int)-1).toNat=j-1 by omega];exact Zg.set om hfq hbw),ob,rfl,rfl,rfl⟩ (wk [3,2,2,2,0] (fc (x:=.i (((j:Int)-1)-1)) li fl))))))))))))))))))))))
 exact ax 0 (Zl 1 [0] (Zx 2 b1 [KR ds1 v1,.ms g1 0 nn1 4] (ie (ZT (r3 [4,2] [.agg [KR ds1 v1,.ms g1 0 nn1 4]] [0] [(b1,b1)] ⟨rq,ds1,nn1,g1,pq,rfl,rfl,⟨⟨by rw [show j=0 by omega] at Zg;exact Zg,hgd,by omega,by omega⟩,by omega⟩⟩ (Zd.agg (.cons (Zd.forget _ _) (.cons (lr _) .nil))))))))
theorem Z9c (rd:Nat) (bs:LI) (p:Nat) (ZM:∀z∈bs,0<=z/\z<=255) (hp:p+400000<=1000000000:=by exact ob):Zm 137 [.p rd 0] [YG rd bs p] (fun r h=>∃(g:Wa) (p2:Nat),r=AX g/\h=[YG rd bs p2]/\IA g/\p<=p2/\p2<=p+400000):=(WK.frzP (E:=List Func × List Zc × Nat × Nat) (ds:=fun e=>e.2.1) (rs:=fun e=>e.1) (m:=fun e=>e.2.2.1) (hs:=fun e=>[.obj rd [Up bs,.i (e.2.2.2:Nat)]]) (Q:=fun e=>(GL e.2.1 e.2.2.1 0 e.1/\GD e.2.1/\1<=e.2.2.1/\e.2.2.1<=4)/\p<=e.2.2.2/\e.2.2.2<=p+400000)
  ((Z9d rd bs p ZM hp).mono fun r h ⟨rs,ds,m,gb,p2,hr,hh,hq⟩=>⟨(rs,ds,m,p2),gb,hr,hh,hq⟩) fun e hq=>⟨hq.1.2.2.2,hq.1.1.len⟩).mono
  fun r h ⟨e,hr,hh,hq⟩=>⟨⟨e.2.1,e.1.take e.2.2.1⟩,e.2.2.2,hr,hh,hq.1.1.done hq.1.2.1 hq.1.2.2,hq.2⟩
theorem LV (a:Nat) (n:Nat) (ha:a<=1000000:=by exact ob) (hn:n<=1000000:=by exact ob):Zm 71 [.i a,.i n] [] (fun r h=>∃(xs:LI),r=Z4 xs/\h=[]/\xs.length=n/\∀i∈xs,(a:Int)<=i/\i<(a:Int)+n):=by
 refine ZE 20 Tryz.func71 (Y0 (ar (iL (Z6 []) 0 1 fun v1=>?_)))
 refine Z1 (Y6 (ab 0 (Y2 (fun fz gz m F h=>∃(k:Nat) (ys:LI) (u:Value),(k<=n)/\(ys.length=k)/\(∀i∈ys,(a:Int)<=i/\i<(a:Int)+n)/\F=sF [0,1] fz [(5,ZC ys u),(6,.i k)]/\h=[.tail u 1]/\m=n-k) _ _ _ ⟨0,[],v1,ob,ob,(fun i hi=>by cases hi),rfl,rfl,rfl⟩ (wk [0] (fr (Yc fl))) ?_)))
 rintro m F h ⟨k,ys,u,Yj,Zg,Zz,rfl,rfl,rfl⟩
 refine Xj (Y3 ((k:Int)<(n:Int)) (fun Za=>?_) (fun Za=>?_))
 ·exact ak (aq (ab 1 (az (Z0 3 (ia (((a+k:Nat):Int)) (((a:Int))+((k:Int))) (iL (Z6 [((a+k:Nat):Int)]) 1 1 fun v2=>ZQ 0 [(17,Z4 [((a+k:Nat):Int)])] (ip 1 (Z6 (ys++[((a+k:Nat):Int)])) (Z6 ys) (Z6 [((a+k:Nat):Int)]) u none 1 (YD _) (YD _) (W1 _) (by simp<;>omega) (by simp [W5,Z6]) fun v3=>Z1 (az (Z0 1 (ZD k (Z1 (ZI ⟨k+1,(ys++[((a+k:Nat):Int)]),v3,ob,ob,(XF Zz om),rfl,rfl,rfl⟩ (wk [0] (fr (ZK k fl)))))))))))))))
 exact ax 0 (ar (Zp (r2 [] [ZC ys u] ⟨ys,rfl,rfl,⟨by omega,Zz⟩⟩ (Zd.forget _ _))))
theorem Py (l:Nat) (xs:List Z5) (w:Value) (q:Nat) (s:Z5) (hl:xs.length<=4000000000:=by exact ob) (hq:q<=1000000:=by exact ob):Zm 211 [.p l 0,X4 s] [.obj l [Xi xs w,.i q],.tail w 5] (fun r h=>∃(w2:Value),r=.i q/\h=[.obj l [Xi (xs++[s]) w2,.i (((q+1):Nat):Int)],.tail w2 5]):=by
 exact ZE 28 Tryz.func211 (ar (iA (Wd s) fun b1=>Z1 (aD 11 (ZX 5 11 [0,1,2,3,4,5] [1,0] (Z7 6 (WG 6 [1] [l] [X4 s] (ZU [s]) (Ub [s]).symm 1 5 fun v1=>Yq 4 4 [] [(11,Vv [s])] (Z7 7 (dp 7 3 [] [] (ZU (xs++[s])) (ZU xs) (ZU [s]) w none 5 (XG _) (XG _) (Ut _) (by simp<;>omega) (by simp [VA,ZU]) fun v2=>Zs 1 3 [8,9] (Z7 10 (X0 10 3 [] [] l [Xi (xs++[s]) v2,.i q] (de (Zl 5 [0] (ZD q (Z0 2 (Zx 0 l [Xi (xs++[s]) v2,.i (q+1:Nat)] (ie (Zl 4 [0] (ia ((((q+1:Nat):Int)-1)) ((((q+1:Nat):Int))-(1)) (Zp (r2 [0,0] [.i (((q+1:Nat):Int)-1)] ⟨v2,rfl,rfl⟩ li))))))))))))))))))))
theorem PK (g:Wa) (e:Z2) (us:LI) (q:Nat) (bb:Nat) (he:eW g.decls g.funcs.length us.length e:=by exact ob) (hu:∀a∈us,0<=a/\a<(q:Int)) (hul:us.length+4*e.sz<=100000:=by exact ob) (hql:q+6*e.sz<=100000:=by exact ob) (hb:e.sz<bb:=by exact ob) (ih:∀(l:Nat) (e2:Z2) (us2:LI) (xs2:List Z5) (w2:Value) (q2:Nat),(eW g.decls g.funcs.length us2.length e2)->(∀a∈us2,0<=a/\a<(q2:Int))->(us2.length+4*e2.sz<=100000)->(xs2.length+6*e2.sz<=100000)->(q2+6*e2.sz<=100000)->(e2.sz<bb)->Zm 177 [.p l 0,AX g,Y7 e2,Z4 us2] [.obj l [Xi xs2 w2,.i q2],.tail w2 5] (fun r h=>∃(ys:List Z5) (v:Int) (w2:Value),r=.i v/\h=[.obj l [Xi (xs2++ys) w2,.i (((q2+Yr ys):Nat):Int)],.tail w2 5]/\LW g.decls g.funcs.length q2 e2 ys v)):Zm 149 [AX g,Y7 e,Z4 us,.i q] [] (fun r h=>∃(b:Z8),r=Yl b/\h=[]/\LB g.decls g.funcs.length q e b):=by
 refine ZE 26 Tryz.func149 (ar (iA (Mj g) fun b1=>iA (YY e) fun b2=>iA [nl,.i 0] fun b3=>ie (ar (iL (ZU []) 0 5 fun v1=>Z0 2 (iA [Xi [] v1,.i q] fun b4=>Z1 (Zl 4 [4,3] (ic [0,0] (ih b4 e us [] v1 q he hu ob ob ob ob) ?_)))))))
 rintro _ _ ⟨ys1,v2,w21,rfl,rfl,Y9⟩
 have hlw:=Y9
 exact Z1 (Zl 6 [0] (Zx 2 b3 [Xi ([]++ys1) w21,.i v2] (ie (ZT (r3 [] [.agg [Xi ([]++ys1) w21,.i v2]] [0] [(b3,b3)] ⟨(Z8.mk ([]++ys1) v2),rfl,rfl,(by rw [A9];exact hlw.block)⟩ (Zd.agg (.cons (Zd.forget _ _) (.cons (lr _) .nil))))))))
theorem Z9q (l:Nat) (g:Wa) (e:Z2) (us:LI) (xs:List Z5) (w:Value) (q:Nat) (hd:GD g.decls) (he:eW g.decls g.funcs.length us.length e) (hu:∀a∈us,0<=a/\a<(q:Int)) (hul:us.length+4*e.sz<=100000) (hxl:xs.length+6*e.sz<=100000) (hql:q+6*e.sz<=100000) (ih:∀(l:Nat) (e2:Z2) (us2:LI) (xs2:List Z5) (w2:Value) (q2:Nat),(eW g.decls g.funcs.length us2.length e2)->(∀a∈us2,0<=a/\a<(q2:Int))->(us2.length+4*e2.sz<=100000)->(xs2.length+6*e2.sz<=100000)->(q2+6*e2.sz<=100000)->(e2.sz<e.sz)->Zm 177 [.p l 0,AX g,Y7 e2,Z4 us2] [.obj l [Xi xs2 w2,.i q2],.tail w2 5] (fun r h=>∃(ys:List Z5) (v:Int) (w2:Value),r=.i v/\h=[.obj l [Xi (xs2++ys) w2,.i (((q2+Yr ys):Nat):Int)],.tail w2 5]/\LW g.decls g.funcs.length q2 e2 ys v)):Zm 177 [.p l 0,AX g,Y7 e,Z4 us] [.obj l [Xi xs w,.i q],.tail w 5] (fun r h=>∃(ys:List Z5) (v:Int) (w2:Value),r=.i v/\h=[.obj l [Xi (xs++ys) w2,.i (((q+Yr ys):Nat):Int)],.tail w2 5]/\LW g.decls g.funcs.length q e ys v):=by
 have Xq:=hd.ok
 obtain ⟨ho,h12,h13,h7,h8,h9,hnum,hkl,hks⟩:=(Z6i e).1 he
 have hez:=e.sz_eq
 refine ZE 148 Tryz.func177 (ar (iA (Mj g) fun b1=>iA (YY e) fun b2=>Z1 (Xj (V2 [0] (ab 0 (ar (YC (e.op==12) Zi (fun Za=>?_) (fun Za=>?_))))))))
 ·refine Zl 3 [0] ?_
  obtain ⟨x1,Z3⟩:=Zt us e.num.toNat (by have:=h12 om;omega)
  have huv:=hu _ (Y4 Z3)
  exact Zo (Zk none e.num 1 (Y8 Z3)) (Zp (r1 [2,2] ⟨[],x1,w,rfl,rfl,(LW.var huv)⟩ (eq:=(ro (ls:=[Xi xs w,.i q]) (by simp [Yr]) (rc rz)))))
 refine ar (YC (e.op==13) Zi (fun Zj=>?_) (fun Zj=>?_))
 ·refine aD 9 (ZX 5 9 [0,1,2,3] [1,0] ?_)
  obtain ⟨x2,Zy⟩:=Zt e.kids 0 (by have:=h13 om;omega)
  have hekx2:=DK hks Zy
  have hszx2:=CP Zy
  have htzx2:=BQ Zy
  rw [Wf] at hekx2
  rw [Z0s om] at hekx2
  refine dx 4 (Zk none 0 3 (DE Zy)) (Zs 2 4 [5,6] (Z7 7 (dc 7 [2,2] [] [] (ih l x2 us xs w q (by first|assumption|(rw [ZV];assumption)) (by first|assumption|exact G5 hu hlwhp1.v|exact Ip hu) (by first|omega|(simp only [ZV,Yp,Yx];omega)) (by first|omega|(simp only [ZV,Yp,Yx];omega)) ob ob) ?_)))
  rintro _ _ ⟨ys1,v1,w21,rfl,rfl,Y9⟩
  have hlwhp1:=Y9
  have hldhp1:=Y9.dn
  refine Zs 0 1 [8] (de (aD 12 (ZX 8 12 [0,1,2,3] [3,2] ?_)))
  obtain ⟨x3,YV⟩:=Zt e.kids 1 (by have:=h13 om;omega)
  have hz2:=OX Zy YV
  have hz3:=x2.sz_eq
  have hekx3:=DK hks YV
  have hszx3:=CP YV
  have htzx3:=BQ YV
  rw [Wf] at hekx3
  rw [Z0s om] at hekx3
  refine dx 4 (Zk none 1 3 (DE YV)) (Zs 4 7 [5,6,7] (Z7 8 (dL 8 [1,2] [b2,b1] (Z6 [v1]) 1 1 fun v2=>Yq 3 3 [] [(45,Z4 [v1])] (Z7 9 (dc 9 [] [1,2] [b2,b1] (TE us [v1]) ?_)))))
  rintro _ _ ⟨v3,rfl,rfl⟩
  refine Yq 2 2 [] [(46,Z4 (us++[v1]))] (Z7 10 (dc 10 [2,2] [] [] (ih l x3 (us++[v1]) (xs++ys1) w21 (q+Yr ys1) (by first|assumption|(rw [ZV];assumption)) (by first|assumption|exact G5 hu hlwhp1.v|exact Ip hu) (by first|omega|(simp only [ZV,Yp,Yx];omega)) (by first|omega|(simp only [ZV,Yp,Yx];omega)) ob ob) ?_))
  rintro _ _ ⟨ys2,v4,w22,rfl,rfl,Yt⟩
  have hlwhp2:=Yt
  have hldhp2:=Yt.dn
  exact Zs 0 1 [11] (de (ZT (r1 [0,0] ⟨(ys1++ys2),v4,w22,rfl,rfl,(LW.let_ hlwhp1 hlwhp2 (by have:=OX Zy YV;omega))⟩ (eq:=(ro (ls:=[Xi ((xs++ys1)++ys2) w22,.i ((((q+Yr ys1)+Yr ys2):Nat):Int)]) (by rw [Td,<-Ac,W0]) (rc rz))))))
 refine Y6 (XA (fun fz gz F h=>F=sF [0,3,5,6] fz [(48,.b ((e.op==7)||(e.op==8)))]/\h=gz) ?_ ?_)
 ·refine ac (e.op==7) Zi (fun ZF=>?_) (fun ZF=>?_)
  ·exact ak (ZJ ⟨rfl,rfl⟩ (Zw 4 (fc (x:=.b (e.op==7)) (lb (by first|rfl|(rw [Zh ZF])|(rw [Zb ZF])|(simp [ZF];done)|(rw [Yd];simp [ZF];done)|omega)) fl)))
  exact VB (ZJ ⟨rfl,rfl⟩ (Zw 4 (fc (x:=.b (e.op==8)) (lb (by first|rfl|(rw [Zh ZF])|(rw [Zb ZF])|(simp [ZF];done)|(rw [Yd];simp [ZF];done)|omega)) fl)))
 rintro F h ⟨rfl,rfl⟩
 refine ac ((e.op==7)||(e.op==8)) (p:=(e.op=7)∨(e.op=8)) (Y1 Zi Zi) (fun Yh=>?_) (fun Yh=>?_)
 ·refine aD 9 (ZX 5 9 [0,1,2,3] [1,0] ?_)
  obtain ⟨x4,Ue⟩:=Zt e.kids 0 om
  have hekx4:=DK hks Ue
  have hszx4:=CP Ue
  have htzx4:=BQ Ue
  rw [Wf] at hekx4
  rw [Zfp om] at hekx4
  refine dx 4 (Zk none 0 3 (DE Ue)) (Zs 2 4 [5,6] (Z7 7 (dc 7 [2,2] [] [] (ih l x4 us xs w q (by first|assumption|(rw [ZV];assumption)) (by first|assumption|exact G5 hu hlwhp1.v|exact Ip hu) (by first|omega|(simp only [ZV,Yp,Yx];omega)) (by first|omega|(simp only [ZV,Yp,Yx];omega)) ob ob) ?_)))
  rintro _ _ ⟨ys3,v5,w23,rfl,rfl,YS⟩
  have hlwhp3:=YS
  have hldhp3:=YS.dn
  refine Zs 0 1 [8] (de (ar (iL (XP []) 0 2 fun v6=>Z1 (Zl 4 [4,3] (ic [] (Jr g.decls e.num) ?_)))))
  rintro _ _ ⟨v7,rfl,rfl⟩
  refine Z1 (Y6 (ab 1 (Y2 (fun fz gz m F h=>∃(k:Nat) (cs:List Z8) (u:Value),(1<=k/\k<=e.kids.length)/\(cs.length+1=k)/\(Uc g.decls g.funcs.length (V3 g.decls e.op e.num (q+Yr ys3)) 0 cs)/\(YU cs+6*x4.sz<=cs.length+6*XC (e.kids.take k))/\(Kj WS cs)/\F=sF [0,3,5,6,10] fz [(11,Qw cs u),(12,Z4 (ZY g.decls e.num)),(13,.i k)]/\h=[Zf gz 2,Zf gz 4,Zf gz 5,.tail u 2,Zf gz 3]/\m=e.kids.length-k) _ _ _ ⟨1,[],v6,ob,ob,True.intro,(by have h:XC (e.kids.take 1)=XC (e.kids.take 0)+x4.sz:=BQ Ue;simp only [YU,Yx];omega),True.intro,rfl,rfl,rfl⟩ (wk [2,3,3,1,1] (fr (fc (x:=ZC (ZY g.decls e.num) v7) (Zd.forget _ _) (fc (x:=.i 1) li fl)))) ?_)))
  rintro m F h ⟨k,cs,u,Yj,Zg,Zz,YN,Wh,rfl,rfl,rfl⟩
  refine Ym 3 [1] (iw (Lo e.kids) (Y3 ((k:Int)<(e.kids.length:Int)) (fun YM=>?_) (fun YM=>?_)))
  ·refine ak (aq (ab 2 (Y0 (Xj (V2 [1] (XA (fun fz gz F h=>∃(mf:Nat),(V3 g.decls e.op e.num (q+Yr ys3) cs.length=(q+Yr ys3)+mf)/\(mf<=3)/\(Qb g.decls e.op e.num us.length k=us.length+mf)/\F=sF [0,3,5,6,10,11,12,13] fz [(14,.i mf)]/\h=gz) ?_ ?_))))))
   ·refine ac (e.op==8) Zi (fun X1=>?_) (fun X1=>?_)
    ·refine aE 10 (ZX 6 10 [0,1,2,3] [2] (da 4 (((k-1:Nat):Int)) (((k:Int))-(1)) ?_))
     obtain ⟨x5,UD⟩:=Zt (ZY g.decls e.num) (k-1) (by have:=h8 om;omega)
     exact dx 5 (Zk none ((k-1:Nat):Int) 1 (Y8 UD)) (Zs 3 4 [6] (Z7 7 (YK 7 [] [] [] (Qy g.decls x5) (dn 8 (.i (((ZO g.decls x5).length:Nat):Int)) (.i (((Z6 (ZO g.decls x5)).length:Nat):Int)) (li (by rw [Ye])) (Zs 0 1 [9] (de (ZJ ⟨(ZO g.decls x5).length,(MX om (by rw [show cs.length=k-1 by omega];exact UD)),(by have:=Vq Xq x5;omega),(Zfq om (show k=(k-1)+1 by omega) UD),rfl,rfl⟩ (Zw 5 (fc (x:=.i (((ZO g.decls x5).length:Nat):Int)) (li (by first|rfl|(rw [Zh X1])|(rw [Zb X1])|(simp [X1];done)|(rw [Yd];simp [X1];done)|omega)) fl)))))))))
    exact ak (ZJ ⟨0,(MY om),om,(Z0t om),rfl,rfl⟩ (Zw 5 (fc (x:=.i 0) (li (by first|rfl|(rw [Zh X1])|(rw [Zb X1])|(simp [X1];done)|(rw [Yd];simp [X1];done)|omega)) fl)))
   rintro F h ⟨mf,Zbu,Zju,Zbv,rfl,rfl⟩
   refine aE 25 (ZX 20 25 [0,1,2,3,4] [2,1] ?_)
   obtain ⟨x6,D3⟩:=Zt e.kids k om
   have hekx6:=DK hks D3
   have hszx6:=CP D3
   have htzx6:=BQ D3
   rw [Wf] at hekx6
   rw [Zbv] at hekx6
   have htk:=Bb (xs:=e.kids) (k+1)
   have hbl:=Gr cs
   refine dx 5 (Zk none (k:Int) 3 (DE D3)) (ZX 7 19 [6,7,8,9,10,11,12,15,16,17,18,19] [0,0] (da 20 ((((q+Yr ys3)+mf:Nat):Int)) (((((q+Yr ys3):Nat):Int))+((mf:Int))) (Z7 13 (dc 13 [] [0,1,2] [l,b2,b1] (LV (q+Yr ys3) mf) ?_))))
   rintro _ _ ⟨xs1,rfl,rfl,X2⟩
   have hnx:=X2
   refine Z7 14 (dc 14 [] [0,1,2] [l,b2,b1] (TE us xs1) ?_)
   rintro _ _ ⟨v8,rfl,rfl⟩
   refine Yq 4 4 [] [(98,Z4 (us++xs1))] (Z7 21 (dc 21 [] [] [] (PK g x6 (us++xs1) ((q+Yr ys3)+mf) e.sz (he:=(by rw [ZV,hnx.1];exact hekx6)) (hu:=(Zir hu hnx.2)) (hul:=(by rw [ZV,hnx.1];omega)) (hql:=om) (ih:=ih)) ?_))
   rintro _ _ ⟨b3,rfl,rfl,Xk⟩
   have hlb:=Xk
   exact Z7 22 (WG 22 [] [] [Yl b3] (XP [b3]) (K6 [b3]).symm 1 2 fun v9=>Yq 2 2 [] [(106,JZ [b3])] (Z7 23 (dp 23 5 [] [] (XP (cs++[b3])) (XP cs) (XP [b3]) u none 2 (Jb _) (Jb _) (GG _) (by simp<;>omega) (by simp [CJ,XP]) fun v10=>Zs 0 1 [24] (de (az (Z0 1 (ZD k (Z1 (ZI ⟨k+1,(cs++[b3]),v10,ob,ob,(P0 Zz (by rw [Zbu];exact hlb.1)),(by have:=hlb.2;rw [Gq,ZV];simp only [YU,Yp,Yx];omega),(Sb Wh hlb.op),rfl,rfl,rfl⟩ (wk [3,3,3,0,2] (fw (ZK k fl))))))))))))
  refine ax 1 (Zl 6 [1,1] (iL (Z6 [v5]) 1 1 fun v11=>ZQ 2 [(116,.agg [.i e.op,.i e.num,.i 0,Z4 [v5],JZ cs])] (ic [1,4] (Py l (xs++ys3) w23 (q+Yr ys3) (Z5.mk e.op e.num 0 [v5] cs) (hl:=(by first|(have h1:=Jt zs;have h2:=Bb (xs:=e.kids) k;have h3:=B5 zs;(try simp only [ZV]);omega)|((try simp only [ZV]);omega))) (hq:=(by first|(have h1:=Jt zs;have h2:=Bb (xs:=e.kids) k;have h3:=B5 zs;(try simp only [ZV]);omega)|((try simp only [ZV]);omega)))) ?_)))
  rintro _ _ ⟨w24,rfl,rfl⟩
  refine Z1 ?_
  have hcb:YO e.op=false:=by simp [YO];omega
  exact ZT (r1 [0,0] ⟨(ys3++[Z5.mk e.op e.num 0 [v5] cs]),(((q+Yr ys3):Nat):Int),w24,rfl,rfl,(LW.branch (s0:=x4.sz) (sr:=XC (e.kids.take k)-x4.sz) om (fun h=>by have:=h7 h;omega) (fun h=>by have:=h8 h;omega) hnum hlwhp3.fs hlwhp3.v Zz om hlwhp3.sz (by have:=Gr cs;omega) (by have:=Bb (xs:=e.kids) k;omega) hlwhp3.op Wh)⟩ (eq:=(ro (ls:=[Xi ((xs++ys3)++[(Z5.mk e.op e.num 0 [v5] cs)]) w24,.i ((((q+Yr ys3)+1):Nat):Int)]) (by rw [EN (s:=Z5.mk e.op e.num 0 [v5] cs) hcb,<-Ac,W0]) (rc rz))))
 refine ak (ar (iL (Z6 []) 0 1 fun v12=>?_))
 refine Z1 (Y6 (ab 3 (Y2 (fun fz gz m F h=>∃(k:Nat) (asl:LI) (u:Value) (zs:List Z5) (w3:Value),(k<=e.kids.length)/\(asl.length=k)/\(Wc g.decls g.funcs.length q zs)/\(∀a∈asl,0<=a/\a<((q+Yr zs:Nat):Int))/\(Yu zs<=6*XC (e.kids.take k))/\(Q7 WS zs)/\F=sF [0,3,5,6] fz [(15,ZC asl u),(16,.i k)]/\h=[Zf gz 1,Zf gz 2,.obj l [Xi (xs++zs) w3,.i (((q+Yr zs):Nat):Int)],.tail u 1,.tail w3 5]/\m=e.kids.length-k) _ _ _ ⟨0,[],v12,[],w,ob,ob,True.intro,(fun a ha=>by cases ha),(by simp [Yu]),True.intro,rfl,rfl,rfl⟩ (wk [1,1,1,0,0] (fr (Yc fl)) (e:=(rc (rc (ro (ls:=[Xi xs w,.i q]) (by simp [Yr]) (rc (rc rz))))))) ?_)))
 rintro m F h ⟨k,asl,u,zs,w3,Vp,Xp,XS,IX,Zjf,O5,rfl,rfl,rfl⟩
 refine Ym 3 [0] (iw (Lo e.kids) (Y3 ((k:Int)<(e.kids.length:Int)) (fun WD=>?_) (fun WD=>?_)))
 ·refine ak (aq (ab 4 (aD 10 (ZX 5 10 [0,1,2,3,4] [1,0] ?_))))
  obtain ⟨x7,Hh⟩:=Zt e.kids k om
  have hzl:=Jt zs
  have hzd:=B5 zs
  have htk:=Bb (xs:=e.kids) (k+1)
  have hekx7:=DK hks Hh
  have hszx7:=CP Hh
  have htzx7:=BQ Hh
  rw [Wf] at hekx7
  rw [Z0t om] at hekx7
  refine dx 5 (Zk none (k:Int) 3 (DE Hh)) (Zs 2 4 [6,7] (Z7 8 (dc 8 [2,3] [] [] (ih l x7 us (xs++zs) w3 (q+Yr zs) (by first|assumption|(rw [ZV];assumption)) (by first|assumption|exact G5 hu hlwhp1.v|exact Ip hu) (by first|omega|(simp only [ZV,Yp,Yx];omega)) (by first|omega|(simp only [ZV,Yp,Yx];omega)) ob ob) ?_)))
  rintro _ _ ⟨ys4,v13,w25,rfl,rfl,XU⟩
  have hlwhp6:=XU
  have hldhp6:=XU.dn
  exact Zs 0 1 [9] (de (az (Z0 2 (iL (Z6 [v13]) 1 1 fun v14=>ZQ 0 [(137,Z4 [v13])] (ip 5 (Z6 (asl++[v13])) (Z6 asl) (Z6 [v13]) u none 1 (YD _) (YD _) (W1 _) (by simp<;>omega) (by simp [W5,Z6]) fun v15=>Z1 (az (Z0 1 (ZD k (Z1 (ZI ⟨k+1,(asl++[v13]),v15,(zs++ys4),w25,ob,ob,(Ay.2 ⟨XS,hlwhp6.fs⟩),(by rw [Td,<-Ac];exact G5 IX hlwhp6.v),(by have:=hlwhp6.sz;rw [Qd];omega),(HJ.2 ⟨O5,hlwhp6.op⟩),rfl,rfl,rfl⟩ (wk [4,4,2,0,1] (fr (ZK k fl)) (e:=(rc (rc (ro (ls:=[Xi ((xs++zs)++ys4) w25,.i ((((q+Yr zs)+Yr ys4):Nat):Int)]) (by rw [Td,<-Ac,W0]) (rc (rc rz)))))))))))))))))
 refine ax 3 (Zl 6 [0,0] (iL (XP []) 0 2 fun v16=>ZQ 1 [(146,.agg [.i e.op,.i e.num,.i 0,Z4 asl,JZ []])] (ic [3,4] (Py l (xs++zs) w3 (q+Yr zs) (Z5.mk e.op e.num 0 asl []) (hl:=(by first|(have h1:=Jt zs;have h2:=Bb (xs:=e.kids) k;have h3:=B5 zs;(try simp only [ZV]);omega)|((try simp only [ZV]);omega))) (hq:=(by first|(have h1:=Jt zs;have h2:=Bb (xs:=e.kids) k;have h3:=B5 zs;(try simp only [ZV]);omega)|((try simp only [ZV]);omega)))) ?_)))
 rintro _ _ ⟨w26,rfl,rfl⟩
 refine Z1 ?_
 have hcb:YO e.op=false:=by simp [YO];omega
 exact ZT (r1 [0,0] ⟨(zs++[Z5.mk e.op e.num 0 asl []]),(((q+Yr zs):Nat):Int),w26,rfl,rfl,(LW.node om h9 hnum XS IX om (by have:=Bb (xs:=e.kids) k;omega) O5)⟩ (eq:=(ro (ls:=[Xi ((xs++zs)++[(Z5.mk e.op e.num 0 asl [])]) w26,.i ((((q+Yr zs)+1):Nat):Int)]) (by rw [EN (s:=Z5.mk e.op e.num 0 asl []) hcb,<-Ac,<-W0]) (rc rz))))
theorem Z9p (l:Nat) (g:Wa) (e:Z2) (us:LI) (xs:List Z5) (w:Value) (q:Nat) (hd:GD g.decls) (he:eW g.decls g.funcs.length us.length e) (hu:∀a∈us,0<=a/\a<(q:Int)) (hul:us.length+4*e.sz<=100000) (hxl:xs.length+6*e.sz<=100000) (hql:q+6*e.sz<=100000):Zm 177 [.p l 0,AX g,Y7 e,Z4 us] [.obj l [Xi xs w,.i q],.tail w 5] (fun r h=>∃(ys:List Z5) (v:Int) (w2:Value),r=.i v/\h=[.obj l [Xi (xs++ys) w2,.i (((q+Yr ys):Nat):Int)],.tail w2 5]/\LW g.decls g.funcs.length q e ys v):=by
 have key:∀k:Nat,∀(l:Nat) (e2:Z2) (us2:LI) (xs2:List Z5) (w2:Value) (q2:Nat),(eW g.decls g.funcs.length us2.length e2)->(∀a∈us2,0<=a/\a<(q2:Int))->(us2.length+4*e2.sz<=100000)->(xs2.length+6*e2.sz<=100000)->(q2+6*e2.sz<=100000)->(e2.sz<k)->Zm 177 [.p l 0,AX g,Y7 e2,Z4 us2] [.obj l [Xi xs2 w2,.i q2],.tail w2 5] (fun r h=>∃(ys:List Z5) (v:Int) (w2:Value),r=.i v/\h=[.obj l [Xi (xs2++ys) w2,.i (((q2+Yr ys):Nat):Int)],.tail w2 5]/\LW g.decls g.funcs.length q2 e2 ys v):=by
  intro k
  induction k with
  | zero=>intro l e2 us2 xs2 w2 q2 h1 h2 h3 h4 h5 h6;omega
  | succ k ih=>intro l e2 us2 xs2 w2 q2 h1 h2 h3 h4 h5 h6;exact Z9q l g e2 us2 xs2 w2 q2 hd h1 h2 h3 h4 h5 fun l e3 us3 xs3 w3 q3 a1 a2 a3 a4 a5 a6=>ih l e3 us3 xs3 w3 q3 a1 a2 a3 a4 a5 om
 exact key (e.sz+1) l e us xs w q he hu hul hxl hql om
theorem LU (g:Wa) (e:Z2) (us:LI) (q:Nat) (hd:GD g.decls:=by exact ob) (he:eW g.decls g.funcs.length us.length e:=by exact ob) (hu:∀a∈us,0<=a/\a<(q:Int)) (hul:us.length+4*e.sz<=100000:=by exact ob) (hql:q+6*e.sz<=100000:=by exact ob):Zm 149 [AX g,Y7 e,Z4 us,.i q] [] (fun r h=>∃(b:Z8),r=Yl b/\h=[]/\LB g.decls g.funcs.length q e b):=(PK g e us q (e.sz+1) he hu hul hql om (fun l e2 us2 xs2 w2 q2 h1 h2 h3 h4 h5 _=>Z9p l g e2 us2 xs2 w2 q2 hd h1 h2 h3 h4 h5))
theorem Bs (ds:List Zc) (hd:Xs ds:=by exact ob):Zm 70 [Y5 ds] [] (Yw (Y5 ds)):=by
 have hdl:=hd.len
 refine ZE 55 Tryz.func70 (Y0 (ar (iL (Yv []) 0 3 fun v1=>?_)))
 refine Z1 (Y6 (ab 0 (Y2 (fun fz gz m F h=>∃(k:Nat) (v:Value),(k<=ds.length)/\F=sF [0] fz [(3,KR (ds.take k) v),(4,.i k)]/\h=[.tail v 3]/\m=ds.length-k) _ _ _ ⟨0,v1,ob,rfl,rfl,rfl⟩ (wk [0] (fc (x:=KR [] v1) (Zd.slh _ (Yo Yv rfl)) (Yc fl))) ?_)))
 rintro m F h ⟨k,v,Yj,rfl,rfl,rfl⟩
 refine YQ 2 (iw (Ua ds) (Y3 ((k:Int)<(ds.length:Int)) (fun Za=>?_) (fun Za=>?_)))
 ·obtain ⟨xd,hxd⟩:=Zt ds k om
  have hcl:=hd.cons_at hxd
  refine ak (aq (ab 1 (ar (iL (Xy []) 0 1 fun v2=>?_))))
  refine Z1 (Y6 (ab 2 (Y2 (fun fz gz m F h=>∃(j:Nat) (u:Value),(j<=xd.cons.length)/\F=sF [0,3,4] fz [(5,Ea (xd.cons.take j) u),(6,.i j)]/\h=[.tail u 1,Zf gz 1]/\m=xd.cons.length-j) _ _ _ ⟨0,v2,ob,rfl,rfl,rfl⟩ (wk [0,0] (fc (x:=Ea [] v2) (Zd.slh _ (Yo Xy rfl)) (Yc fl))) ?_)))
  rintro m F h ⟨j,u,Vp,rfl,rfl,rfl⟩
  refine YQ 3 (Zo (Zk none (k:Int) 3 (V1 hxd)) (Z0 2 (iw (Uk xd.cons) (Y3 ((j:Int)<(xd.cons.length:Int)) (fun Zj=>?_) (fun Zj=>?_)))))
  ·refine ak (aq (ab 3 (az (Z0 3 (Zo (Zk none (k:Int) 3 (V1 hxd)) (Z0 3 ?_))))))
   obtain ⟨x1,Z3⟩:=Zt xd.cons j om
   have hfl:=hd.fields_at hxd Z3
   refine Zo (Zk none (j:Int) 1 (As Z3)) (Z0 2 (ic [] (WX x1.fields) ?_))
   rintro _ _ ⟨v3,rfl,rfl⟩
   exact ZQ 1 [(36,Cu x1)] (iL (Xy [x1]) 1 1 fun v4=>ZQ 0 [(37,QO [x1])] (ip 2 (Xy (xd.cons.take (j+1))) (Xy (xd.cons.take j)) (Xy [x1]) u none 1 (CK _) (CK _) (Oq _) (by simp<;>omega) (by rw [V4 Z3];simp [Xy]) fun v5=>Z1 (az (Z0 1 (ZD j (Z1 (ZI ⟨j+1,v5,ob,rfl,rfl,rfl⟩ (wk [0,2] (fr (ZK j fl))))))))))
  exact ax 2 (aE 16 (Zs 13 16 [0,1,2] (dx 3 (Zk none (k:Int) 3 (V1 hxd)) (Zs 8 12 [4,5,6,7] (dx 8 (Zk none (k:Int) 3 (V1 hxd)) (Yq 3 7 [9,10,11,12] [(51,.agg [.i xd.frm,.i xd.to_,QO (xd.cons.take j)])] (Z7 13 (dL 13 [] [] (Yv [Zc.mk xd.frm xd.to_ (xd.cons.take j)]) 1 3 fun v6=>Yq 2 2 [] [(52,Y5 [Zc.mk xd.frm xd.to_ (xd.cons.take j)])] (Z7 14 (dp 14 2 [] [] (Yv (ds.take (k+1))) (Yv (ds.take k)) (Yv [Zc.mk xd.frm xd.to_ (xd.cons.take j)]) v none 3 (QF _) (QF _) (EO _) (by simp<;>omega) (by rw [V4 hxd];simp [Yv,Wg (show xd.cons.length<=j by omega)]) fun v7=>Zs 0 1 [15] (de (az (Z0 1 (ZD k (Z1 (ZI ⟨k+1,v7,ob,rfl,rfl,rfl⟩ (wk [0] (fr (ZK k fl)))))))))))))))))))
 exact ax 0 (ar (Zp (ZZ (KR (ds.take k) v) (Zd.sl _ (Yo Yv (by rw [Wg om]))))))
theorem Z9x (g:Wa) (hg:IA g:=by exact ob):Zm 136 [AX g] [] (fun r h=>∃(n:ZG),r=YF n/\h=[]/\FO n 181 WS):=by
 have hgl:=hg.gp.len
 have Xq:=hg.gp.decls.ok
 refine ZE 49 Tryz.func136 (ar (iA (Mj g) fun b1=>iA [nl,nl] fun b2=>ie (Zl 2 [1] (Zu [] (Bs g.decls) (iL (Xa []) 0 5 fun v1=>Z0 1 (iA [nl,nl] fun b3=>?_))))))
 refine Zx 0 b3 [Y5 g.decls,WV [] v1] (ie (Y6 (ab 0 (Y2 (fun fz gz m F h=>∃(k:Nat) (rs:List YE) (u:Value),(k<=g.funcs.length)/\(rs.length=k)/\(∀r∈rs,RN g.decls g.funcs.length r)/\F=sF [1,2,3] fz [(4,.i k)]/\h=[.obj b3 [Y5 g.decls,WV rs u],Zf gz 2,Zf gz 3,.tail u 5]/\m=g.funcs.length-k) _ _ _ ⟨0,[],v1,ob,ob,(fun r hr=>by cases hr),rfl,rfl,rfl⟩ (wk [0,1,1,0] (Yc fl)) ?_))))
 rintro m F h ⟨k,rs,u,Yj,Zg,Zz,rfl,rfl,rfl⟩
 refine Ym 3 [2] (iw (DF g.funcs) (Y3 ((k:Int)<(g.funcs.length:Int)) (fun Za=>?_) (fun Za=>?_)))
 ·refine ak (aq (ab 1 (Zl 3 [2] ?_)))
  obtain ⟨x1,Z3⟩:=Zt g.funcs k om
  have hso:=(hg.gp.sigs _ (Y4 Z3)).bd
  have hsi:=hg.gp.sigs _ (Y4 Z3)
  have hbo:=hg.body _ (Y4 Z3)
  refine Zo (Zk none (k:Int) 5 (GH Z3)) (Z0 1 (iA [nl,.i 0,.i 0,.i 0,nl] fun b4=>?_))
  refine Zx 0 b4 (Hu x1) (ie (Zl 2 [0] (iw (Ye x1.params) (Z1 (aD 9 (ZX 4 9 [0,1,2,3,5] [3,0] (BN (fun fz gz F h=>∃(b5:Z8) (b6:Nat) (xs1:LI),(xs1.length=x1.params.length/\∀i∈xs1,(0:Int)<=i/\i<(0:Int)+x1.params.length)/\(LB g.decls g.funcs.length x1.params.length x1.body b5)/\F=sF [1,2,3,4,5] fz [(7,.p b6 0)]/\h=[.obj b6 (XY b5),Zf gz 0,Zf gz 1,Zf gz 2,Zf gz 3,Zf gz 4]) ?_ ?_)))))))
  ·refine Us 4 7 ?_ ?_
   ·refine dc 4 [] [0,3] [b4,b1] (LV 0 x1.params.length) ?_
    rintro _ _ ⟨xs1,rfl,rfl,Y9⟩
    have hnx:=Y9
    refine Us 6 7 ?_ ?_
    ·refine dc 6 [] [] [] (LU g x1.body xs1 x1.params.length (hd:=hg.gp.decls) (he:=(by rw [hnx.1];exact hbo.1)) (hu:=(fun a ha=>by have:=hnx.2 a ha;omega))) ?_
     rintro _ _ ⟨b5,rfl,rfl,Yt⟩
     have hlb:=Yt
     exact Z7 7 (dA 7 [] [] [nl,.i 0] fun b6=>Z7 8 (X0 8 0 [] [] b6 (XY b5) (de (ZJ ⟨_,b6,_,(by assumption),(by assumption),rfl,rfl⟩ (Zw 6 fl)))))
    refine dA 7 [0,3] [b4,b1] [nl,.i 0] fun b7=>Z7 6 (dc 6 [] [] [] (LU g x1.body xs1 x1.params.length (hd:=hg.gp.decls) (he:=(by rw [hnx.1];exact hbo.1)) (hu:=(fun a ha=>by have:=hnx.2 a ha;omega))) ?_)
    rintro _ _ ⟨b8,rfl,rfl,YS⟩
    have hlb:=YS
    exact Z7 8 (X0 8 0 [] [] b7 (XY b8) (de (ZJ ⟨_,b7,_,(by assumption),(by assumption),rfl,rfl⟩ (Zw 6 fl))))
   refine dA 7 [0,3] [b4,b1] [nl,.i 0] fun b9=>Z7 4 (dc 4 [] [1,4] [b4,b1] (LV 0 x1.params.length) ?_)
   rintro _ _ ⟨xs2,rfl,rfl,X2⟩
   have hnx:=X2
   refine Z7 6 (dc 6 [] [] [] (LU g x1.body xs2 x1.params.length (hd:=hg.gp.decls) (he:=(by rw [hnx.1];exact hbo.1)) (hu:=(fun a ha=>by have:=hnx.2 a ha;omega))) ?_)
   rintro _ _ ⟨b10,rfl,rfl,Xk⟩
   have hlb:=Xk
   exact Z7 8 (X0 8 0 [] [] b9 (XY b10) (de (ZJ ⟨_,b9,_,(by assumption),(by assumption),rfl,rfl⟩ (Zw 6 fl))))
  rintro F h ⟨b5,b6,xs1,Y9,Yt,rfl,rfl⟩
  have hnx:=Y9
  have hlb:=Yt
  refine aE 14 (ZX 7 14 [0,1,2,3,6,7,8] [2,1,1,0] (Us 4 5 ?_ ?_))
  ·refine dc 4 [] [0,1,2] [b6,b4,b3] (WX x1.params) ?_
   rintro _ _ ⟨v2,rfl,rfl⟩
   exact Z7 5 (dL 5 [0,1,2] [b6,b4,b3] (Z6 []) 0 1 fun v3=>Yq 4 5 [9] [(44,.agg [Z4 x1.params,Z4 [],.i x1.result,Vv b5.steps,.i b5.result])] (Z7 10 (dL 10 [2] [b3] (Xa [YE.mk x1.params [] x1.result (Z8.mk b5.steps b5.result)]) 1 5 fun v4=>Yq 3 3 [] [(45,A0 [YE.mk x1.params [] x1.result (Z8.mk b5.steps b5.result)])] (Z7 11 (dp 11 8 [] [] (Xa (rs++[YE.mk x1.params [] x1.result (Z8.mk b5.steps b5.result)])) (Xa rs) (Xa [YE.mk x1.params [] x1.result (Z8.mk b5.steps b5.result)]) u none 5 (Tf _) (Tf _) (BP _) (by simp<;>omega) (by simp [DI,Xa]) fun v5=>Zs 1 2 [12] (Z7 13 (X0 13 6 [] [] b3 [Y5 g.decls,WV (rs++[YE.mk x1.params [] x1.result (Z8.mk b5.steps b5.result)]) v5] (de (az (Z0 1 (ZD k (Z1 (ZI ⟨k+1,(rs++[YE.mk x1.params [] x1.result (Z8.mk b5.steps b5.result)]),v5,ob,ob,(XF Zz (RN.of hsi hlb hbo.2)),rfl,rfl,rfl⟩ (wk [0,6,6,0] (ZK k fl)))))))))))))))
  refine dL 5 [0,1,1,2] [b6,b4,b4,b3] (Z6 []) 0 1 fun v6=>Z7 4 (dc 4 [] [0,1,2] [b6,b4,b3] (WX x1.params) ?_)
  rintro _ _ ⟨v7,rfl,rfl⟩
  exact Yq 4 5 [9] [(44,.agg [Z4 x1.params,Z4 [],.i x1.result,Vv b5.steps,.i b5.result])] (Z7 10 (dL 10 [2] [b3] (Xa [YE.mk x1.params [] x1.result (Z8.mk b5.steps b5.result)]) 1 5 fun v8=>Yq 3 3 [] [(45,A0 [YE.mk x1.params [] x1.result (Z8.mk b5.steps b5.result)])] (Z7 11 (dp 11 8 [] [] (Xa (rs++[YE.mk x1.params [] x1.result (Z8.mk b5.steps b5.result)])) (Xa rs) (Xa [YE.mk x1.params [] x1.result (Z8.mk b5.steps b5.result)]) u none 5 (Tf _) (Tf _) (BP _) (by simp<;>omega) (by simp [DI,Xa]) fun v9=>Zs 1 2 [12] (Z7 13 (X0 13 6 [] [] b3 [Y5 g.decls,WV (rs++[YE.mk x1.params [] x1.result (Z8.mk b5.steps b5.result)]) v9] (de (az (Z0 1 (ZD k (Z1 (ZI ⟨k+1,(rs++[YE.mk x1.params [] x1.result (Z8.mk b5.steps b5.result)]),v9,ob,ob,(XF Zz (RN.of hsi hlb hbo.2)),rfl,rfl,rfl⟩ (wk [0,6,6,0] (ZK k fl))))))))))))))
 exact ax 0 (Zl 1 [0] (Zx 1 b2 [Y5 g.decls,WV rs u] (ie (ZT (r3 [] [.agg [Y5 g.decls,WV rs u]] [0] [(b2,b2)] ⟨(ZG.mk g.decls rs),rfl,rfl,(RN.all hg.gp.decls (by show 1<=rs.length/\rs.length<=4;omega) (by show ∀r∈rs,RN g.decls rs.length r;rw [show rs.length=g.funcs.length by omega];exact Zz) om)⟩ (Zd.agg (.cons (lr _) (.cons (Zd.forget _ _) .nil))))))))
theorem Zhh (n:ZG) (hz:Ad n:=by exact ob):Zm 142 [YF n] [] (Yw (.b (Kw n))):=by
 have hzl:=hz.len
 refine ZE 35 Tryz.func142 (ar (iA (X8 n) fun b1=>Z1 (Ym 1 [0] (Zu [] (Zhg n (hz:=hz.decls) (hr:=(fun r hr=>⟨hz.params r hr,hz.lent r hr⟩))) (YC (!AG n) (p:=¬(AG n=true)) (Ys Iff.rfl) (fun Za=>?_) (fun Za=>?_))))))
 ·exact ar (Zp (ZZ (.b false) (lb (by first|rfl|omega|grind [Kw]))))
 have hok:=S2 hz (by simpa using Za)
 refine ak (Y6 (ab 0 (Y2 (fun fz gz m F h=>∃(k:Nat),(k<=n.routines.length)/\(Br n (n.routines.drop k)=Br n n.routines)/\F=sF [1] fz [(3,.i k)]/\h=gz/\m=n.routines.length-k) _ _ _ ⟨0,ob,ob,rfl,rfl,rfl⟩ (wk [0] (Yc fl)) ?_)))
 rintro m F h ⟨k,Yj,Zg,rfl,rfl,rfl⟩
 refine Ym 3 [0] (iw (Q3 n.routines) (Y3 ((k:Int)<(n.routines.length:Int)) (fun Zj=>?_) (fun Zj=>?_)))
 ·refine ak (aq (ab 1 (Zl 3 [0] ?_)))
  obtain ⟨x1,Z3⟩:=Zt n.routines k om
  have ZM:=hz.body _ (Y4 Z3)
  have hps:=hok.params_at Z3
  refine Zo (Zk none (k:Int) 5 (VR Z3)) (Z0 1 (iA [nl,nl,.i 0,nl,.i 0] fun b2=>Zx 0 b2 (JV x1) (ie (aD 15 (ZX 13 15 [0,1] [0] (Z7 2 (YK 2 [] [] [] (Zh7 x1.body) (CF [1,3] [(34,.b ((decide ((Bv x1.body)<0))||((W6 n x1.params x1.body) != x1.result)))] (fun gz=>gz) ?_ ?_))))))))
  ·refine Zs 10 12 [3,4] (db (b:=(decide ((Bv x1.body)<0))) 24 (fun Ze=>?_) (fun Ze=>?_))
   ·exact Zs 0 10 [5,6,7,8,9,10,11,12,13,14] (de (wk [0,0] (Zq true Ze fl)))
   exact ZX 3 10 [5,6,7,8,9,11,12] [1,0,0,0] (Z7 10 (YK 10 [] [0] [b2] (Z1e n x1.params x1.body ob ob) (Zs 0 2 [13,14] (de (wk [0,0] (Zq ((W6 n x1.params x1.body) != x1.result) Ze fl))))))
  refine ac ((decide ((Bv x1.body)<0))||((W6 n x1.params x1.body) != x1.result)) (p:=((Bv x1.body)<0)∨((W6 n x1.params x1.body)≠x1.result)) (Y1 dq YB) (fun ZF=>?_) (fun ZF=>?_)
  ·refine Y0 ?_
   rw [Yi Z3] at Zg
   exact ZT (ZZ (.b false) (lb (by clear Z3;first|rfl|omega|grind [Br,Kw])))
  refine ak (az (Z0 1 (ZD k (Z1 ?_))))
  have hdr:=Yi Z3
  exact ZI ⟨k+1,ob,(by rw [hdr] at Zg;clear hdr Z3;grind [Br]),rfl,rfl,rfl⟩ (wk [1] (ZK k fl))
 refine ax 0 (Y0 ?_)
 try rw [Xn (xs:=n.routines) (k:=k) om] at Zg
 exact ZT (ZZ (.b true) (lb (by first|rfl|omega|grind [Br,Kw])))
theorem Z1h (op:Int) :Zm 210 [.i op] [] (Yw (.b (YO op))):=by
 exact ZE 5 Tryz.func210 (Y0 (Yf 1 (Zu [] (Vk op 14 17) (Zp (ZZ (.b (decide (14<=op/\op<=17))) (lb (by first|rfl|omega|grind [YO])))))))
theorem Z1f (op:Int) :Zm 220 [.i op] [] (Yw (.b (Ap op))):=by
 refine ZE 17 Tryz.func220 (Y0 (ar (Xc 6 [0] [(8,.b ((op==6)||(op==9)))] (fun gz=>gz) ?_ (fun hj1=>?_))))
 ·refine Xc 10 [0] [(12,.b (((op==6)||(op==9))||(op==10)))] (fun gz=>gz) ?_ (fun hj2=>?_)
  ·refine Xc 14 [] [(16,.b ((((op==6)||(op==9))||(op==10))||(op==11)))] (fun gz=>gz) ?_ (fun hj3=>?_)
   ·exact Zp (ZZ (.b ((((op==6)||(op==9))||(op==10))||(op==11))) (lb (by first|rfl|omega|grind [Ap])))
   refine Z0 1 (ib (b:=(((op==6)||(op==9))||(op==10))) 13 (fun Ze=>?_) (fun Ze=>?_))
   ·exact Z0 3 (Ya (wk [] (Zq true Ze fl)) hj3)
   exact Z0 3 (Ya (wk [] (Zq (op==11) Ze fl)) hj3)
  refine Z0 1 (ib (b:=((op==6)||(op==9))) 9 (fun ZH=>?_) (fun ZH=>?_))
  ·exact Z0 3 (Ya (wk [] (Zq true ZH fl)) hj2)
  exact Z0 3 (Ya (wk [] (Zq (op==10) ZH fl)) hj2)
 refine Z0 3 (ib (b:=(op==6)) 5 (fun Yn=>?_) (fun Yn=>?_))
 ·exact Z0 3 (Ya (wk [] (Zq true Yn fl)) hj1)
 exact Z0 3 (Ya (wk [] (Zq (op==9) Yn fl)) hj1)
theorem FT (n:ZG) (s:Z5) (i:Nat) (hn:Xw n:=by exact ob) (hnum:s.op=9->0<=s.num/\s.num<n.routines.length:=by exact ob):Zm 208 [YF n,X4 s,.i i] [] (Yw (.b (T2 n s.op s.num i))):=by
 refine ZE 21 Tryz.func208 (ar (iA (X8 n) fun b1=>iA (Wd s) fun b2=>Z1 (Zl 4 [0] (ib (b:=(s.op==9)) 10 (fun Ze=>?_) (fun Ze=>?_)))))
 ·have Y9:s.op=9:=(Zi).1 Ze
  refine ZB 4 [1,0] ?_
  obtain ⟨x1,Z3⟩:=Zt n.routines s.num.toNat om
  have hlt:=hn.lent_at Z3
  have hlr:=Zco (n:=n) Y9 Z3
  exact Zo (Zk none s.num 5 (VR Z3)) (Z0 3 (Zu [] (UT x1.lent (i:Int)) (Zp (ZZ (.b (decide ((i:Int)∈x1.lent))) (lb (by rw [T2,hlr]))))))
 have Yt:¬(s.op=9):=Yb Zi Ze
 exact Zp (ZZ (.b false) (lb (by rw [T2,E5,Zb Yt];simp)))
theorem Ie (n:ZG) (us:LI) (s:Z5) (i:Nat) (a:Int) (hn:Xw n:=by exact ob) (hnum:s.op=9->0<=s.num/\s.num<n.routines.length:=by exact ob) (ha:s.args[i]? = some a:=by exact ob) (hi:0<=a/\a<us.length:=by exact ob):Zm 203 [YF n,Z4 us,X4 s,.i i] [] (Yw (.b (JG n us s.op s.num a i))):=by
 have hal:=(X9.1 ha).1
 refine ZE 30 Tryz.func203 (ar (iA (X8 n) fun b1=>iA (Wd s) fun b2=>Z1 (Zl 2 [0] (Zu [] (Z1f s.op) (Z0 1 (ib (b:=Ap s.op) 12 (fun Ze=>?_) (fun Ze=>?_)))))))
 ·refine ZB 4 [0] ?_
  obtain ⟨x1,Z3⟩:=Zt s.args i om
  have hxa:x1=a:=by rw [ha] at Z3;exact (Dq Z3).symm
  subst hxa
  refine Zo (Zk none (i:Int) 1 (Y8 Z3)) (Z0 1 ?_)
  obtain ⟨x2,Zy⟩:=Zt us x1.toNat om
  have hga:=Tl Zy
  refine Zo (Zk none x1 1 (Y8 Zy)) (Z0 4 (ib (b:=(x2 != 0)) 23 (fun ZH=>?_) (fun ZH=>?_)))
  ·exact ZB 3 [1,0] (Zu [] (FT n s i) (Zp (ZZ (.b (!T2 n s.op s.num i)) (lb (by clear Z3 Zy;first|rfl|(rw [JG];grind))))))
  exact Zp (ZZ (.b false) (lb (by clear Z3 Zy;first|rfl|(rw [JG];grind))))
 exact Zp (ZZ (.b false) (lb (by  first|rfl|(rw [JG];grind))))
theorem Z1m (xs:LI) (ys:LI) (hl_xs:xs.length<=4294967296:=by exact ob) (hl_ys:ys.length<=4294967296:=by exact ob):Zm 207 [Z4 xs,Z4 ys] [] (Yw (.b (decide (xs=ys)))):=by
 refine ZE 26 Tryz.func207 (Y0 (YQ 1 (iw (Ye xs) (Z0 1 (iw (Ye ys) (YC ((xs.length:Int) != (ys.length:Int)) YB (fun Za=>?_) (fun Za=>?_)))))))
 ·exact ar (Zp (ZZ (.b false) (lb (eq_comm.1 (decide_eq_false (fun q=>by rw [q] at Za;exact Za rfl))))))
 refine ak (Y6 (ab 0 (Y2 (fun fz gz m F h=>∃(k:Nat),(k<=xs.length)/\(xs.take k=ys.take k)/\F=sF [0,1] fz [(5,.i k)]/\h=gz/\m=xs.length-k) _ _ _ ⟨0,ob,ob,rfl,rfl,rfl⟩ (wk [] (Yc fl)) ?_)))
 rintro m F h ⟨k,Yj,Zg,rfl,rfl,rfl⟩
 refine YQ 2 (iw (Ye xs) (Y3 ((k:Int)<(xs.length:Int)) (fun Zj=>?_) (fun Zj=>?_)))
 ·refine ak (aq (ab 1 (aD 9 (Zs 7 9 [0,1] ?_))))
  obtain ⟨x1,Z3⟩:=Zt xs k om
  refine dx 2 (Zk none (k:Int) 1 (Y8 Z3)) (Zs 3 6 [3,4,5] ?_)
  obtain ⟨x2,Zy⟩:=Zt ys k om
  refine dx 6 (Zk none (k:Int) 1 (Y8 Zy)) (Zs 0 2 [7,8] (de (ac (x1 != x2) YB (fun ZF=>?_) (fun ZF=>?_))))
  ·exact ar (Zp (ZZ (.b false) (lb (eq_comm.1 (decide_eq_false (fun q=>by subst q;rw [Z3] at Zy;cases Zy;exact ZF rfl))))))
  refine ak (az (Z0 1 (ZD k (Z1 ?_))))
  have hdr:=Yi Z3
  exact ZI ⟨k+1,ob,(by rw [V4 Z3,V4 Zy,Zg];have hxx:x1=x2:=om;rw [hxx]),rfl,rfl,rfl⟩ (wk [] (ZK k fl))
 exact ax 0 (ar (Zp (ZZ (.b true) (lb (eq_comm.1 (decide_eq_true (by rw [Wg om,Wg om] at Zg;exact Zg)))))))
theorem Bt (xs:LI) (hlen:xs.length<=4294967296:=by exact ob):Zm 74 [Z4 xs] [] (fun r h=>∃(v:Hd),r=.h v/\h=[rV v xs]):=by
 exact ZE 6 Tryz.func74 (Y0 (ar (iVL [] 0 fun v1=>Z0 1 (Bl 0 v1 [] xs none fun v2=>Zp (r1 [0] ⟨v2,rfl,rfl⟩ (eq:=(rv (xs:=([]++xs)) ob rz)))))))
theorem KN (b:Nat) (ga:Hd) (gb:Hd) (gc:Hd) (gd:Hd) (ge:Hd) (gf:Hd) (L:ZL) (ln:LI) (t:Int) (o:Int) (p:Int) (hlb:L.vars.length<=1000000000:=by exact ob) (hlk:Tv L:=by exact ob):Zm 164 [.p b 0,.i t,.i o,.i p] [.obj b [.h ga,.h gb,.h gc,.h gd,.h ge,.h gf,Z4 ln],rV ga L.vars,rV gb L.own,rV gc L.par,rV gd L.con,rV ge L.fst,rV gf L.tok] (fun r h=>∃(wa:Hd) (wb:Hd) (wc:Hd) (wd:Hd) (we:Hd) (wf:Hd),h=[.obj b [.h wa,.h wb,.h wc,.h wd,.h we,.h wf,Z4 ln],rV wa ((L.grow t o p).vars),rV wb ((L.grow t o p).own),rV wc ((L.grow t o p).par),rV wd ((L.grow t o p).con),rV we ((L.grow t o p).fst),rV wf ((L.grow t o p).tok)]):=by
 obtain ⟨e1,e2,e3,e4,e5⟩:=hlk
 exact ZE 65 Tryz.func164 (Zl 6 [0] (iL (Z6 [t]) 1 1 fun v1=>ZQ 0 [(14,Z4 [t])] (Bl 2 ga L.vars [t] none fun v2=>Z0 2 (Zx 2 b [.h v2,.h gb,.h gc,.h gd,.h ge,.h gf,Z4 ln] (ie (Zl 6 [0] (iL (Z6 [o]) 1 1 fun v3=>ZQ 0 [(24,Z4 [o])] (Bl 4 gb L.own [o] none fun v4=>Z0 2 (Zx 2 b [.h v2,.h v4,.h gc,.h gd,.h ge,.h gf,Z4 ln] (ie (Zl 6 [0] (iL (Z6 [p]) 1 1 fun v5=>ZQ 0 [(34,Z4 [p])] (Bl 6 gc L.par [p] none fun v6=>Z0 2 (Zx 2 b [.h v2,.h v4,.h v6,.h gd,.h ge,.h gf,Z4 ln] (ie (Zl 5 [0] (iL (Z6 [-1]) 1 1 fun v7=>ZQ 0 [(43,Z4 [-1])] (Bl 8 gd L.con [-1] none fun v8=>Z0 2 (Zx 2 b [.h v2,.h v4,.h v6,.h v8,.h ge,.h gf,Z4 ln] (ie (Zl 5 [0] (iL (Z6 [-1]) 1 1 fun v9=>ZQ 0 [(52,Z4 [-1])] (Bl 10 ge L.fst [-1] none fun v10=>Z0 2 (Zx 2 b [.h v2,.h v4,.h v6,.h v8,.h v10,.h gf,Z4 ln] (ie (az (ZB 5 [0] (iL (Z6 [-1]) 1 1 fun v11=>ZQ 0 [(61,Z4 [-1])] (Bl 12 gf L.tok [-1] none fun v12=>Z0 2 (Zx 2 b [.h v2,.h v4,.h v6,.h v8,.h v10,.h v12,Z4 ln] (ie (r2 [0,10,8,6,4,2,0] [] ⟨v2,v4,v6,v8,v10,v12,rfl⟩ (lr _) (eq:=(rc (rv (xs:=(L.vars++[t])) ob (rv (xs:=(L.own++[o])) ob (rv (xs:=(L.par++[p])) ob (rv (xs:=(L.con++[-1])) ob (rv (xs:=(L.fst++[-1])) ob (rv (xs:=(L.tok++[-1])) ob rz))))))))))))))))))))))))))))))))))))))))
theorem Zci (b:Nat) (ga:Hd) (gb:Hd) (gc:Hd) (gd:Hd) (ge:Hd) (gf:Hd) (L:ZL) (ln:LI) (hlb:L.vars.length<=1000000000:=by exact ob) (hlk:Tv L:=by exact ob) (hln:ln.length<=4294967296:=by exact ob):Zm 226 [.p b 0] [.obj b [.h ga,.h gb,.h gc,.h gd,.h ge,.h gf,Z4 ln],rV ga L.vars,rV gb L.own,rV gc L.par,rV gd L.con,rV ge L.fst,rV gf L.tok] (fun r h=>∃(c:Nat) (wa:Hd) (wb:Hd) (wc:Hd) (wd:Hd) (we:Hd) (wf:Hd),r=.p c 0/\h=[.obj c [.h wa,.h wb,.h wc,.h wd,.h we,.h wf,Z4 ln],rV wa L.vars,rV wb L.own,rV wc L.par,rV wd L.con,rV we L.fst,rV wf L.tok,.obj b [.h ga,.h gb,.h gc,.h gd,.h ge,.h gf,Z4 ln],rV ga L.vars,rV gb L.own,rV gc L.par,rV gd L.con,rV ge L.fst,rV gf L.tok]):=by
 obtain ⟨e1,e2,e3,e4,e5⟩:=hlk
 refine ZE 40 Tryz.func226 (Y0 (aD 38 (ZX 10 38 [0,1,2,3,5,6,7,8,10,11,12,13,15,16,17,18,20,21,22,23,25,26,27,28,30,31,32,33] [0,0,0,0,0,0,0] (Z7 4 (Aq 4 [1] [0,0,0,0,0,0] [b,b,b,b,b,b] [rV ga L.vars] (Bt L.vars) Dw (gL (v:=ga) 0 gN) (Jm AF) ?_)))))
 rintro _ _ ⟨v1,rfl,rfl⟩
 refine Z7 9 (Aq 9 [3] [0,0,0,0,0] [b,b,b,b,b] [rV gb L.own] (Bt L.own) Dw (gL (v:=gb) 0 gN) (Jm AF) ?_)
 rintro _ _ ⟨v2,rfl,rfl⟩
 refine Z7 14 (Aq 14 [5] [0,0,0,0] [b,b,b,b] [rV gc L.par] (Bt L.par) Dw (gL (v:=gc) 0 gN) (Jm AF) ?_)
 rintro _ _ ⟨v3,rfl,rfl⟩
 refine Z7 19 (Aq 19 [7] [0,0,0] [b,b,b] [rV gd L.con] (Bt L.con) Dw (gL (v:=gd) 0 gN) (Jm AF) ?_)
 rintro _ _ ⟨v4,rfl,rfl⟩
 refine Z7 24 (Aq 24 [9] [0,0] [b,b] [rV ge L.fst] (Bt L.fst) Dw (gL (v:=ge) 0 gN) (Jm AF) ?_)
 rintro _ _ ⟨v5,rfl,rfl⟩
 refine Z7 29 (Aq 29 [11] [0] [b] [rV gf L.tok] (Bt L.tok) Dw (gL (v:=gf) 0 gN) (Jm AF) ?_)
 rintro _ _ ⟨v6,rfl,rfl⟩
 refine Z7 34 (dc 34 [] [] [] (WX ln) ?_)
 rintro _ _ ⟨v7,rfl,rfl⟩
 exact Yq 2 3 [35] [(38,.agg [.h v1,.h v2,.h v3,.h v4,.h v5,.h v6,Z4 ln])] (Z7 36 (dA 36 [] [] [.h v1,.h v2,.h v3,.h v4,.h v5,.h v6,Z4 ln] fun b1=>Zs 0 1 [37] (de (ZT (r1 [0,11,9,7,5,3,1,7,6,5,4,3,2,1] ⟨b1,v1,v2,v3,v4,v5,v6,rfl,rfl⟩)))))
theorem Hy (b:Nat) (ga:Hd) (gb:Hd) (gc:Hd) (gd:Hd) (ge:Hd) (gf:Hd) (L:ZL) (ln:LI) (i:Int) (hlk:Tv L:=by exact ob) (hi:0<=i/\i<L.vars.length:=by exact ob) (hq:∀x∈L.own,0<=x/\x<=1000000000):Zm 165 [.p b 0,.i i] [.obj b [.h ga,.h gb,.h gc,.h gd,.h ge,.h gf,Z4 ln],rV ga L.vars,rV gb L.own,rV gc L.par,rV gd L.con,rV ge L.fst,rV gf L.tok] (fun r h=>(∃(wa:Hd) (wb:Hd) (wc:Hd) (wd:Hd) (we:Hd) (wf:Hd) (L':ZL),r=.b true/\h=[.obj b [.h wa,.h wb,.h wc,.h wd,.h we,.h wf,Z4 ln],rV wa L'.vars,rV wb L'.own,rV wc L'.par,rV wd L'.con,rV we L'.fst,rV wf L'.tok]/\Qe L i=some L')∨(r=.b false/\h=[]/\Qe L i=none)):=by
 obtain ⟨e1,e2,e3,e4,e5⟩:=hlk
 refine ZE 27 Tryz.func165 (Y0 (Ym 5 [0] (Zo (Uj 2 gb L.own i i.toNat (hq:=rfl)) ?_)))
 obtain ⟨x1,Z3⟩:=Zt L.own i.toNat om
 have hxq:=hq _ (Y4 Z3)
 have hgi:=Tl Z3
 refine VC (Qz 2 gb L.own i.toNat x1 Z3) (Y3 (x1<1) (fun Za=>?_) (fun Za=>?_))
 ·exact ar (Zp (r1 [] (.inr ⟨rfl,rfl,(by rw [Qe,hgi,Zh Za])⟩)))
 exact ak (aD 15 (ZX 5 15 [0,1,2,3,4,5,6,7,8,9] [0,0] (dx 10 (Uj 2 gb L.own i i.toNat (hq:=rfl)) (UC 11 (Qz 2 gb L.own i.toNat x1 Z3) (da 12 ((x1-1)) ((x1)-(1)) (dx 13 (Uj 2 gb L.own i i.toNat (hq:=rfl)) (Z7 14 (CG 14 2 [] [] gb L.own i.toNat (x1-1) (de (ar (Zp (r1 [1,1,0,0,0,0,0] (.inl ⟨ga,gb,gc,gd,ge,gf,(ZL.mk L.vars (L.own.set i.toNat (x1-1)) L.par L.con L.fst L.tok),rfl,rfl,(by rw [Qe,hgi,Zb Za])⟩) (eq:=(rc (rv (xs:=L.vars) ob (rv (xs:=(L.own.set i.toNat (x1-1))) ob (rv (xs:=L.par) ob (rv (xs:=L.con) ob (rv (xs:=L.fst) ob (rv (xs:=L.tok) ob rz))))))))))))))))))))
theorem Hx (b:Nat) (ga:Hd) (gb:Hd) (gc:Hd) (gd:Hd) (ge:Hd) (gf:Hd) (L:ZL) (ln:LI) (i:Int) (hlk:Tv L:=by exact ob) (hln:ln.length<=4294967296:=by exact ob) (hi:0<=i/\i<L.vars.length:=by exact ob) (hd:∀j:Int,0<=j->j<L.vars.length->gI L.par j<j):Zm 115 [.p b 0,.i i] [.obj b [.h ga,.h gb,.h gc,.h gd,.h ge,.h gf,Z4 ln],rV ga L.vars,rV gb L.own,rV gc L.par,rV gd L.con,rV ge L.fst,rV gf L.tok] (fun r h=>r=.b (Ta L ln i)/\h=[.obj b [.h ga,.h gb,.h gc,.h gd,.h ge,.h gf,Z4 ln],rV ga L.vars,rV gb L.own,rV gc L.par,rV gd L.con,rV ge L.fst,rV gf L.tok]):=by
 obtain ⟨e1,e2,e3,e4,e5⟩:=hlk
 refine ZE 31 Tryz.func115 (Y0 (aq (ab 0 (Y2 (fun fz gz m F h=>∃(j:Int),(0<=j/\j<L.vars.length)/\(K0 L.own L.par ln (j.toNat+1) j=Ta L ln i)/\F=sF [0] fz [(1,.i j)]/\h=gz/\m=j.toNat) _ _ _ ⟨i,ob,ob,rfl,rfl,rfl⟩ (Zw 7 fl) ?_))))
 rintro m F h ⟨j,Yj,Zg,rfl,rfl,rfl⟩
 refine Ym 5 [0] (Zo (Uj 2 gb L.own j j.toNat (hq:=rfl)) ?_)
 obtain ⟨x1,Z3⟩:=Zt L.own j.toNat om
 have hg1:=Tl Z3
 refine VC (Qz 2 gb L.own j.toNat x1 Z3) (Xx [0,1] [(21,.b ((decide (x1<1))&&(!(decide (j∈ln)))))] (fun gz=>gz) ?_ ?_)
 ·refine Z0 2 (ib (b:=(decide (x1<1))) 13 (fun Ze=>?_) (fun Ze=>?_))
  ·exact ZB 5 [0] (Zu [] (UT ln j) (Z1 (Zw 7 (Zq (!(decide (j∈ln))) Ze fl))))
  exact Z1 (Zw 7 (Zq false Ze fl))
 refine ac ((decide (x1<1))&&(!(decide (j∈ln)))) (p:=(x1<1)/\(¬(j∈ln))) (YI dq (Ys dq)) (fun Za=>?_) (fun Za=>?_)
 ·refine ak (ab 1 (Zl 5 [0] (Zo (Uj 3 gc L.par j j.toNat (hq:=rfl)) ?_)))
  obtain ⟨x2,Zy⟩:=Zt L.par j.toNat om
  have hg2:=Tl Zy
  have hdj:=hd j om om
  rw [hg2] at hdj
  refine VC (Qz 3 gc L.par j.toNat x2 Zy) (Z1 (ar (Y3 (x2<0) (fun Zj=>?_) (fun Zj=>?_))))
  ·exact ar (Zp (r2 [0,0,0,0,0,0,0] [.b false] ⟨rfl,rfl⟩ (lb (Z3m hg1 hg2 Za Zj Zg))))
  exact ak (ZI ⟨x2,om,(Z3n hg1 hg2 Yj Za Zj hd Zg),rfl,rfl,rfl⟩ (Zw 7 fl))
 exact ax 0 (ar (Zp (r2 [0,0,0,0,0,0,0] [.b true] ⟨rfl,rfl⟩ (lb (Z3o hg1 Za Zg)))))
theorem RB (b:Nat) (ga:Hd) (gb:Hd) (gc:Hd) (gd:Hd) (ge:Hd) (gf:Hd) (L:ZL) (ln:LI) (mm:Nat) (hlk:Tv L:=by exact ob) (hlb:L.vars.length<=1000000000:=by exact ob) (hm:mm<=L.vars.length:=by exact ob):Zm 239 [.p b 0,.i mm] [.obj b [.h ga,.h gb,.h gc,.h gd,.h ge,.h gf,Z4 ln],rV ga L.vars,rV gb L.own,rV gc L.par,rV gd L.con,rV ge L.fst,rV gf L.tok] (fun r h=>(∃(wa:Hd) (wb:Hd) (wc:Hd) (wd:Hd) (we:Hd) (wf:Hd) (L':ZL),r=.b true/\h=[.obj b [.h wa,.h wb,.h wc,.h wd,.h we,.h wf,Z4 ln],rV wa L'.vars,rV wb L'.own,rV wc L'.par,rV wd L'.con,rV we L'.fst,rV wf L'.tok]/\JH L mm=some L')∨(r=.b false/\h=[]/\JH L mm=none)):=by
 obtain ⟨e1,e2,e3,e4,e5⟩:=hlk
 refine ZE 88 Tryz.func239 (Y0 (Y6 (ab 0 (Y2 (fun fz gz m F h=>∃(k:Nat),(mm<=k/\k<=L.vars.length)/\(Ck (L.own.drop k) (L.tok.drop k)=Ck (L.own.drop mm) (L.tok.drop mm))/\F=sF [0,1] fz [(5,.i k)]/\h=gz/\m=L.vars.length-k) _ _ _ ⟨mm,ob,ob,rfl,rfl,rfl⟩ (Zw 7 fl) ?_))))
 rintro m F h ⟨k,Yj,Zg,rfl,rfl,rfl⟩
 refine Ym 5 [0] (Zo (Dm 1 ga L.vars) (Y3 ((k:Int)<(L.vars.length:Int)) (fun Za=>?_) (fun Za=>?_)))
 ·refine ak (aq (ab 1 (Zl 5 [0] (Zo (Uj 2 gb L.own (k:Int) k) ?_))))
  obtain ⟨x1,Z3⟩:=Zt L.own k om
  refine VC (Qz 2 gb L.own k x1 Z3) (Z0 2 (ib (b:=(x1 != 0)) 24 (fun Ze=>?_) (fun Ze=>?_)))
  ·have Y9:x1≠0:=(YB).1 Ze
   refine Z1 (Vo (Y0 ?_))
   obtain ⟨y2,hy2⟩:=Zt L.tok k om
   exact ZT (r1 [] (.inr ⟨rfl,rfl,(by rw [JH,<-Zg,Yi Z3,Yi hy2,Ck,Zh (show x1≠0∨0<=y2 by omega)];rfl)⟩))
  have Yt:¬(x1≠0):=Yb YB Ze
  refine ZB 5 [0] (Zo (Uj 6 gf L.tok (k:Int) k) ?_)
  obtain ⟨x2,Zy⟩:=Zt L.tok k om
  refine VC (Qz 6 gf L.tok k x2 Zy) (Y3 (x2>=0) (fun Zj=>?_) (fun Zj=>?_))
  ·exact ar (Zp (r1 [] (.inr ⟨rfl,rfl,(by rw [JH,<-Zg,Yi Z3,Yi Zy,Ck,Zh (show x1≠0∨0<=x2 by omega)];rfl)⟩)))
  exact ak (az (Z0 1 (ZD k (Z1 (ZI ⟨k+1,ob,(by rw [Yi Z3,Yi Zy,Ck,Zb om] at Zg;exact Zg),rfl,rfl,rfl⟩ (Zw 7 (ZK k fl)))))))
 exact ax 0 (Zl 6 [0] (Zo (Ez 1 ga L.vars mm) (Z0 2 (Xb (Et 1 mm ga L.vars) (Zx 1 b [.h (ga.cut mm),.h gb,.h gc,.h gd,.h ge,.h gf,Z4 ln] (ie (Zl 6 [0] (Zo (Ez 2 gb L.own mm) (Z0 2 (Xb (Et 2 mm gb L.own) (Zx 1 b [.h (ga.cut mm),.h (gb.cut mm),.h gc,.h gd,.h ge,.h gf,Z4 ln] (ie (Zl 6 [0] (Zo (Ez 3 gc L.par mm) (Z0 2 (Xb (Et 3 mm gc L.par) (Zx 1 b [.h (ga.cut mm),.h (gb.cut mm),.h (gc.cut mm),.h gd,.h ge,.h gf,Z4 ln] (ie (Zl 6 [0] (Zo (Ez 4 gd L.con mm) (Z0 2 (Xb (Et 4 mm gd L.con) (Zx 1 b [.h (ga.cut mm),.h (gb.cut mm),.h (gc.cut mm),.h (gd.cut mm),.h ge,.h gf,Z4 ln] (ie (Zl 6 [0] (Zo (Ez 5 ge L.fst mm) (Z0 2 (Xb (Et 5 mm ge L.fst) (Zx 1 b [.h (ga.cut mm),.h (gb.cut mm),.h (gc.cut mm),.h (gd.cut mm),.h (ge.cut mm),.h gf,Z4 ln] (ie (Zl 6 [0] (Zo (Ez 6 gf L.tok mm) (Z0 2 (Xb (Et 6 mm gf L.tok) (Zx 1 b [.h (ga.cut mm),.h (gb.cut mm),.h (gc.cut mm),.h (gd.cut mm),.h (ge.cut mm),.h (gf.cut mm),Z4 ln] (ie (ar (Zp (r1 [0,5,4,3,2,1,0] (.inl ⟨(ga.cut mm),(gb.cut mm),(gc.cut mm),(gd.cut mm),(ge.cut mm),(gf.cut mm),(ZL.mk (L.vars.take mm) (L.own.take mm) (L.par.take mm) (L.con.take mm) (L.fst.take mm) (L.tok.take mm)),rfl,rfl,(by rw [JH,Zh (by rw [<-Zg,Xn om];rfl)];rfl)⟩) (eq:=(rc (rv (xs:=(L.vars.take mm)) ob (rv (xs:=(L.own.take mm)) ob (rv (xs:=(L.par.take mm)) ob (rv (xs:=(L.con.take mm)) ob (rv (xs:=(L.fst.take mm)) ob (rv (xs:=(L.tok.take mm)) ob rz)))))))))))))))))))))))))))))))))))))))))))))))
theorem Zck (b:Nat) (ga:Hd) (gb:Hd) (gc:Hd) (gd:Hd) (ge:Hd) (gf:Hd) (n:ZG) (s:Z5) (L:ZL) (ln:LI) (q:Int) (x:Int) (hn:Xw n:=by exact ob) (hk:XJ n.decls L q:=by exact ob) (hlb:L.vars.length<=1000000000:=by exact ob) (ha:s.args[0]? = some x:=by exact ob) (hx:0<=x/\x<L.vars.length:=by exact ob) (hq:0<=q/\q<=999999990:=by exact ob):Zm 166 [.p b 0,YF n,X4 s] [.obj b [.h ga,.h gb,.h gc,.h gd,.h ge,.h gf,Z4 ln],rV ga L.vars,rV gb L.own,rV gc L.par,rV gd L.con,rV ge L.fst,rV gf L.tok] (fun r h=>(∃(wa:Hd) (wb:Hd) (wc:Hd) (wd:Hd) (we:Hd) (wf:Hd) (L':ZL),r=.b true/\h=[.obj b [.h wa,.h wb,.h wc,.h wd,.h we,.h wf,Z4 ln],rV wa L'.vars,rV wb L'.own,rV wc L'.par,rV wd L'.con,rV we L'.fst,rV wf L'.tok]/\AH n.decls L s.op x=some L')∨(r=.b false/\h=[]/\AH n.decls L s.op x=none)):=by
 obtain ⟨e1,e2,e3,e4,e5⟩:=hk.len
 have Xq:=hn.decls
 have hal:=(X9.1 ha).1
 obtain ⟨xcon,hxcon⟩:=Zt L.con ((x).toNat) om
 have hgcon:=Tl hxcon
 obtain ⟨xtok,hxtok⟩:=Zt L.tok ((x).toNat) om
 have hgtok:=Tl hxtok
 obtain ⟨xfst,hxfst⟩:=Zt L.fst ((x).toNat) om
 have hgfst:=Tl hxfst
 have hfl:=Vq Xq xcon
 have har:=hk.arm x om om
 rw [hgcon,hgfst] at har
 refine ZE 105 Tryz.func166 (ar (iA (X8 n) fun b1=>iA (Wd s) fun b2=>Z1 (Zl 2 [0] (Zo (Zk none 0 1 (Y8 ha)) (Z1 (Ym 5 [2] (Zo (Uj 6 gd L.con x x.toNat (hq:=rfl)) (VC (Qz 6 gd L.con x.toNat xcon hxcon) (Xc 23 [0,4,5,7] [(36,.b ((decide (xcon<0))||((s.op==17)&&(decide (xtok>=0)))))] (fun gz=>gz) ?_ (fun hj1=>?_))))))))))
 ·refine Z0 1 (ib (b:=((decide (xcon<0))||((s.op==17)&&(decide (xtok>=0))))) 37 (fun Ze=>?_) (fun Ze=>?_))
  ·have Y9:(xcon<0)∨((s.op=17)/\(xtok>=0)):=((Y1 dq (YI Zi dq))).1 Ze
   exact Z1 (Vo (ar (Zp (r1 [] (.inr ⟨rfl,rfl,(by rw [AH,hgcon,hgtok,Zh om])⟩)))))
  have Yt:¬((xcon<0)∨((s.op=17)/\(xtok>=0))):=Yb (Y1 dq (YI Zi dq)) Ze
  refine Z0 2 (ic [2,2,2,2,2,2,2] (Hy b ga gb gc gd ge gf L ln x (hlk:=hk.len) (hq:=(fun y hy=>⟨hk.nn y hy,by have:=hk.bd y hy;omega⟩))) ?_)
  rintro _ _ (⟨wa1,wb1,wc1,wd1,we1,wf1,L'1,rfl,rfl,YS⟩|⟨rfl,rfl,X2⟩)
  ·obtain ⟨t1,t2,t3,t4,t5,t6,t7⟩:=A4 YS
   have hk1:=hk.take YS
   obtain ⟨f1,f2,f3,f4,f5⟩:=hk1.len
   have hxcon1:L'1.con[x.toNat]? = some xcon:=by rw [t4];exact hxcon
   have hvl:L'1.vars.length=L.vars.length:=by rw [t2]
   have har2:=har om
   have hxfst1:L'1.fst[x.toNat]? = some xfst:=by rw [t5];exact hxfst
   refine Z1 (V9 (ak (aD 11 (ZX 4 11 [0,1,2,3,4,5,6] [8,0] (dx 7 (Uj 4 wd1 L'1.con x x.toNat (hq:=rfl)) (UC 8 (Qz 4 wd1 L'1.con x.toNat xcon hxcon1) (Z7 9 (YK 9 [] [] [] (Qy n.decls xcon) (Zs 0 1 [10] (de (Y6 (ab 0 (Y2 (fun fz gz m F h=>∃(k:Nat) (o:LI),(k<=(ZO n.decls xcon).length)/\(o.length=L.vars.length)/\(∀y∈o,0<=y/\y<=q+k)/\(QD o (xfst+k) ((ZO n.decls xcon).drop k)=QD L'1.own xfst (ZO n.decls xcon))/\F=sF [0,5,7,8] fz [(9,.i k)]/\h=[Zf gz 0,Zf gz 1,rV wb1 o,Zf gz 3,Zf gz 4,Zf gz 5,Zf gz 6,Zf gz 7]/\m=(ZO n.decls xcon).length-k) _ _ _ ⟨0,L'1.own,ob,om,(by intro y hy;have h1:=hk1.nn y hy;have h2:=hk1.bd y hy;omega),(by rw [show xfst+((0:Nat):Int)=xfst by omega,Kx]),rfl,rfl,rfl⟩ (Zw 8 (Yc fl)) ?_)))))))))))))
   rintro m F h ⟨k,o,Yj,Zg,Zz,YN,rfl,rfl,rfl⟩
   refine YQ 2 (io (.i (((ZO n.decls xcon).length:Nat):Int)) (.i (((Z6 (ZO n.decls xcon)).length:Nat):Int)) (li (by rw [Ye])) (Y3 ((k:Int)<(((ZO n.decls xcon).length:Nat):Int)) (fun Za=>?_) (fun Za=>?_)))
   ·refine ak (aq (ab 1 (Yf 2 ?_)))
    obtain ⟨x1,Z3⟩:=Zt (ZO n.decls xcon) k om
    refine Zo (Zk none (k:Int) 1 (Y8 Z3)) (YC (x1 != 0) YB (fun Zj=>?_) (fun Zj=>?_))
    ·refine aE 31 (ZX 22 31 [0,1,2,3,4,5,6,7,8] [0,0] (dx 9 (Uj 5 we1 L'1.fst x x.toNat (hq:=rfl)) (UC 10 (Qz 5 we1 L'1.fst x.toNat xfst hxfst1) (Zs 19 20 [11] (da 12 ((xfst+(k:Int))) ((xfst)+((k:Int))) (ZX 9 18 [13,14,15,16,17,18,19,20,21] [0,0] (dx 22 (Uj 5 we1 L'1.fst x x.toNat (hq:=rfl)) (UC 23 (Qz 5 we1 L'1.fst x.toNat xfst hxfst1) (Zs 6 7 [24] (da 25 ((xfst+(k:Int))) ((xfst)+((k:Int))) (dx 26 (Uj 2 wb1 o (xfst+(k:Int)) ((xfst+(k:Int)).toNat) (hq:=rfl)) ?_)))))))))))
     obtain ⟨x2,Zy⟩:=Zt o ((xfst+(k:Int)).toNat) om
     have hy2:=Zz _ (Y4 Zy)
     exact UC 27 (Qz 2 wb1 o ((xfst+(k:Int)).toNat) x2 Zy) (da 28 ((x2+1)) ((x2)+(1)) (dx 29 (Uj 2 wb1 o (xfst+(k:Int)) ((xfst+(k:Int)).toNat) (hq:=rfl)) (Z7 30 (CG 30 2 [] [] wb1 o ((xfst+(k:Int)).toNat) (x2+1) (de (az (Z0 1 (ZD k (Z1 (ZI ⟨k+1,(o.set (xfst+(k:Nat)).toNat (x2+1)),ob,ob,(by intro y hy;first|(rcases JY hy with hy|rfl<;>first|(have:=Zz y hy;omega)|omega)|(have:=Zz y hy;omega)),(by rw [Yi Z3,QD] at YN;first|(rw [Zh Zj,Tl Zy] at YN;rw [show xfst+((k+1:Nat):Int)=xfst+k+1 by omega];exact YN)|(rw [Zb Zj] at YN;rw [show xfst+((k+1:Nat):Int)=xfst+k+1 by omega];exact YN)),rfl,rfl,rfl⟩ (wk [1,1,0,0,0,0,0,0] (ZK k fl) (e:=(rc (rc (rv (xs:=(o.set ((xfst+(k:Int)).toNat) (x2+1))) ob (rc (rc (rc (rc (rc rz))))))))))))))))))))
    exact ak (az (Z0 1 (ZD k (Z1 (ZI ⟨k+1,o,ob,ob,(by intro y hy;first|(rcases JY hy with hy|rfl<;>first|(have:=Zz y hy;omega)|omega)|(have:=Zz y hy;omega)),(by rw [Yi Z3,QD] at YN;first|(rw [Zh Zj,Tl Zy] at YN;rw [show xfst+((k+1:Nat):Int)=xfst+k+1 by omega];exact YN)|(rw [Zb Zj] at YN;rw [show xfst+((k+1:Nat):Int)=xfst+k+1 by omega];exact YN)),rfl,rfl,rfl⟩ (Zw 8 (ZK k fl)))))))
   refine ax 0 (Xj (V2 [7] (ac (s.op==17) Zi (fun ZF=>?_) (fun ZF=>?_))))
   ·refine az (ZB 6 [0] (io (.i (((ZO n.decls xcon).length:Nat):Int)) (.i (((Z6 (ZO n.decls xcon)).length:Nat):Int)) (li (by rw [Ye])) (Zo (Uj 6 wf1 L'1.tok x x.toNat (hq:=rfl)) (M8 6 wf1 L'1.tok x.toNat (((ZO n.decls xcon).length:Nat):Int) (ie (Y0 ?_))))))
    have hof:o=QD L'1.own xfst (ZO n.decls xcon):=by rw [<-YN,Xn om];rfl
    exact ZT (r1 [1,1,1,1,1,1,0] (.inl ⟨wa1,wb1,wc1,wd1,we1,wf1,(ZL.mk L'1.vars o L'1.par L'1.con L'1.fst (L'1.tok.set x.toNat (((ZO n.decls xcon).length:Nat):Int))),rfl,rfl,(by rw [AH,hgcon,hgfst,hgtok,Zb om,YS,hof,t6];simp [ZF,t2,t3,t4,t5])⟩) (eq:=(rc (rv (xs:=L'1.vars) ob (rv (xs:=o) ob (rv (xs:=L'1.par) ob (rv (xs:=L'1.con) ob (rv (xs:=L'1.fst) ob (rv (xs:=(L'1.tok.set x.toNat (((ZO n.decls xcon).length:Nat):Int))) ob rz)))))))))
   refine ak (Y0 ?_)
   have hof:o=QD L'1.own xfst (ZO n.decls xcon):=by rw [<-YN,Xn om];rfl
   exact ZT (r1 [0,0,0,0,0,0,0] (.inl ⟨wa1,wb1,wc1,wd1,we1,wf1,(ZL.mk L'1.vars o L'1.par L'1.con L'1.fst L'1.tok),rfl,rfl,(by rw [AH,hgcon,hgfst,hgtok,Zb om,YS,hof,t6];simp [ZF,t2,t3,t4,t5])⟩) (eq:=(rc (rv (xs:=L'1.vars) ob (rv (xs:=o) ob (rv (xs:=L'1.par) ob (rv (xs:=L'1.con) ob (rv (xs:=L'1.fst) ob (rv (xs:=L'1.tok) ob rz)))))))))
  exact Z1 (Vo (ar (Zp (r1 [] (.inr ⟨rfl,rfl,(by rw [AH,hgcon,hgtok,Zb om,X2])⟩)))))
 refine Z0 2 (ib (b:=(decide (xcon<0))) 22 (fun ZH=>?_) (fun ZH=>?_))
 ·have Xk:xcon<0:=(dq).1 ZH
  exact Z0 14 (Ya (Zw 9 (Zq true ZH fl)) hj1)
 have XU:¬(xcon<0):=Yb dq ZH
 refine ZB 4 [0] (ib (b:=(s.op==17)) 26 (fun Yn=>?_) (fun Yn=>?_))
 ·have Wo:s.op=17:=(Zi).1 Yn
  exact ZB 5 [2] (Zo (Uj 8 gf L.tok x x.toNat (hq:=rfl)) (VC (Qz 8 gf L.tok x.toNat xtok hxtok) (Z0 3 (Ya (Zw 9 (Zq (decide (xtok>=0)) (And.intro ZH Yn) fl)) hj1))))
 have Vd:¬(s.op=17):=Yb Zi Yn
 exact Z0 10 (Ya (Zw 9 (Zq false (And.intro ZH Yn) fl)) hj1)
theorem Zcj (b:Nat) (ga:Hd) (gb:Hd) (gc:Hd) (gd:Hd) (ge:Hd) (gf:Hd) (n:ZG) (s:Z5) (L:ZL) (ln:LI) (q:Int) (hn:Xw n:=by exact ob) (hnum:s.op=9->0<=s.num/\s.num<n.routines.length:=by exact ob) (hk:XJ n.decls L q:=by exact ob) (hlb:L.vars.length<=1000000000:=by exact ob) (hargs:∀a∈s.args,0<=a/\a<L.vars.length) (hinto:0<s.into->s.into<=L.vars.length:=by exact ob) (hal:s.args.length<=1000000000:=by exact ob) (hln:ln.length<=4294967296:=by exact ob) (hq:0<=q/\q<=999999990:=by exact ob):Zm 168 [.p b 0,YF n,X4 s] [.obj b [.h ga,.h gb,.h gc,.h gd,.h ge,.h gf,Z4 ln],rV ga L.vars,rV gb L.own,rV gc L.par,rV gd L.con,rV ge L.fst,rV gf L.tok] (fun r h=>(∃(wa:Hd) (wb:Hd) (wc:Hd) (wd:Hd) (we:Hd) (wf:Hd) (L':ZL),r=.b true/\h=[.obj b [.h wa,.h wb,.h wc,.h wd,.h we,.h wf,Z4 ln],rV wa L'.vars,rV wb L'.own,rV wc L'.par,rV wd L'.con,rV we L'.fst,rV wf L'.tok]/\JK n ln L s.op s.num s.into s.args=some L')∨(r=.b false/\h=[]/\JK n ln L s.op s.num s.into s.args=none)):=by
 obtain ⟨e1,e2,e3,e4,e5⟩:=hk.len
 refine ZE 79 Tryz.func168 (ar (iA (X8 n) fun b1=>iA (Wd s) fun b2=>?_))
 refine Z1 (Y6 (ab 0 (Y2 (fun fz gz m F h=>∃(k:Nat) (L2:ZL) (ka:Hd) (kb:Hd) (kc:Hd) (kd:Hd) (ke:Hd) (kf:Hd),(k<=s.args.length)/\(XJ n.decls L2 q)/\(L2.vars=L.vars)/\(KI n s.op s.num (s.args.drop k) k L2=KI n s.op s.num s.args 0 L)/\F=sF [0,4,5] fz [(7,.i k)]/\h=[Zf gz 0,Zf gz 1,.obj b [.h ka,.h kb,.h kc,.h kd,.h ke,.h kf,Z4 ln],rV ka L2.vars,rV kb L2.own,rV kc L2.par,rV kd L2.con,rV ke L2.fst,rV kf L2.tok]/\m=s.args.length-k) _ _ _ ⟨0,L,ga,gb,gc,gd,ge,gf,ob,hk,ob,ob,rfl,rfl,rfl⟩ (Zw 9 (Yc fl)) ?_)))
 rintro m F h ⟨k,L2,ka,kb,kc,kd,ke,kf,Yj,Zg,Zz,YN,rfl,rfl,rfl⟩
 refine Ym 3 [0] (iw (Ye s.args) (Y3 ((k:Int)<(s.args.length:Int)) (fun Za=>?_) (fun Za=>?_)))
 ·obtain ⟨a1,ha1⟩:=Zt s.args k om
  obtain ⟨e6,e7,e8,e9,e10⟩:=Zg.len
  have hav:=hargs a1 (Y4 ha1)
  have hvl:L2.vars.length=L.vars.length:=by rw [Zz]
  refine ak (aq (ab 1 (aD 18 (ZX 11 18 [0,1,2,3,4,5,6] [1,2,0] (Z7 7 (Aq 7 [3] [] [] [rV ka L2.vars] (Ie n L2.vars s k a1 (ha:=ha1)) Gx (gS (gL (v:=ka) 0 (gS (gS gN)))) (Jm AF) ?_))))))
  rintro _ _ ⟨rfl,rfl⟩
  refine Zs 9 10 [8] (db (b:=JG n L2.vars s.op s.num a1 k) 24 (fun Ze=>?_) (fun Ze=>?_))
  ·have Y9:JG n L2.vars s.op s.num a1 k=true:=(Iff.rfl).1 Ze
   refine ZX 5 9 [9,10,11,12] [1] (dx 13 (Zk none (k:Int) 1 (Y8 ha1)) (Zs 3 4 [14] (Z7 15 (dc 15 [3,0,2,2,2,2,2] [] [] (Hy b ka kb kc kd ke kf L2 ln a1 (hlk:=Zg.len) (hq:=(fun y hy=>⟨Zg.nn y hy,by have:=Zg.bd y hy;omega⟩))) ?_))))
   rintro _ _ (⟨wa1,wb1,wc1,wd1,we1,wf1,L'1,rfl,rfl,Yt⟩|⟨rfl,rfl,YS⟩)
   ·obtain ⟨t1,t2,t3,t4,t5,t6,t7⟩:=A4 Yt
    have hk2:=Zg.take Yt
    exact Zs 0 2 [16,17] (de (V9 (ak (az (Z0 1 (ZD k (Z1 (ZI ⟨k+1,L'1,wa1,wb1,wc1,wd1,we1,wf1,ob,hk2,(t2.trans Zz),(by rw [Yi ha1,KI,Zh Y9] at YN;simp only [Yt] at YN;exact YN),rfl,rfl,rfl⟩ (wk [7,7,0,0,0,0,0,0,0] (ZK k fl))))))))))
   exact Zs 0 2 [16,17] (de (Vo (ar (Zp (r1 [] (.inr ⟨rfl,rfl,(by rw [JK,<-YN,Yi ha1,KI,Zh Y9,YS])⟩))))))
  have X2:¬(JG n L2.vars s.op s.num a1 k=true):=Yb Iff.rfl Ze
  exact Zs 0 9 [9,10,11,12,13,14,15,16,17] (de (V9 (ak (az (Z0 1 (ZD k (Z1 (ZI ⟨k+1,L2,ka,kb,kc,kd,ke,kf,ob,Zg,Zz,(by rw [Yi ha1,KI,Zb X2] at YN;exact YN),rfl,rfl,rfl⟩ (wk [1,1,1,0,0,0,0,0,0] (ZK k fl))))))))))
 have hT:KI n s.op s.num s.args 0 L=some L2:=by rw [<-YN,Xn om];rfl
 obtain ⟨e6,e7,e8,e9,e10⟩:=Zg.len
 have hvl:L2.vars.length=L.vars.length:=by rw [Zz]
 refine ax 0 (Y6 (ab 2 (Y2 (fun fz gz m F h=>∃(j:Nat),(j<=s.args.length)/\(BV n s.op s.num ln L2 (s.args.drop j) j=BV n s.op s.num ln L2 s.args 0)/\F=sF [0,4,5] fz [(8,.i j)]/\h=gz/\m=s.args.length-j) _ _ _ ⟨0,ob,ob,rfl,rfl,rfl⟩ (Zw 9 (Yc fl)) ?_)))
 rintro m F h ⟨j,Vp,Xp,rfl,rfl,rfl⟩
 refine Ym 3 [0] (iw (Ye s.args) (Y3 ((j:Int)<(s.args.length:Int)) (fun Zj=>?_) (fun Zj=>?_)))
 ·obtain ⟨a2,ha2⟩:=Zt s.args j om
  have hav:=hargs a2 (Y4 ha2)
  refine ak (aq (ab 3 (Zl 3 [1,0] (Zu [] (FT n s j) (Xx [0,4,5,8] [(54,.b (T2 n s.op s.num j&&(!Ta L2 ln a2)))] (fun gz=>[Zf gz 2,Zf gz 3,Zf gz 4,Zf gz 5,Zf gz 6,Zf gz 7,Zf gz 8,Zf gz 0,Zf gz 1]) ?_ ?_)))))
  ·refine Z0 1 (ib (b:=T2 n s.op s.num j) 45 (fun ZH=>?_) (fun ZH=>?_))
   ·exact ZB 4 [0] (Zo (Zk none (j:Int) 1 (Y8 ha2)) (Z0 1 (Zu [2,2,2,2,2,2,2] (Hx b ka kb kc kd ke kf L2 ln a2 (hlk:=Zg.len) (hd:=Zg.down)) (Z1 (Zw 9 (Zq (!Ta L2 ln a2) ZH fl))))))
   exact Z1 (wk [2,2,2,2,2,2,2,0,0] (Zq false ZH fl))
  refine ac (T2 n s.op s.num j&&(!Ta L2 ln a2)) (p:=(T2 n s.op s.num j=true)/\(¬(Ta L2 ln a2=true))) (YI Iff.rfl (Ys Iff.rfl)) (fun ZF=>?_) (fun ZF=>?_)
  ·refine Y0 ?_
   have hA:BV n s.op s.num ln L2 s.args 0=false:=by rw [<-Xp,Yi ha2,BV,Zh ZF]
   exact ZT (r1 [] (.inr ⟨rfl,rfl,(by rw [JK,hT];simp only [hA];rfl)⟩))
  exact ak (az (Z0 1 (ZD j (Z1 (ZI ⟨j+1,ob,(by rw [Yi ha2,BV,Zb ZF] at Xp;exact Xp),rfl,rfl,rfl⟩ (wk [7,7,0,0,0,0,0,0,0] (ZK j fl)))))))
 have hA:BV n s.op s.num ln L2 s.args 0=true:=by rw [<-Xp,Xn om];rfl
 refine ax 2 (Xj (V2 [0] (WE (s.into>0) (fun Yh=>?_) (fun Yh=>?_))))
 ·obtain ⟨xt,hxt⟩:=Zt L2.tok ((s.into-1).toNat) (by have:=hinto Yh;omega)
  have hgt:=Tl hxt
  refine aq (aD 13 (ZX 7 13 [0,1,2,3,4,5] [2,0] (da 6 ((s.into-1)) ((s.into)-(1)) (dx 7 (Uj 8 kf L2.tok (s.into-1) ((s.into-1).toNat) (hq:=rfl)) (UC 8 (Qz 8 kf L2.tok ((s.into-1).toNat) xt hxt) (ZX 2 4 [9,10] [0] (dw 11 (Ye s.args) (Zs 0 1 [12] (de (ac (xt != (s.args.length:Int)) YB (fun YM=>?_) (fun YM=>?_)))))))))))
  ·exact ar (Zp (r1 [] (.inr ⟨rfl,rfl,(by rw [JK,hT];simp only [hA,↓reduceIte];rw [EY,Zh Yh,hgt,Zh YM])⟩)))
  exact ak (aE 9 (ZX 3 9 [0,1,2,3,4,5] [2,0] (da 6 ((s.into-1)) ((s.into)-(1)) (dx 7 (Uj 8 kf L2.tok (s.into-1) ((s.into-1).toNat) (hq:=rfl)) (Z7 8 (CG 8 8 [] [] kf L2.tok ((s.into-1).toNat) (-1) (de (ar (Zp (r1 [3,3,3,3,3,3,0] (.inl ⟨ka,kb,kc,kd,ke,kf,(ZL.mk L2.vars L2.own L2.par L2.con L2.fst (L2.tok.set ((s.into-1).toNat) (-1))),rfl,rfl,(by rw [JK,hT];simp only [hA,↓reduceIte];rw [EY,Zh Yh,hgt,Zb YM])⟩) (eq:=(rc (rv (xs:=L2.vars) ob (rv (xs:=L2.own) ob (rv (xs:=L2.par) ob (rv (xs:=L2.con) ob (rv (xs:=L2.fst) ob (rv (xs:=(L2.tok.set ((s.into-1).toNat) (-1))) ob rz))))))))))))))))))
 exact ak (ar (Zp (r1 [2,2,2,2,2,2,2] (.inl ⟨ka,kb,kc,kd,ke,kf,L2,rfl,rfl,(by rw [JK,hT];simp only [hA,↓reduceIte];rw [EY,Zb Yh])⟩))))
theorem Z8u (b:Z8) (t:Int) (hz:b.sz<=1000000) (ih:∀(b2:Z8) (t:Int),(b2.sz<=1000000)->(b2.sz<b.sz)->Zm 219 [Yl b2,.i t] [] (fun r h=>∃(wr:Bool),r=.b wr/\h=[])):Zm 219 [Yl b,.i t] [] (fun r h=>∃(wr:Bool),r=.b wr/\h=[]):=by
 have ZM:=UG b
 have hbl:=Jt b.steps
 have hbe:=b.sz_eq
 refine ZE 53 Tryz.func219 (ar (iA (XY b) fun b1=>?_))
 refine Z1 (Y6 (ab 0 (Y2 (fun fz gz m F h=>∃(k:Nat),(k<=b.steps.length)/\F=sF [1,2] fz [(5,.i k)]/\h=gz/\m=b.steps.length-k) _ _ _ ⟨0,ob,rfl,rfl,rfl⟩ (wk [0] (Yc fl)) ?_)))
 rintro m F h ⟨k,Yj,rfl,rfl,rfl⟩
 refine Ym 3 [0] (iw (UI b.steps) (Y3 ((k:Int)<(b.steps.length:Int)) (fun Za=>?_) (fun Za=>?_)))
 ·refine ak (aq (ab 1 (Ym 3 [0] ?_)))
  obtain ⟨x1,Z3⟩:=Zt b.steps k om
  have hxs:=N8 (Y4 Z3)
  have hxe:=(x1).sz_eq
  have hxk:=Kg x1
  refine Zo (Zk none (k:Int) 5 (Va Z3)) (Xx [1,2,5] [(30,.b ((x1.op==10)&&(x1.num==t)))] (fun gz=>gz) ?_ ?_)
  ·refine Z0 4 (ib (b:=(x1.op==10)) 21 (fun Ze=>?_) (fun Ze=>?_))
   ·exact ZB 3 [0] (Zo (Zk none (k:Int) 5 (Va Z3)) (Z1 (wk [0] (Zq (x1.num==t) Ze fl))))
   exact Z1 (wk [0] (Zq false Ze fl))
  refine ac ((x1.op==10)&&(x1.num==t)) (p:=(x1.op=10)/\(x1.num=t)) (YI Zi Zi) (fun Zj=>?_) (fun Zj=>?_)
  ·exact ar (Zp (r1 [] ⟨true,rfl,rfl⟩))
  refine ak (Y0 (ab 2 (Y2 (fun fz gz m F h=>∃(j:Nat),(j<=x1.kids.length)/\F=sF [1,2,5] fz [(6,.i j)]/\h=gz/\m=x1.kids.length-j) _ _ _ ⟨0,ob,rfl,rfl,rfl⟩ (wk [0] (Yc fl)) ?_)))
  rintro m F h ⟨j,Vp,rfl,rfl,rfl⟩
  refine Ym 4 [0] (Zo (Zk none (k:Int) 5 (Va Z3)) (Z0 2 (iw (KE x1.kids) (Y3 ((j:Int)<(x1.kids.length:Int)) (fun ZF=>?_) (fun ZF=>?_)))))
  ·refine ak (aq (ab 3 (Zl 3 [0] (Zo (Zk none (k:Int) 5 (Va Z3)) (Z0 3 ?_)))))
   obtain ⟨x2,Zy⟩:=Zt x1.kids j om
   have hkx:=IU (Y4 Zy)
   refine Zo (Zk none (j:Int) 2 (T0 Zy)) (Z0 2 (ic [] (ih x2 t ob ob) ?_))
   rintro _ _ ⟨wr1,rfl,rfl⟩
   refine ie (ac wr1 Iff.rfl (fun Yh=>?_) (fun Yh=>?_))
   ·exact ar (Zp (r1 [] ⟨true,rfl,rfl⟩))
   exact ak (az (Z0 1 (ZD j (Z1 (ZI ⟨j+1,ob,rfl,rfl,rfl⟩ (wk [0] (ZK j fl)))))))
  exact ax 2 (az (Z0 1 (ZD k (Z1 (ZI ⟨k+1,ob,rfl,rfl,rfl⟩ (wk [0] (ZK k fl)))))))
 exact ax 0 (ar (Zp (r1 [] ⟨false,rfl,rfl⟩)))
theorem Z8t (b:Z8) (t:Int) (hz:b.sz<=1000000:=by exact ob):Zm 219 [Yl b,.i t] [] (fun r h=>∃(wr:Bool),r=.b wr/\h=[]):=by
 have key:∀k:Nat,∀(b2:Z8) (t:Int),(b2.sz<=1000000)->(b2.sz<k)->Zm 219 [Yl b2,.i t] [] (fun r h=>∃(wr:Bool),r=.b wr/\h=[]):=by
  intro k
  induction k with
  | zero=>intro b2 t h1 h2;omega
  | succ k ih=>intro b2 t h1 h2;exact Z8u b2 t h1 fun b3 t3 q1 q2=>ih b3 t3 q1 om
 exact key (b.sz+1) b t hz om
theorem Z9e (n:ZG) (t:Int) (qz:Nat) (hn:FN n qz:=by exact ob) (hqz:qz<=100000:=by exact ob):Zm 187 [YF n,.i t] [] (fun r h=>∃(wr:Bool),r=.b wr/\h=[]):=by
 have hnl:=hn.len
 refine ZE 21 Tryz.func187 (ar (iA (X8 n) fun b1=>?_))
 refine Z1 (Y6 (ab 0 (Y2 (fun fz gz m F h=>∃(k:Nat),(k<=n.routines.length)/\F=sF [1,2] fz [(5,.i k)]/\h=gz/\m=n.routines.length-k) _ _ _ ⟨0,ob,rfl,rfl,rfl⟩ (wk [0] (Yc fl)) ?_)))
 rintro m F h ⟨k,Yj,rfl,rfl,rfl⟩
 refine Ym 3 [0] (iw (Q3 n.routines) (Y3 ((k:Int)<(n.routines.length:Int)) (fun Za=>?_) (fun Za=>?_)))
 ·refine ak (aq (ab 1 (Zl 3 [0] ?_)))
  obtain ⟨x1,Z3⟩:=Zt n.routines k om
  have hbz:=(hn.body _ (Y4 Z3)).2
  refine Zo (Zk none (k:Int) 5 (VR Z3)) (Z0 3 (ic [] (Z8t x1.body t) ?_))
  rintro _ _ ⟨wr1,rfl,rfl⟩
  refine ie (ac wr1 Iff.rfl (fun Zj=>?_) (fun Zj=>?_))
  ·exact ar (Zp (r1 [] ⟨true,rfl,rfl⟩))
  exact ak (az (Z0 1 (ZD k (Z1 (ZI ⟨k+1,ob,rfl,rfl,rfl⟩ (wk [0] (ZK k fl)))))))
 exact ax 0 (ar (Zp (r1 [] ⟨false,rfl,rfl⟩)))
theorem PH (fs:LI) (q:Nat) (hl:fs.length<=1000000:=by exact ob) (hq:q<=1000000:=by exact ob):Zm 108 [Z4 fs,.i q] [] (fun r h=>∃(xs:LI),r=Z4 xs/\h=[]/\xs.length<=fs.length/\∀i∈xs,(q:Int)<=i/\i<(q:Int)+fs.length):=by
 refine ZE 26 Tryz.func108 (Y0 (ar (iL (Z6 []) 0 1 fun v1=>?_)))
 refine Z1 (Y6 (ab 0 (Y2 (fun fz gz m F h=>∃(k:Nat) (ys:LI) (u:Value),(k<=fs.length)/\(ys.length<=k)/\(∀i∈ys,(q:Int)<=i/\i<(q:Int)+fs.length)/\F=sF [0,1] fz [(5,ZC ys u),(6,.i k)]/\h=[.tail u 1]/\m=fs.length-k) _ _ _ ⟨0,[],v1,ob,ob,(fun i hi=>by cases hi),rfl,rfl,rfl⟩ (wk [0] (fr (Yc fl))) ?_)))
 rintro m F h ⟨k,ys,u,Yj,Zg,Zz,rfl,rfl,rfl⟩
 refine YQ 2 (iw (Ye fs) (Y3 ((k:Int)<(fs.length:Int)) (fun Za=>?_) (fun Za=>?_)))
 ·refine ak (aq (ab 1 (Yf 2 ?_)))
  obtain ⟨x1,Z3⟩:=Zt fs k om
  refine Zo (Zk none (k:Int) 1 (Y8 Z3)) (YC (x1 != 0) YB (fun Zj=>?_) (fun Zj=>?_))
  ·exact az (Z0 3 (ia (((q+k:Nat):Int)) (((q:Int))+((k:Int))) (iL (Z6 [((q+k:Nat):Int)]) 1 1 fun v2=>ZQ 0 [(23,Z4 [((q+k:Nat):Int)])] (ip 1 (Z6 (ys++[((q+k:Nat):Int)])) (Z6 ys) (Z6 [((q+k:Nat):Int)]) u none 1 (YD _) (YD _) (W1 _) (by simp<;>omega) (by simp [W5,Z6]) fun v3=>Z1 (az (Z0 1 (ZD k (Z1 (ZI ⟨k+1,(ys++[((q+k:Nat):Int)]),v3,ob,ob,(XF Zz om),rfl,rfl,rfl⟩ (wk [0] (fr (ZK k fl))))))))))))
  exact ak (az (Z0 1 (ZD k (Z1 (ZI ⟨k+1,ys,u,ob,ob,ob,rfl,rfl,rfl⟩ (wk [0] (fr (ZK k fl))))))))
 exact ax 0 (ar (Zp (r2 [] [ZC ys u] ⟨ys,rfl,rfl,⟨by omega,Zz⟩⟩ (Zd.forget _ _))))
theorem Pz (n:ZG) (qz:Nat) (hn:FN n qz:=by exact ob) (hqz:qz<=100000:=by exact ob):Zm 153 [YF n] [] (fun r h=>∃(xs:List LI),r=E6 xs/\h=[]/\LC n n.routines.length xs):=by
 have hnl:=hn.len
 refine ZE 31 Tryz.func153 (ar (iA (X8 n) fun b1=>Z1 (ar (iL (Vr []) 0 1 fun v1=>?_))))
 refine Z1 (Y6 (ab 0 (Y2 (fun fz gz m F h=>∃(k:Nat) (ys:List LI) (u:Value),(k<=n.routines.length)/\(ys.length=k)/\(LC n k ys)/\F=sF [1] fz [(3,MA ys u),(4,.i k)]/\h=[Zf gz 1,.tail u 1]/\m=n.routines.length-k) _ _ _ ⟨0,[],v1,ob,ob,LC.nil,rfl,rfl,rfl⟩ (wk [1,0] (fr (Yc fl))) ?_)))
 rintro m F h ⟨k,ys,u,Yj,Zg,Zz,rfl,rfl,rfl⟩
 refine Ym 3 [0] (iw (Q3 n.routines) (Y3 ((k:Int)<(n.routines.length:Int)) (fun Za=>?_) (fun Za=>?_)))
 ·refine ak (aq (ab 1 (Zl 2 [0] (ic [] (Z9e n (k:Int) qz) ?_))))
  rintro _ _ ⟨wr1,rfl,rfl⟩
  refine ie (ac wr1 Iff.rfl (fun Zj=>?_) (fun Zj=>?_))
  ·exact az (Z0 1 (iL (Z6 []) 0 1 fun v2=>ZQ 0 [(17,Z4 [])] (iL (Vr [[]]) 1 1 fun v3=>ZQ 0 [(18,E6 [[]])] (ip 3 (Vr (ys++[[]])) (Vr ys) (Vr [[]]) u none 1 (DH _) (DH _) (Lq _) (by simp<;>omega) (by simp [Lp,Vr]) fun v4=>Z1 (az (Z0 1 (ZD k (Z1 (ZI ⟨k+1,(ys++[[]]),v4,ob,ob,(Zz.snoc (by simp) (fun r hr v hv=>by cases hv)),rfl,rfl,rfl⟩ (wk [3,0] (fr (ZK k fl))))))))))))
  refine az (ZB 4 [0] ?_)
  obtain ⟨x1,Z3⟩:=Zt n.routines k om
  have hrp:=(FN.ok hn).params_at Z3
  have hss:=(Tw.bd (f:=⟨(x1).params,(x1).result,default⟩) (hn.sigs _ (Y4 Z3))).1
  refine Zo (Zk none (k:Int) 5 (VR Z3)) (Z0 2 (ic [] (PH x1.params 0) ?_))
  rintro _ _ ⟨xs1,rfl,rfl,Y9⟩
  have hhf:=Y9
  exact iL (Vr [xs1]) 1 1 fun v5=>ZQ 0 [(28,E6 [xs1])] (ip 2 (Vr (ys++[xs1])) (Vr ys) (Vr [xs1]) u none 1 (DH _) (DH _) (Lq _) (by simp<;>omega) (by simp [Lp,Vr]) fun v6=>Z1 (az (Z0 1 (ZD k (Z1 (ZI ⟨k+1,(ys++[xs1]),v6,ob,ob,(Zz.snoc om (fun r hr v hv=>by rw [Z3] at hr;cases hr;have:=hhf.2 v hv;omega)),rfl,rfl,rfl⟩ (wk [2,0] (fr (ZK k fl)))))))))
 exact ax 0 (ar (Zp (r2 [] [MA ys u] ⟨ys,rfl,rfl,(by rw [show n.routines.length=k by omega];exact Zz)⟩ (Zd.forget _ _))))
theorem Z8x (n:ZG) (b:Z8) (t:Int) (mq:Nat) (hn:Xw n) (hf:fB n.decls n.routines.length mq b) (hz:b.sz<=1000000) (ih:∀(b2:Z8) (t:Int) (m2:Nat),(fB n.decls n.routines.length m2 b2)->(b2.sz<=1000000)->(b2.sz<b.sz)->Zm 188 [YF n,Yl b2,.i t] [] (fun r h=>∃(wr:Bool),r=.b wr/\h=[])):Zm 188 [YF n,Yl b,.i t] [] (fun r h=>∃(wr:Bool),r=.b wr/\h=[]):=by
 have hbl:=Jt b.steps
 have hbe:=b.sz_eq
 refine ZE 68 Tryz.func188 (ar (iA (X8 n) fun b1=>iA (XY b) fun b2=>Z1 (Xj (V2 [0] (ac (b.result==t) Zi (fun Za=>?_) (fun Za=>?_))))))
 ·exact ar (Zp (r1 [] ⟨true,rfl,rfl⟩))
 refine ak (Y6 (ab 0 (Y2 (fun fz gz m F h=>∃(k:Nat),(k<=b.steps.length)/\F=sF [2,3,4] fz [(7,.i k)]/\h=gz/\m=b.steps.length-k) _ _ _ ⟨0,ob,rfl,rfl,rfl⟩ (wk [0,0] (Yc fl)) ?_)))
 rintro m F h ⟨k,Yj,rfl,rfl,rfl⟩
 refine Ym 3 [0] (iw (UI b.steps) (Y3 ((k:Int)<(b.steps.length:Int)) (fun Zj=>?_) (fun Zj=>?_)))
 ·refine ak (aq (ab 1 (Zl 3 [0] ?_)))
  obtain ⟨x1,Z3⟩:=Zt b.steps k om
  have hfs:=(Bc x1).1 (DN ((Jf b).1 hf).1 Z3)
  have hxs:=N8 (Y4 Z3)
  have hxe:=(x1).sz_eq
  have hxk:=Kg x1
  refine Zo (Zk none (k:Int) 5 (Va Z3)) (Z0 1 (iA [.i 0,.i 0,.i 0,nl,nl] fun b3=>?_))
  refine Zx 0 b3 (Wd x1) (ie (Y6 (ab 2 (Y2 (fun fz gz m F h=>∃(j:Nat),(j<=x1.args.length)/\F=sF [2,3,4,7,8] fz [(9,.i j)]/\h=gz/\m=x1.args.length-j) _ _ _ ⟨0,ob,rfl,rfl,rfl⟩ (Zw 3 (Yc fl)) ?_))))
  rintro m F h ⟨j,Vp,rfl,rfl,rfl⟩
  refine Ym 3 [0] (iw (Ye x1.args) (Y3 ((j:Int)<(x1.args.length:Int)) (fun ZF=>?_) (fun ZF=>?_)))
  ·refine ak (aq (ab 3 (Zl 3 [0] ?_)))
   obtain ⟨x2,Zy⟩:=Zt x1.args j om
   refine Zo (Zk none (j:Int) 1 (Y8 Zy)) (Xc 12 [2,3,4,7,8,9] [(45,.b ((x2==t)&&Ap x1.op))] (fun gz=>gz) ?_ (fun hj1=>?_))
   ·refine Xx [2,3,4,7,8,9] [(52,.b (((x2==t)&&Ap x1.op)&&(!T2 n x1.op x1.num j)))] (fun gz=>gz) ?_ ?_
    ·refine Z0 1 (ib (b:=((x2==t)&&Ap x1.op)) 46 (fun Ze=>?_) (fun Ze=>?_))
     ·exact ZB 3 [2,0] (Zu [] (FT n x1 j (hnum:=hfs.call)) (Z1 (Zw 3 (Zq (!T2 n x1.op x1.num j) Ze fl))))
     exact Z1 (Zw 3 (Zq false Ze fl))
    refine ac (((x2==t)&&Ap x1.op)&&(!T2 n x1.op x1.num j)) (p:=((x2=t)/\(Ap x1.op=true))/\(¬(T2 n x1.op x1.num j=true))) (YI (YI Zi Iff.rfl) (Ys Iff.rfl)) (fun Yh=>?_) (fun Yh=>?_)
    ·exact ar (Zp (r1 [] ⟨true,rfl,rfl⟩))
    exact ak (az (Z0 1 (ZD j (Z1 (ZI ⟨j+1,ob,rfl,rfl,rfl⟩ (Zw 3 (ZK j fl)))))))
   refine Z0 4 (ib (b:=(x2==t)) 41 (fun ZH=>?_) (fun ZH=>?_))
   ·exact ZB 2 [0] (Zu [] (Z1f x1.op) (Z0 1 (Ya (Zw 3 (Zq (Ap x1.op) ZH fl)) hj1)))
   exact Z0 4 (Ya (Zw 3 (Zq false ZH fl)) hj1)
  refine ax 2 (Y0 (ab 4 (Y2 (fun fz gz m F h=>∃(j:Nat),(j<=x1.kids.length)/\F=sF [2,3,4,7,8] fz [(10,.i j)]/\h=gz/\m=x1.kids.length-j) _ _ _ ⟨0,ob,rfl,rfl,rfl⟩ (Zw 3 (Yc fl)) ?_)))
  rintro m F h ⟨j,Gu,rfl,rfl,rfl⟩
  refine Ym 3 [0] (iw (KE x1.kids) (Y3 ((j:Int)<(x1.kids.length:Int)) (fun YM=>?_) (fun YM=>?_)))
  ·refine ak (aq (ab 5 (aD 8 (ZX 4 8 [0,1,2,3] [2,0] ?_))))
   obtain ⟨x3,YV⟩:=Zt x1.kids j om
   have hkx:=IU (Y4 YV)
   have hfk:=BR hfs.kids YV
   refine dx 4 (Zk none (j:Int) 2 (T0 YV)) (Zs 1 3 [5,6] (Z7 7 (dc 7 [] [] [] (ih x3 t (V3 n.decls x1.op x1.num (mq+Yr (b.steps.take k)) (0+j)) hfk ob ob) ?_)))
   rintro _ _ ⟨wr1,rfl,rfl⟩
   refine de (ac wr1 Iff.rfl (fun X1=>?_) (fun X1=>?_))
   ·exact ar (Zp (r1 [] ⟨true,rfl,rfl⟩))
   exact ak (az (Z0 1 (ZD j (Z1 (ZI ⟨j+1,ob,rfl,rfl,rfl⟩ (Zw 3 (ZK j fl)))))))
  exact ax 4 (az (Z0 1 (ZD k (Z1 (ZI ⟨k+1,ob,rfl,rfl,rfl⟩ (wk [1,1] (ZK k fl)))))))
 exact ax 0 (ar (Zp (r1 [] ⟨false,rfl,rfl⟩)))
theorem Z8w (n:ZG) (b:Z8) (t:Int) (mq:Nat) (hn:Xw n:=by exact ob) (hf:fB n.decls n.routines.length mq b:=by exact ob) (hz:b.sz<=1000000:=by exact ob):Zm 188 [YF n,Yl b,.i t] [] (fun r h=>∃(wr:Bool),r=.b wr/\h=[]):=by
 have key:∀k:Nat,∀(b2:Z8) (t:Int) (m2:Nat),(fB n.decls n.routines.length m2 b2)->(b2.sz<=1000000)->(b2.sz<k)->Zm 188 [YF n,Yl b2,.i t] [] (fun r h=>∃(wr:Bool),r=.b wr/\h=[]):=by
  intro k
  induction k with
  | zero=>intro b2 t m2 h1 h2 h3;omega
  | succ k ih=>intro b2 t m2 h1 h2 h3;exact Z8x n b2 t m2 hn h1 h2 fun b3 t3 m3 q1 q2 q3=>ih b3 t3 m3 q1 q2 om
 exact key (b.sz+1) b t mq hf hz om
theorem Z9f (n:ZG) (rt:YE) (i:Nat) (qz:Nat) (hn:FN n qz:=by exact ob) (hqz:qz<=100000:=by exact ob) (hr:n.routines[i]? = some rt:=by exact ob):Zm 154 [YF n,.i i] [] (fun r h=>∃(xs:LI),r=Z4 xs/\h=[]/\xs.length<=rt.lent.length/\∀v∈xs,v∈rt.lent):=by
 have hok:=FN.ok hn
 have hrl:=hn.lent rt (Y4 hr)
 have hrb:=hn.body rt (Y4 hr)
 obtain ⟨hil,_⟩:=X9.1 hr
 have hnl:=hn.len
 refine ZE 50 Tryz.func154 (ar (iA (X8 n) fun b1=>Z1 (ar (iL (Z6 []) 0 1 fun v1=>?_))))
 refine Z1 (Y6 (ab 0 (Y2 (fun fz gz m F h=>∃(k:Nat) (ys:LI) (u:Value),(k<=rt.lent.length)/\(ys.length<=k)/\(∀v∈ys,v∈rt.lent)/\F=sF [1,2] fz [(5,ZC ys u),(6,.i k)]/\h=[Zf gz 1,.tail u 1]/\m=rt.lent.length-k) _ _ _ ⟨0,[],v1,ob,ob,(fun v hv=>by cases hv),rfl,rfl,rfl⟩ (wk [1,0] (fr (Yc fl))) ?_)))
 rintro m F h ⟨k,ys,u,Yj,Zg,Zz,rfl,rfl,rfl⟩
 refine Ym 4 [0] (Zo (Zk none (i:Int) 5 (VR hr)) (Z0 2 (iw (Ye rt.lent) (Y3 ((k:Int)<(rt.lent.length:Int)) (fun Za=>?_) (fun Za=>?_)))))
 ·refine ak (aq (ab 1 (aD 18 (ZX 14 18 [0,1,2,3] [0,0] (dx 4 (Zk none (i:Int) 5 (VR hr)) (ZX 8 13 [5,6,7,8,9] [0] (dx 10 (Zk none (i:Int) 5 (VR hr)) (Zs 4 7 [11,12,13] ?_))))))))
  obtain ⟨x1,Z3⟩:=Zt rt.lent k om
  refine dx 14 (Zk none (k:Int) 1 (Y8 Z3)) (Zs 2 3 [15] (Z7 16 (dc 16 [] [] [] (Z8w n rt.body x1 rt.params.length (hn:=hok) (hf:=hrb.1)) ?_)))
  rintro _ _ ⟨wr1,rfl,rfl⟩
  refine Zs 0 1 [17] (de (ac (!wr1) (p:=¬(wr1=true)) (Ys Iff.rfl) (fun Zj=>?_) (fun Zj=>?_)))
  ·exact az (ZB 4 [0] (Zo (Zk none (i:Int) 5 (VR hr)) (Z0 3 (Zo (Zk none (k:Int) 1 (Y8 Z3)) (Z0 1 (iL (Z6 [x1]) 1 1 fun v2=>ZQ 0 [(47,Z4 [x1])] (ip 2 (Z6 (ys++[x1])) (Z6 ys) (Z6 [x1]) u none 1 (YD _) (YD _) (W1 _) (by simp<;>omega) (by simp [W5,Z6]) fun v3=>Z1 (az (Z0 1 (ZD k (Z1 (ZI ⟨k+1,(ys++[x1]),v3,ob,ob,(XF Zz (Y4 Z3)),rfl,rfl,rfl⟩ (wk [2,0] (fr (ZK k fl)))))))))))))))
  exact ak (az (Z0 1 (ZD k (Z1 (ZI ⟨k+1,ys,u,ob,ob,ob,rfl,rfl,rfl⟩ (wk [0,0] (fr (ZK k fl))))))))
 exact ax 0 (ar (Zp (r2 [] [ZC ys u] ⟨ys,rfl,rfl,⟨by omega,Zz⟩⟩ (Zd.forget _ _))))
theorem Zge (s:Z5) (ih:∀(b2:Z8),(b2.sz<s.sz)->(b2.sz<=1000000000)->Zm 186 [Yl b2] [] (Yw (Yl b2))) (hz:s.sz<=1000000000):Zm 218 [X4 s] [] (Yw (X4 s)):=by
 have hkz:=Kg s
 have haz:=JE s
 refine ZE 33 Tryz.func218 (ar (iA (Wd s) fun b1=>iA [.i 0,.i 0,.i 0,nl,nl] fun b2=>ie (ar (iL (XP []) 0 2 fun v1=>?_))))
 refine Z1 (Y6 (ab 0 (Y2 (fun fz gz m F h=>∃(k:Nat) (v:Value),(k<=s.kids.length)/\F=sF [1,2] fz [(3,Qw (s.kids.take k) v),(4,.i k)]/\h=[Zf gz 1,Zf gz 2,.tail v 2]/\m=s.kids.length-k) _ _ _ ⟨0,v1,ob,rfl,rfl,rfl⟩ (wk [1,1,0] (fc (x:=Qw [] v1) (Zd.slh _ (Yo XP rfl)) (Yc fl))) ?_)))
 rintro m F h ⟨k,v,Yj,rfl,rfl,rfl⟩
 refine Ym 3 [1] (iw (KE s.kids) (Y3 ((k:Int)<(s.kids.length:Int)) (fun Za=>?_) (fun Za=>?_)))
 ·refine ak (aq (ab 1 (az (ZB 4 [1] ?_))))
  obtain ⟨x1,Z3⟩:=Zt s.kids k om
  have hks:=Qu Z3
  exact Zo (Zk none (k:Int) 2 (T0 Z3)) (Z0 1 (Zu [] (ih x1 ob ob) (iL [Yl x1] 1 2 fun v2=>ZQ 0 [(20,.sl [Yl x1] none)] (ip 3 (XP (s.kids.take (k+1))) (XP (s.kids.take k)) [Yl x1] v none 2 (Jb _) (KO rfl) rfl (by simp<;>omega) (by rw [V4 Z3];simp [K6]) fun v3=>Z1 (az (Z0 1 (ZD k (Z1 (ZI ⟨k+1,v3,ob,rfl,rfl,rfl⟩ (wk [2,2,0] (fr (ZK k fl))))))))))))
 refine ax 0 (aD 12 (ZX 3 12 [0,1,2,3,4,5,6,7,9] [1,1,1,1] (Z7 8 (dc 8 [] [1,1,1] [b1,b1,b1] (WX s.args) ?_))))
 rintro _ _ ⟨v4,rfl,rfl⟩
 exact Zs 1 2 [10] (Z7 11 (X0 11 1 [] [] b2 [.i s.op,.i s.num,.i s.into,ZC s.args v4,Qw (s.kids.take k) v] (de (ZT (r3 [] [.agg [.i s.op,.i s.num,.i s.into,ZC s.args v4,Qw (s.kids.take k) v]] [0] [(b2,b2)] ⟨rfl,rfl⟩ (Zd.agg (.cons (lr _) (.cons (lr _) (.cons (lr _) (.cons (Zd.forget _ _) (.cons (Zd.sl _ (Yo XP (by rw [Wg om]))) .nil)))))))))))
theorem Zgb (b:Z8) (ih:∀(s2:Z5),(s2.sz<b.sz)->(s2.sz<=1000000000)->Zm 218 [X4 s2] [] (Yw (X4 s2))) (hz:b.sz<=1000000000):Zm 186 [Yl b] [] (Yw (Yl b)):=by
 have hbz:=UG b
 refine ZE 28 Tryz.func186 (ar (iA (XY b) fun b1=>iA [nl,.i 0] fun b2=>ie (ar (iL (ZU []) 0 5 fun v1=>ZB 3 [2] (iA [nl,.i 0] fun b3=>?_)))))
 refine Zx 0 b3 [Xi [] v1,.i b.result] (ie (Y6 (ab 0 (Y2 (fun fz gz m F h=>∃(k:Nat) (v:Value),(k<=b.steps.length)/\F=sF [1,2,3] fz [(4,.i k)]/\h=[.obj b3 [Xi (b.steps.take k) v,.i b.result],Zf gz 2,Zf gz 3,.tail v 5]/\m=b.steps.length-k) _ _ _ ⟨0,v1,ob,rfl,rfl,rfl⟩ (wk [0,1,1,0] (Yc fl)) ?_))))
 rintro m F h ⟨k,v,Yj,rfl,rfl,rfl⟩
 refine Ym 3 [2] (iw (UI b.steps) (Y3 ((k:Int)<(b.steps.length:Int)) (fun Za=>?_) (fun Za=>?_)))
 ·refine ak (aq (ab 1 (aE 12 (ZX 7 12 [0,1,2,3,4] [0,2] ?_))))
  obtain ⟨x1,Z3⟩:=Zt b.steps k om
  have hss:=Es Z3
  exact dx 5 (Zk none (k:Int) 5 (Va Z3)) (Zs 5 6 [6] (Z7 7 (YK 7 [] [0] [b3] (ih x1 ob ob) (Z7 8 (dL 8 [0] [b3] [X4 x1] 1 5 fun v2=>Yq 3 3 [] [(24,.sl [X4 x1] none)] (Z7 9 (dp 9 4 [] [] (ZU (b.steps.take (k+1))) (ZU (b.steps.take k)) [X4 x1] v none 5 (XG _) (KO rfl) rfl (by simp<;>omega) (by rw [V4 Z3];simp [Ub]) fun v3=>Zs 1 2 [10] (Z7 11 (X0 11 2 [] [] b3 [Xi (b.steps.take (k+1)) v3,.i b.result] (de (az (Z0 1 (ZD k (Z1 (ZI ⟨k+1,v3,ob,rfl,rfl,rfl⟩ (wk [0,2,2,0] (ZK k fl)))))))))))))))))
 exact ax 0 (Zl 1 [0] (Zx 1 b2 [Xi (b.steps.take k) v,.i b.result] (ie (ZT (r3 [] [.agg [Xi (b.steps.take k) v,.i b.result]] [0] [(b2,b2)] ⟨rfl,rfl⟩ (Zd.agg (.cons (Zd.sl _ (Yo ZU (by rw [Wg om]))) (.cons (lr _) .nil))))))))
theorem Z1g (k:Nat):(∀(s:Z5),(s.sz<=k)->(s.sz<=1000000000)->Zm 218 [X4 s] [] (Yw (X4 s)))/\(∀(b:Z8),(b.sz<=k)->(b.sz<=1000000000)->Zm 186 [Yl b] [] (Yw (Yl b))):=by
 induction k with
 | zero=>exact ⟨fun s h=>by have:=s.sz_pos;omega,fun s h=>by have:=s.sz_pos;omega⟩
 | succ k ih=>exact ⟨fun s h hz=>Zge s (fun b2 h2 h3=>ih.2 b2 om h3) hz,fun b h hz=>Zgb b (fun s2 h2 h3=>ih.1 s2 om h3) hz⟩
theorem Zgd (s:Z5) (hz:s.sz<=1000000000:=by exact ob):Zm 218 [X4 s] [] (Yw (X4 s)):=(Z1g s.sz).1 s (X5 _) hz
theorem Zga (b:Z8) (hz:b.sz<=1000000000:=by exact ob):Zm 186 [Yl b] [] (Yw (Yl b)):=(Z1g b.sz).2 b (X5 _) hz
theorem H3 (n:ZG) (ls:List LI) (qz:Nat) (hn:FO n qz WS:=by exact ob) (hqz:qz<=100000:=by exact ob) (hls:LC n n.routines.length ls:=by exact ob):Zm 152 [YF n,E6 ls] [] (fun r h=>∃(n2:ZG),r=YF n2/\h=[]/\FO n2 qz WS/\n2.routines.length=n.routines.length):=by
 have hnl:=hn.fn.len
 have Xq:=hn.fn.decls.ok
 have hll:=hls.len
 refine ZE 45 Tryz.func152 (ar (iA (X8 n) fun b1=>iA [nl,nl] fun b2=>ie (Zl 2 [1] (Zu [] (Bs n.decls) (iL (Xa []) 0 5 fun v1=>Z0 1 (iA [nl,nl] fun b3=>?_))))))
 refine Zx 0 b3 [Y5 n.decls,WV [] v1] (ie (Y6 (ab 0 (Y2 (fun fz gz m F h=>∃(k:Nat) (rs:List YE) (u:Value),(k<=n.routines.length)/\(rs.length=k)/\(∀r∈rs,RF n.decls n.routines.length qz WS r)/\F=sF [1,2,4,5] fz [(6,.i k)]/\h=[.obj b3 [Y5 n.decls,WV rs u],Zf gz 2,Zf gz 3,.tail u 5]/\m=n.routines.length-k) _ _ _ ⟨0,[],v1,ob,ob,(fun r hr=>by cases hr),rfl,rfl,rfl⟩ (wk [0,1,1,0] (Yc fl)) ?_))))
 rintro m F h ⟨k,rs,u,Yj,Zg,Zz,rfl,rfl,rfl⟩
 refine Ym 3 [2] (iw (Q3 n.routines) (Y3 ((k:Int)<(n.routines.length:Int)) (fun Za=>?_) (fun Za=>?_)))
 ·refine ak (aq (ab 1 (Zl 3 [2] ?_)))
  obtain ⟨x1,Z3⟩:=Zt n.routines k om
  have hrf:=hn.rf (Y4 Z3)
  have hrp:=hn.fn.ok.params_at Z3
  have hrz:=hrf.body.2
  refine Zo (Zk none (k:Int) 5 (VR Z3)) (Z0 1 (iA [nl,nl,.i 0,nl,.i 0] fun b4=>Zx 0 b4 (JV x1) (ie (aE 20 (ZX 14 20 [0,1,2,3,5,6] [1,0] ?_)))))
  obtain ⟨x2,Zy⟩:=Zt ls k om
  have hlc:=hls.at Zy Z3
  refine dx 7 (Zk none (k:Int) 1 (Z6d Zy)) (ZX 8 13 [8,10,11,12,13] [0,0] (Z7 4 (dc 4 [] [0,0,1] [b4,b4,b3] (WX x1.params) ?_)))
  rintro _ _ ⟨v2,rfl,rfl⟩
  refine Z7 9 (dc 9 [] [0,0,1] [b4,b4,b3] (WX x2) ?_)
  rintro _ _ ⟨v3,rfl,rfl⟩
  exact Z7 14 (YK 14 [] [0,1] [b4,b3] (Zga x1.body) (Yq 4 5 [15] [(40,.agg [Z4 x1.params,Z4 x2,.i x1.result,Vv x1.body.steps,.i x1.body.result])] (Z7 16 (dL 16 [1] [b3] (Xa [YE.mk x1.params x2 x1.result (Z8.mk x1.body.steps x1.body.result)]) 1 5 fun v4=>Yq 3 3 [] [(41,A0 [YE.mk x1.params x2 x1.result (Z8.mk x1.body.steps x1.body.result)])] (Z7 17 (dp 17 7 [] [] (Xa (rs++[YE.mk x1.params x2 x1.result (Z8.mk x1.body.steps x1.body.result)])) (Xa rs) (Xa [YE.mk x1.params x2 x1.result (Z8.mk x1.body.steps x1.body.result)]) u none 5 (Tf _) (Tf _) (BP _) (by simp<;>omega) (by simp [DI,Xa]) fun v5=>Zs 1 2 [18] (Z7 19 (X0 19 5 [] [] b3 [Y5 n.decls,WV (rs++[YE.mk x1.params x2 x1.result (Z8.mk x1.body.steps x1.body.result)]) v5] (de (az (Z0 1 (ZD k (Z1 (ZI ⟨k+1,(rs++[YE.mk x1.params x2 x1.result (Z8.mk x1.body.steps x1.body.result)]),v5,ob,ob,(XF Zz (by rw [Z8.eta];exact hrf.lend hlc.1 hlc.2)),rfl,rfl,rfl⟩ (wk [0,5,5,0] (ZK k fl))))))))))))))))
 exact ax 0 (Zl 1 [0] (Zx 1 b2 [Y5 n.decls,WV rs u] (ie (ZT (r3 [] [.agg [Y5 n.decls,WV rs u]] [0] [(b2,b2)] ⟨(ZG.mk n.decls rs),rfl,rfl,(FO.fin hn.fn om Zz)⟩ (Zd.agg (.cons (lr _) (.cons (Zd.forget _ _) .nil))))))))
theorem Z9n (n:ZG) (qz:Nat) (hn:FO n qz WS:=by exact ob) (hqz:qz<=100000:=by exact ob):Zm 138 [YF n] [] (fun r h=>∃(n2:ZG),r=YF n2/\h=[]/\FO n2 qz WS):=by
 refine ZE 33 Tryz.func138 (ar (iA (X8 n) fun b1=>iA [nl,nl] fun b2=>?_))
 refine ie (aD 6 (ZX 4 6 [0,1] [1,1] (BN (fun fz gz F h=>∃(n21:ZG) (b3:Nat) (xs1:List LI),(LC n n.routines.length xs1)/\(FO n21 qz WS/\n21.routines.length=n.routines.length)/\F=sF [2] fz [(3,.p b3 0)]/\h=[.obj b3 (X8 n21),Zf gz 0,Zf gz 1]) ?_ ?_)))
 ·refine Us 2 4 ?_ ?_
  ·refine dc 2 [] [1] [b1] (Pz n qz (hn:=hn.fn)) ?_
   rintro _ _ ⟨xs1,rfl,rfl,Y9⟩
   refine Us 3 4 ?_ ?_
   ·refine dc 3 [] [] [] (H3 n xs1 qz (hls:=(by first|assumption|(rw [<-hjl];exact Xp)))) ?_
    rintro _ _ ⟨n21,rfl,rfl,Yt⟩
    have hwl:=Yt
    exact Z7 4 (dA 4 [] [] [nl,nl] fun b3=>Z7 5 (X0 5 0 [] [] b3 (X8 n21) (de (ZJ ⟨_,b3,_,(by assumption),(by assumption),rfl,rfl⟩ (Zw 3 fl)))))
   refine dA 4 [1] [b1] [nl,nl] fun b4=>Z7 3 (dc 3 [] [] [] (H3 n xs1 qz (hls:=(by first|assumption|(rw [<-hjl];exact Xp)))) ?_)
   rintro _ _ ⟨n22,rfl,rfl,YS⟩
   have hwl:=YS
   exact Z7 5 (X0 5 0 [] [] b4 (X8 n22) (de (ZJ ⟨_,b4,_,(by assumption),(by assumption),rfl,rfl⟩ (Zw 3 fl))))
  refine dA 4 [1,1] [b1,b1] [nl,nl] fun b5=>Z7 2 (dc 2 [] [2] [b1] (Pz n qz (hn:=hn.fn)) ?_)
  rintro _ _ ⟨xs2,rfl,rfl,X2⟩
  refine Z7 3 (dc 3 [] [] [] (H3 n xs2 qz (hls:=(by first|assumption|(rw [<-hjl];exact Xp)))) ?_)
  rintro _ _ ⟨n23,rfl,rfl,Xk⟩
  have hwl:=Xk
  exact Z7 5 (X0 5 0 [] [] b5 (X8 n23) (de (ZJ ⟨_,b5,_,(by assumption),(by assumption),rfl,rfl⟩ (Zw 3 fl))))
 rintro F h ⟨n21,b3,xs1,Y9,Yt,rfl,rfl⟩
 have hwl:=Yt
 refine Y6 (ab 0 (Y2 (fun fz gz m F h=>∃(k:Nat) (nn:ZG),(k<=13)/\(FO nn qz WS)/\F=sF [2,3] fz [(4,.i k)]/\h=[.obj b3 (X8 nn),Zf gz 1]/\m=13-k) _ _ _ ⟨0,n21,ob,hwl.1,rfl,rfl,rfl⟩ (wk [0,0] (Yc fl)) ?_))
 rintro m F h ⟨k,nn,Yj,Zg,rfl,rfl,rfl⟩
 refine Xj (Y3 ((k:Int)<=12) (fun Za=>?_) (fun Za=>?_))
 ·refine ak (aq (ab 1 (ar (iL (Vr []) 0 1 fun v1=>?_))))
  refine Z1 (Y6 (ab 2 (Y2 (fun fz gz m F h=>∃(j:Nat) (ls:List LI) (u:Value),(j<=nn.routines.length)/\(LC nn j ls)/\(ls.length=j)/\F=sF [2,3,4] fz [(5,MA ls u),(6,.i j)]/\h=[Zf gz 1,Zf gz 2,.tail u 1]/\m=nn.routines.length-j) _ _ _ ⟨0,[],v1,ob,LC.nil,ob,rfl,rfl,rfl⟩ (wk [1,1,0] (fr (Yc fl))) ?_)))
  rintro m F h ⟨j,ls,u,Vp,Xp,XS,rfl,rfl,rfl⟩
  refine Ym 3 [0] (iw (Q3 nn.routines) (Y3 ((j:Int)<(nn.routines.length:Int)) (fun Zj=>?_) (fun Zj=>?_)))
  ·obtain ⟨rt,hrt⟩:=Zt nn.routines j om
   have hrl:=(Zg.rf (Y4 hrt)).lent
   have hnl4:=Zg.fn.len
   refine ak (aq (ab 3 (az (ZB 3 [0] (ic [] (Z9f nn rt j qz (hn:=Zg.fn) (hr:=hrt)) ?_)))))
   rintro _ _ ⟨xs3,rfl,rfl,XU⟩
   have hkl:=XU
   exact iL (Vr [xs3]) 1 1 fun v2=>ZQ 0 [(27,E6 [xs3])] (ip 3 (Vr (ls++[xs3])) (Vr ls) (Vr [xs3]) u none 1 (DH _) (DH _) (Lq _) (by simp<;>omega) (by simp [Lp,Vr]) fun v3=>Z1 (az (Z0 1 (ZD j (Z1 (ZI ⟨j+1,(ls++[xs3]),v3,ob,(Xp.snoc om (fun r hr v hv=>by rw [hrt] at hr;cases hr;exact hrl.2 v (hkl.2 v hv))),ob,rfl,rfl,rfl⟩ (wk [2,2,0] (fr (ZK j fl)))))))))
  have hjl:j=nn.routines.length:=by omega
  refine ax 2 (az (Kr 2 [(30,E6 ls)] [0] (ic [] (H3 nn ls qz (hls:=(by first|assumption|(rw [<-hjl];exact Xp)))) ?_)))
  rintro _ _ ⟨n24,rfl,rfl,Wo⟩
  have hwl:=Wo
  exact Zx 0 b3 (X8 n24) (ie (az (Z0 1 (ZD k (Z1 (ZI ⟨k+1,n24,ob,hwl.1,rfl,rfl,rfl⟩ (wk [0,0] (ZK k fl))))))))
 exact ax 0 (Zl 1 [0] (Zx 1 b2 (X8 nn) (ie (ZT (r3 [] [YF nn] [0] [(b2,b2)] ⟨nn,rfl,rfl,(by first|exact Zg|exact hwl.1)⟩ (lr _))))))
theorem EW (xs:LI) (y:Int) (hl:xs.length<=1000000000:=by exact ob):Zm 50 [Z4 xs,.i y] [] (fun r h=>∃(v:Value),r=ZC (Uo xs y) v/\h=[.tail v 1]):=by
 refine ZE 49 Tryz.func50 (Y0 (ar (iL (Z6 []) 0 1 fun v1=>?_)))
 refine Z1 (Y0 (Y6 (ab 0 (Y2 (fun fz gz m F h=>∃(k:Nat) (acc:LI) (d:Bool) (v:Value),(k<=xs.length)/\(acc.length<=k+(if d=true then 1 else 0))/\(acc++Qs d (xs.drop k) y=Uo xs y)/\F=sF [0,1] fz [(5,ZC acc v),(6,.b d),(7,.i k)]/\h=[.tail v 1]/\m=xs.length-k) _ _ _ ⟨0,[],false,v1,ob,(by simp),rfl,rfl,rfl,rfl⟩ (wk [0] (fw (Yc fl))) ?_))))
 rintro m F h ⟨k,acc,d,v,Yj,Zg,Zz,rfl,rfl,rfl⟩
 refine YQ 2 (iw (Ye xs) (Y3 ((k:Int)<(xs.length:Int)) (fun Za=>?_) (fun Za=>?_)))
 ·obtain ⟨x1,Z3⟩:=Zt xs k om
  have hil:acc.length<=k+1:=Vm Zg (by split<;>omega)
  refine ak (aq (ab 1 (Xj (Xx [0,1,5,6,7] [(24,.b ((!d)&&(decide (x1>=y))))] (fun gz=>gz) ?_ ?_))))
  ·refine Z0 3 (ib (b:=(!d)) 17 (fun Ze=>?_) (fun Ze=>?_))
   ·exact Z0 2 (Zo (Zk none (k:Int) 1 (Y8 Z3)) (Z1 (wk [0] (Zq (decide (x1>=y)) Ze fl))))
   exact Z1 (wk [0] (Zq false Ze fl))
  refine XA (fun fz gz F h=>∃(acc2:LI) (d2:Bool) (w:Value),((acc2=acc/\d2=d/\(d=true∨¬x1>=y))∨(acc2=acc++[y]/\d2=true/\¬d=true/\x1>y)∨(acc2=acc/\d2=true/\¬d=true/\x1=y))/\(acc2.length<=k+(if d2=true then 1 else 0))/\(acc2.length<=k+1)/\F=sF [0,1,7] fz [(5,ZC acc2 w),(6,.b d2)]/\h=[.tail w 1]) ?_ ?_
  ·refine ac ((!d)&&(decide (x1>=y))) (p:=(¬(d=true))/\(x1>=y)) (YI (Ys Iff.rfl) dq) (fun Zj=>?_) (fun Zj=>?_)
   ·refine YQ 2 (Zo (Zk none (k:Int) 1 (Y8 Z3)) (Z1 (XA (fun fz gz F h=>∃(w3:Value),F=sF [0,1,7] fz [(5,ZC (if x1>y then (acc++[y]) else acc) w3)]/\h=[.tail w3 1]) ?_ ?_)))
    ·refine WE (x1>y) (fun ZF=>?_) (fun ZF=>?_)
     ·exact az (Z0 2 (iL (Z6 [y]) 1 1 fun v2=>ZQ 0 [(33,Z4 [y])] (ip 1 (Z6 (acc++[y])) (Z6 acc) (Z6 [y]) v none 1 (YD _) (YD _) (W1 _) (by simp<;>omega) (by simp [W5,Z6]) fun v3=>Z1 (ZJ ⟨v3,rfl,rfl⟩ (wk [0] (fc (x:=ZC (acc++[y]) v3) (Zd.slh _ (Yo Z6 (by first|rfl|(rw [Zh ZF])|(rw [Zb ZF])|(simp [ZF];done)|(rw [Yd];simp [ZF];done)|omega))) fl))))))
     exact ak (ZJ ⟨v,rfl,rfl⟩ (wk [0] (fc (x:=ZC acc v) (Zd.slh _ (Yo Z6 (by first|rfl|(rw [Zh ZF])|(rw [Zb ZF])|(simp [ZF];done)|(rw [Yd];simp [ZF];done)|omega))) fl)))
    rintro F h ⟨w3,rfl,rfl⟩
    exact VB (ZJ ⟨(if x1>y then (acc++[y]) else acc),true,w3,(if h:x1>y then (by rw [Zh h];exact .inr (.inl ⟨rfl,rfl,Zj.1,h⟩)) else (by rw [Zb h];exact .inr (.inr ⟨rfl,rfl,Zj.1,by have:=Zj.2;omega⟩))),(by have h1:=Zg;rw [Zb Zj.1] at h1;split<;>(simp<;>omega)),(by have h1:=Zg;rw [Zb Zj.1] at h1;split<;>(simp<;>omega)),rfl,rfl⟩ (wk [0] fl))
   exact ak (ZJ ⟨acc,d,v,(.inl ⟨rfl,rfl,by by_cases q:d=true;exact .inl q;exact .inr (fun z=>Zj ⟨q,z⟩)⟩),Zg,hil,rfl,rfl⟩ (wk [0] fl))
  rintro F h ⟨acc2,d2,w,VL,Bm,Mg,rfl,rfl⟩
  exact az (Z0 3 (Zo (Zk none (k:Int) 1 (Y8 Z3)) (Z0 1 (iL (Z6 [x1]) 1 1 fun v4=>ZQ 0 [(40,Z4 [x1])] (ip 1 (Z6 (acc2++[x1])) (Z6 acc2) (Z6 [x1]) w none 1 (YD _) (YD _) (W1 _) (by simp<;>omega) (by simp [W5,Z6]) fun v5=>Z1 (az (Z0 1 (ZD k (Z1 (ZI ⟨k+1,(acc2++[x1]),d2,v5,ob,(by simp only [ZV,Yp,Yx];omega),(Zbl Z3 Zz VL),rfl,rfl,rfl⟩ (wk [0] (fw (ZK k fl)))))))))))))
 have hil:acc.length<=k+1:=Vm Zg (by split<;>omega)
 refine ax 0 (Y6 (XA (fun fz gz F h=>∃(w4:Value),F=sF [] fz [(5,ZC (if d=true then acc else (acc++[y])) w4)]/\h=[.tail w4 1]) ?_ ?_))
 ·refine ac (!d) (p:=¬(d=true)) (Ys Iff.rfl) (fun Yh=>?_) (fun Yh=>?_)
  ·exact az (Z0 2 (iL (Z6 [y]) 1 1 fun v6=>ZQ 0 [(46,Z4 [y])] (ip 1 (Z6 (acc++[y])) (Z6 acc) (Z6 [y]) v none 1 (YD _) (YD _) (W1 _) (by simp<;>omega) (by simp [W5,Z6]) fun v7=>Z1 (ZJ ⟨v7,rfl,rfl⟩ (wk [0] (fc (x:=ZC (acc++[y]) v7) (Zd.slh _ (Yo Z6 (by first|rfl|(rw [Zh Yh])|(rw [Zb Yh])|(simp [Yh];done)|(rw [Yd];simp [Yh];done)|omega))) fl))))))
  exact ak (ZJ ⟨v,rfl,rfl⟩ (wk [0] (fc (x:=ZC acc v) (Zd.slh _ (Yo Z6 (by first|rfl|(rw [Zh Yh])|(rw [Zb Yh])|(simp [Yh];done)|(rw [Yd];simp [Yh];done)|omega))) fl)))
 rintro F h ⟨w4,rfl,rfl⟩
 exact ar (Zp (r2 [0] [ZC (if d=true then acc else (acc++[y])) w4] ⟨w4,rfl,rfl⟩ (Zd.slh _ (Yo Z6 (Zbk om Zz)))))
theorem PQ (xs:LI) (y:Int) (hl:xs.length<=1000000000:=by exact ob):Zm 195 [Z4 xs,.i y] [] (fun r h=>∃(v:Value),r=ZC (Q8 xs y) v/\h=[.tail v 1]):=by
 refine ZE 28 Tryz.func195 (Y0 (ar (iL (Z6 []) 0 1 fun v1=>?_)))
 refine Z1 (Y6 (ab 0 (Y2 (fun fz gz m F h=>∃(k:Nat) (acc:LI) (v:Value),(k<=xs.length)/\(acc.length<=k)/\(acc++Q8 (xs.drop k) y=Q8 xs y)/\F=sF [0,1] fz [(5,ZC acc v),(6,.i k)]/\h=[.tail v 1]/\m=xs.length-k) _ _ _ ⟨0,[],v1,ob,ob,rfl,rfl,rfl,rfl⟩ (wk [0] (fr (Yc fl))) ?_)))
 rintro m F h ⟨k,acc,v,Yj,Zg,Zz,rfl,rfl,rfl⟩
 refine YQ 2 (iw (Ye xs) (Y3 ((k:Int)<(xs.length:Int)) (fun Za=>?_) (fun Za=>?_)))
 ·refine ak (aq (ab 1 (Yf 2 ?_)))
  obtain ⟨x1,Z3⟩:=Zt xs k om
  refine Zo (Zk none (k:Int) 1 (Y8 Z3)) (Z1 (B1 (fun fz gz F h=>∃(w:Value),F=sF [0,1,6] fz [(5,ZC (if x1≠y then (acc++[x1]) else acc) w)]/\h=[.tail w 1]) (fun _ _=>rfl) ?_ ?_))
  ·refine ac (x1 != y) YB (fun Zj=>?_) (fun Zj=>?_)
   ·exact az (Z0 3 (Zo (Zk none (k:Int) 1 (Y8 Z3)) (Z0 1 (iL (Z6 [x1]) 1 1 fun v2=>ZQ 0 [(25,Z4 [x1])] (ip 1 (Z6 (acc++[x1])) (Z6 acc) (Z6 [x1]) v none 1 (YD _) (YD _) (W1 _) (by simp<;>omega) (by simp [W5,Z6]) fun v3=>Z1 (ZJ ⟨v3,rfl,rfl⟩ (wk [0] (fc (x:=ZC (acc++[x1]) v3) (Zd.slh _ (Yo Z6 (by first|rfl|(rw [Zh Zj])|(rw [Zb Zj])|(simp [Zj];done)|(rw [Yd];simp [Zj];done)|omega))) fl))))))))
   exact ak (ZJ ⟨v,rfl,rfl⟩ (wk [0] (fc (x:=ZC acc v) (Zd.slh _ (Yo Z6 (by first|rfl|(rw [Zh Zj])|(rw [Zb Zj])|(simp [Zj];done)|(rw [Yd];simp [Zj];done)|omega))) fl)))
  rintro F h ⟨w,rfl,rfl⟩
  exact az (Z0 1 (ZD k (Z1 (ZI ⟨k+1,(if x1≠y then (acc++[x1]) else acc),w,ob,(by split<;>(try simp)<;>omega),(Ze0 Z3 Zz),rfl,rfl,rfl⟩ (wk [0] (fr (ZK k fl)))))))
 exact ax 0 (ar (Zp (r2 [0] [ZC acc v] ⟨v,rfl,rfl⟩ (Zd.slh _ (Yo Z6 (Zdz om Zz))))))
theorem Zg4 (s:Z5) (q:Int) (xs:LI) (ih:∀(b2:Z8) (q:Int) (k2:Nat) (xs2:LI),(b2.sz<s.sz)->(k2<=b2.steps.length)->(xs2.length+b2.sz<=1000000000)->Zm 189 [Yl b2,.i q,.i k2,Z4 xs2] [] (Yw (Z4 (UU q (T7 q (b2.steps.drop k2) xs2) b2.result)))) (hz:xs.length+s.sz<=1000000000):Zm 221 [X4 s,.i q,Z4 xs] [] (Yw (Z4 (A5 q s xs))):=by
 have hkz:=Kg s
 have haz:=JE s
 have hse:=s.sz_eq
 refine ZE 58 Tryz.func221 (ar (iA (Wd s) fun b1=>Z1 (Ym 2 [0] (Zu [] (Z1h s.op) (ie (ac (YO s.op) Iff.rfl (fun Za=>?_) (fun Za=>?_)))))))
 ·exact ar (Zp (ZZ (Z4 xs) (Zd.sl _ (Yo Z6 (by rw [Z2o,Zh (by assumption)])))))
 refine ak (Y6 (ab 0 (Y2 (fun fz gz m F h=>∃(j:Nat) (ys:LI),(j<=s.args.length)/\(ys.length<=xs.length+j)/\(QU q (s.args.drop j) ys=QU q s.args xs)/\F=sF [1,3] fz [(2,Z4 ys),(7,.i j)]/\h=gz/\m=s.args.length-j) _ _ _ ⟨0,xs,ob,ob,rfl,rfl,rfl,rfl⟩ (wk [0] (fr (Yc fl))) ?_)))
 rintro m F h ⟨j,ys,Yj,Zg,Zz,rfl,rfl,rfl⟩
 refine Ym 3 [0] (iw (Ye s.args) (Y3 ((j:Int)<(s.args.length:Int)) (fun Zj=>?_) (fun Zj=>?_)))
 ·refine ak (aq (ab 1 (Zl 3 [0] ?_)))
  obtain ⟨x1,Z3⟩:=Zt s.args j om
  refine Zo (Zk none (j:Int) 1 (Y8 Z3)) (Xx [1,2,3,7] [(34,.b ((decide (x1>=0))&&(decide (x1<q))))] (fun gz=>gz) ?_ ?_)
  ·refine Z0 3 (ib (b:=(decide (x1>=0))) 26 (fun Ze=>?_) (fun Ze=>?_))
   ·exact ZB 3 [0] (Zo (Zk none (j:Int) 1 (Y8 Z3)) (Z1 (wk [0] (Zq (decide (x1<q)) Ze fl))))
   exact Z1 (wk [0] (Zq false Ze fl))
  refine B1 (fun fz gz F h=>F=sF [1,3,7] fz [(2,Z4 (UU q ys x1))]/\h=gz) (fun _ _=>rfl) ?_ ?_
  ·refine ac ((decide (x1>=0))&&(decide (x1<q))) (p:=(x1>=0)/\(x1<q)) (YI dq dq) (fun ZF=>?_) (fun ZF=>?_)
   ·refine az (ZB 4 [0] (Zo (Zk none (j:Int) 1 (Y8 Z3)) (Z0 1 (ic [] (EW ys x1) ?_))))
    rintro _ _ ⟨v1,rfl,rfl⟩
    exact Z1 (ZJ ⟨rfl,rfl⟩ (wk [1] (fc (x:=ZC (Uo ys x1) v1) (Zd.sl _ (Yo Z6 (by rw [UU,Zh (by assumption)]))) fl)))
   exact ak (ZJ ⟨rfl,rfl⟩ (wk [0] (fc (x:=Z4 ys) (Zd.sl _ (Yo Z6 (by rw [UU,Zb (by assumption)]))) fl)))
  rintro F h ⟨rfl,rfl⟩
  exact az (Z0 1 (ZD j (Z1 (ZI ⟨j+1,(UU q ys x1),ob,(by have:=Io (n:=q) ys x1;omega),(Zim Z3 Zz),rfl,rfl,rfl⟩ (wk [0] (fr (ZK j fl)))))))
 have hA:QU q s.args xs=ys:=(Zil om Zz).symm
 refine ax 0 (Y6 (ab 2 (Y2 (fun fz gz m F h=>∃(j:Nat) (zs:LI),(j<=s.kids.length)/\(zs.length<=xs.length+s.args.length+YU (s.kids.take j))/\(Ju q (s.kids.drop j) zs=Ju q s.kids (QU q s.args xs))/\F=sF [1,3] fz [(2,Z4 zs),(8,.i j)]/\h=gz/\m=s.kids.length-j) _ _ _ ⟨0,ys,ob,(by rw [List.take_zero,YU];omega),(by rw [hA];rfl),rfl,rfl,rfl⟩ (wk [0] (fr (Yc fl))) ?_)))
 rintro m F h ⟨j,zs,Vp,Xp,XS,rfl,rfl,rfl⟩
 refine Ym 3 [0] (iw (KE s.kids) (Y3 ((j:Int)<(s.kids.length:Int)) (fun Yh=>?_) (fun Yh=>?_)))
 ·refine ak (aq (ab 3 (az (ZB 3 [0] ?_))))
  obtain ⟨x2,Zy⟩:=Zt s.kids j om
  have hks:=Qu Zy
  have hbt:=Gt Zy
  have hbx:=Gs Zy
  have hul:=In (n:=q) x2 zs
  exact Zo (Zk none (j:Int) 2 (T0 Zy)) (Z0 3 (Zu [] (ih x2 q 0 zs ob ob ob) (Z1 (az (Z0 1 (ZD j (Z1 (ZI ⟨j+1,(T6 q x2 zs),ob,om,(Zio Zy XS),rfl,rfl,rfl⟩ (wk [0] (fc (x:=Z4 (UU q (T7 q (x2.steps.drop 0) zs) x2.result)) (Zd.sl _ (Yo Z6 (by rw [Z2m];rfl))) (ZK j fl)))))))))))
 exact ax 2 (ar (Zp (ZZ (Z4 zs) (Zd.sl _ (Yo Z6 (by rw [Z2o,Zb (by assumption)];exact (Zin om XS)))))))
theorem Zg5 (b:Z8) (q:Int) (k0:Nat) (xs:LI) (ih:∀(s2:Z5) (q:Int) (xs2:LI),(s2.sz<b.sz)->(xs2.length+s2.sz<=1000000000)->Zm 221 [X4 s2,.i q,Z4 xs2] [] (Yw (Z4 (A5 q s2 xs2)))) (hk:k0<=b.steps.length) (hz:xs.length+b.sz<=1000000000):Zm 189 [Yl b,.i q,.i k0,Z4 xs] [] (Yw (Z4 (UU q (T7 q (b.steps.drop k0) xs) b.result))):=by
 have hbz:=UG b
 have hbe:=b.sz_eq
 have hsd:=Z1w b.steps k0
 refine ZE 40 Tryz.func189 (ar (iA (XY b) fun b1=>?_))
 refine Z1 (Y6 (ab 0 (Y2 (fun fz gz m F h=>∃(k:Nat) (ys:LI),(k<=b.steps.length)/\(ys.length+Yu (b.steps.drop k)<=xs.length+Yu (b.steps.drop k0))/\(T7 q (b.steps.drop k) ys=T7 q (b.steps.drop k0) xs)/\F=sF [1,4] fz [(3,Z4 ys),(9,.i k)]/\h=gz/\m=b.steps.length-k) _ _ _ ⟨k0,xs,ob,(X5 _),rfl,rfl,rfl,rfl⟩ (wk [0] fl) ?_)))
 rintro m F h ⟨k,ys,Yj,Zg,Zz,rfl,rfl,rfl⟩
 refine Ym 3 [0] (iw (UI b.steps) (Y3 ((k:Int)<(b.steps.length:Int)) (fun Za=>?_) (fun Za=>?_)))
 ·refine ak (aq (ab 1 (az (ZB 3 [0] ?_))))
  obtain ⟨x1,Z3⟩:=Zt b.steps k om
  have hss:=Es Z3
  have hsd1:=Z1v Z3
  have hul:=Z2p (n:=q) x1 ys
  exact Zo (Zk none (k:Int) 5 (Va Z3)) (Z0 3 (Zu [] (ih x1 q ys ob ob) (Z1 (az (Z0 1 (ZD k (Z1 (ZI ⟨k+1,(A5 q x1 ys),ob,ob,(Ziq Z3 Zz),rfl,rfl,rfl⟩ (wk [0] (fr (ZK k fl)))))))))))
 refine ax 0 (Xj (Xx [3,4] [(34,.b ((decide (b.result>=0))&&(decide (b.result<q))))] (fun gz=>gz) ?_ ?_))
 ·refine ZB 4 [0] (ib (b:=(decide (b.result>=0))) 29 (fun Ze=>?_) (fun Ze=>?_))
  ·exact V2 [0] (wk [0] (Zq (decide (b.result<q)) Ze fl))
  exact Z1 (wk [0] (Zq false Ze fl))
 refine XA (fun fz gz F h=>F=sF [] fz [(3,Z4 (UU q ys b.result))]/\h=[]) ?_ ?_
 ·refine ac ((decide (b.result>=0))&&(decide (b.result<q))) (p:=(b.result>=0)/\(b.result<q)) (YI dq dq) (fun Zj=>?_) (fun Zj=>?_)
  ·refine az (ZB 3 [0] (ic [] (EW ys b.result) ?_))
   rintro _ _ ⟨v1,rfl,rfl⟩
   exact Z1 (ZJ ⟨rfl,rfl⟩ (wk [] (fc (x:=ZC (Uo ys b.result) v1) (Zd.sl _ (Yo Z6 (by rw [UU,Zh (by assumption)]))) fl)))
  exact ak (ZJ ⟨rfl,rfl⟩ (wk [] (fc (x:=Z4 ys) (Zd.sl _ (Yo Z6 (by rw [UU,Zb (by assumption)]))) fl)))
 rintro F h ⟨rfl,rfl⟩
 exact ar (Zp (ZZ (Z4 (UU q ys b.result)) (Zd.sl _ (Yo Z6 (by rw [Zip om Zz])))))
theorem Zha (k:Nat):(∀(s:Z5) (q:Int) (xs:LI),(s.sz<=k)->(xs.length+s.sz<=1000000000)->Zm 221 [X4 s,.i q,Z4 xs] [] (Yw (Z4 (A5 q s xs))))/\(∀(b:Z8) (q:Int) (k0:Nat) (xs:LI),(b.sz<=k)->(k0<=b.steps.length)->(xs.length+b.sz<=1000000000)->Zm 189 [Yl b,.i q,.i k0,Z4 xs] [] (Yw (Z4 (UU q (T7 q (b.steps.drop k0) xs) b.result)))):=by
 induction k with
 | zero=>exact ⟨fun s q xs h=>by have:=s.sz_pos;omega,fun b q k0 xs h=>by have:=b.sz_pos;omega⟩
 | succ k ih=>exact ⟨fun s q xs h hz=>Zg4 s q xs (fun b2 q k2 xs2 h2 hk h3=>ih.2 b2 q k2 xs2 om hk h3) hz,fun b q k0 xs h hk hz=>Zg5 b q k0 xs (fun s2 q xs2 h2 h3=>ih.1 s2 q xs2 om h3) hk hz⟩
theorem Z1a (b:Z8) (q:Int) (k0:Nat) (xs:LI) (hk:k0<=b.steps.length:=by exact ob) (hz:xs.length+b.sz<=1000000000:=by exact ob):Zm 189 [Yl b,.i q,.i k0,Z4 xs] [] (Yw (Z4 (UU q (T7 q (b.steps.drop k0) xs) b.result))):=(Zha b.sz).2 b q k0 xs (X5 _) hk hz
theorem Z1q (b:Z8) (q:Int) (hz:b.sz<=100000000:=by exact ob):Zm 155 [Yl b,.i q] [] (Yw (Z4 (T6 q b []))):=by
 exact ZE 9 Tryz.func155 (ar (iA (XY b) fun b1=>Z1 (Zl 2 [0] (iL (Z6 []) 0 1 fun v1=>ZQ 0 [(7,Z4 [])] (Zu [] (Z1a b q 0 [] (hk:=(QB _))) (Zp (ZZ (Z4 (UU q (T7 q (b.steps.drop 0) []) b.result)) (Zd.sl _ (Yo Z6 (by rw [Z2m];rfl))))))))))
theorem Za9 (xs:LI) (ys:LI) (hz:xs.length+ys.length<=100000000:=by exact ob):Zm 190 [Z4 xs,Z4 ys] [] (fun r h=>∃(zs:LI),r=Z4 zs/\h=[]/\zs.length<=xs.length+ys.length):=by
 refine ZE 22 Tryz.func190 (Y0 (Yf 1 (ic [] (WX xs) ?_)))
 rintro _ _ ⟨v1,rfl,rfl⟩
 refine Z1 (Y6 (ab 0 (Y2 (fun fz gz m F h=>∃(k:Nat) (zs:LI),(k<=ys.length)/\(zs.length<=xs.length+k)/\F=sF [1] fz [(5,Z4 zs),(6,.i k)]/\h=[]/\m=ys.length-k) _ _ _ ⟨0,xs,ob,ob,rfl,rfl,rfl⟩ (wk [] (fc (x:=ZC xs v1) (Zd.forget _ _) (Yc fl))) ?_)))
 rintro m F h ⟨k,zs,Yj,Zg,rfl,rfl,rfl⟩
 refine YQ 2 (iw (Ye ys) (Y3 ((k:Int)<(ys.length:Int)) (fun Za=>?_) (fun Za=>?_)))
 ·refine ak (aq (ab 1 (az (Z0 3 ?_))))
  obtain ⟨x1,Z3⟩:=Zt ys k om
  refine Zo (Zk none (k:Int) 1 (Y8 Z3)) (Z0 1 (ic [] (EW zs x1) ?_))
  rintro _ _ ⟨v2,rfl,rfl⟩
  exact Z1 (az (Z0 1 (ZD k (Z1 (ZI ⟨k+1,(Uo zs x1),ob,(by have:=DY zs x1;omega),rfl,rfl,rfl⟩ (wk [] (fc (x:=ZC (Uo zs x1) v2) (Zd.forget _ _) (ZK k fl))))))))
 exact ax 0 (ar (Zp (r1 [] ⟨zs,rfl,rfl,ob⟩)))
theorem PC (xs:LI) (ys:LI) (hz:xs.length<=100000000:=by exact ob) (hy:ys.length<=100000000:=by exact ob):Zm 224 [Z4 xs,Z4 ys] [] (fun r h=>∃(zs:LI) (v:Value),r=ZC zs v/\h=[.tail v 1]/\zs.length<=xs.length/\∀z∈zs,z∈xs):=by
 refine ZE 28 Tryz.func224 (Y0 (ar (iL (Z6 []) 0 1 fun v1=>?_)))
 refine Z1 (Y6 (ab 0 (Y2 (fun fz gz m F h=>∃(k:Nat) (zs:LI) (u:Value),(k<=xs.length)/\(zs.length<=k)/\(∀z∈zs,z∈xs)/\F=sF [0,1] fz [(5,ZC zs u),(6,.i k)]/\h=[.tail u 1]/\m=xs.length-k) _ _ _ ⟨0,[],v1,ob,ob,(fun z hz=>by cases hz),rfl,rfl,rfl⟩ (wk [0] (fr (Yc fl))) ?_)))
 rintro m F h ⟨k,zs,u,Yj,Zg,Zz,rfl,rfl,rfl⟩
 refine YQ 2 (iw (Ye xs) (Y3 ((k:Int)<(xs.length:Int)) (fun Za=>?_) (fun Za=>?_)))
 ·refine ak (aq (ab 1 (Yf 3 ?_)))
  obtain ⟨x1,Z3⟩:=Zt xs k om
  refine Zo (Zk none (k:Int) 1 (Y8 Z3)) (Z0 1 (Zu [] (UT ys x1) (ie (WE (x1∈ys) (fun Zj=>?_) (fun Zj=>?_)))))
  ·exact az (Z0 3 (Zo (Zk none (k:Int) 1 (Y8 Z3)) (Z0 1 (iL (Z6 [x1]) 1 1 fun v2=>ZQ 0 [(25,Z4 [x1])] (ip 1 (Z6 (zs++[x1])) (Z6 zs) (Z6 [x1]) u none 1 (YD _) (YD _) (W1 _) (by simp<;>omega) (by simp [W5,Z6]) fun v3=>Z1 (az (Z0 1 (ZD k (Z1 (ZI ⟨k+1,(zs++[x1]),v3,ob,ob,(by first|exact Zz|exact XF Zz (Y4 Z3)),rfl,rfl,rfl⟩ (wk [0] (fr (ZK k fl)))))))))))))
  exact ak (az (Z0 1 (ZD k (Z1 (ZI ⟨k+1,zs,u,ob,ob,(by first|exact Zz|exact XF Zz (Y4 Z3)),rfl,rfl,rfl⟩ (wk [0] (fr (ZK k fl))))))))
 exact ax 0 (ar (Zp (r1 [0] ⟨zs,u,rfl,rfl,⟨by omega,Zz⟩⟩)))
theorem LT (xs:LI) (q:Int) (hz:xs.length<=100000000:=by exact ob):Zm 238 [Z4 xs,.i q] [] (fun r h=>∃(zs:LI) (v:Value),r=ZC zs v/\h=[.tail v 1]/\zs.length<=xs.length/\∀z∈zs,z∈xs):=by
 refine ZE 28 Tryz.func238 (Y0 (ar (iL (Z6 []) 0 1 fun v1=>?_)))
 refine Z1 (Y6 (ab 0 (Y2 (fun fz gz m F h=>∃(k:Nat) (zs:LI) (u:Value),(k<=xs.length)/\(zs.length<=k)/\(∀z∈zs,z∈xs)/\F=sF [0,1] fz [(5,ZC zs u),(6,.i k)]/\h=[.tail u 1]/\m=xs.length-k) _ _ _ ⟨0,[],v1,ob,ob,(fun z hz=>by cases hz),rfl,rfl,rfl⟩ (wk [0] (fr (Yc fl))) ?_)))
 rintro m F h ⟨k,zs,u,Yj,Zg,Zz,rfl,rfl,rfl⟩
 refine YQ 2 (iw (Ye xs) (Y3 ((k:Int)<(xs.length:Int)) (fun Za=>?_) (fun Za=>?_)))
 ·refine ak (aq (ab 1 (Yf 2 ?_)))
  obtain ⟨x1,Z3⟩:=Zt xs k om
  refine Zo (Zk none (k:Int) 1 (Y8 Z3)) (Y3 (x1<q) (fun Zj=>?_) (fun Zj=>?_))
  ·exact az (Z0 3 (Zo (Zk none (k:Int) 1 (Y8 Z3)) (Z0 1 (iL (Z6 [x1]) 1 1 fun v2=>ZQ 0 [(25,Z4 [x1])] (ip 1 (Z6 (zs++[x1])) (Z6 zs) (Z6 [x1]) u none 1 (YD _) (YD _) (W1 _) (by simp<;>omega) (by simp [W5,Z6]) fun v3=>Z1 (az (Z0 1 (ZD k (Z1 (ZI ⟨k+1,(zs++[x1]),v3,ob,ob,(by first|exact Zz|exact XF Zz (Y4 Z3)),rfl,rfl,rfl⟩ (wk [0] (fr (ZK k fl)))))))))))))
  exact ak (az (Z0 1 (ZD k (Z1 (ZI ⟨k+1,zs,u,ob,ob,(by first|exact Zz|exact XF Zz (Y4 Z3)),rfl,rfl,rfl⟩ (wk [0] (fr (ZK k fl))))))))
 exact ax 0 (ar (Zp (r1 [0] ⟨zs,u,rfl,rfl,⟨by omega,Zz⟩⟩)))
theorem Cf (op:Int) (v:Int) :Zm 117 [.i op,.i v] [] (Yw (X4 (Zv op v))):=by
 exact ZE 10 Tryz.func117 (ar (iA [.i 0,.i 0,.i 0,nl,nl] fun b1=>ie (Yf 2 (iL (Z6 [v]) 1 1 fun v1=>iL (XP []) 0 2 fun v2=>Z0 1 (Zx 2 b1 [.i op,.i 0,.i 0,ZC [v] v1,Qw [] v2] (ie (ZT (r3 [] [.agg [.i op,.i 0,.i 0,ZC [v] v1,Qw [] v2]] [0] [(b1,b1)] ⟨rfl,rfl⟩ (Zd.agg (.cons li (.cons li (.cons li (.cons (Zd.sl _ (Yo Z6 rfl)) (.cons (Zd.sl _ (Yo XP rfl)) .nil))))))))))))))
theorem KX (op:Int) (xs:LI) (hl:xs.length<=1000000000:=by exact ob):Zm 157 [.i op,Z4 xs] [] (fun r h=>∃(v:Value),r=Xi (xs.map (Zv op)) v/\h=[.tail v 5]):=by
 refine ZE 24 Tryz.func157 (Y0 (ar (iL (ZU []) 0 5 fun v1=>?_)))
 refine Z1 (Y6 (ab 0 (Y2 (fun fz gz m F h=>∃(k:Nat) (v:Value),(k<=xs.length)/\F=sF [0,1] fz [(5,Xi ((xs.take k).map (Zv op)) v),(6,.i k)]/\h=[.tail v 5]/\m=xs.length-k) _ _ _ ⟨0,v1,ob,rfl,rfl,rfl⟩ (wk [0] (fc (x:=Xi [] v1) (Zd.slh _ (Yo ZU rfl)) (Yc fl))) ?_)))
 rintro m F h ⟨k,v,Yj,rfl,rfl,rfl⟩
 refine YQ 2 (iw (Ye xs) (Y3 ((k:Int)<(xs.length:Int)) (fun Za=>?_) (fun Za=>?_)))
 ·refine ak (aq (ab 1 (az (Z0 4 ?_))))
  obtain ⟨x1,Z3⟩:=Zt xs k om
  exact Zo (Zk none (k:Int) 1 (Y8 Z3)) (Z0 1 (Zu [] (Cf op x1) (iL [X4 (Zv op x1)] 1 5 fun v2=>ZQ 0 [(21,.sl [X4 (Zv op x1)] none)] (ip 1 (ZU ((xs.take (k+1)).map (Zv op))) (ZU ((xs.take k).map (Zv op))) [X4 (Zv op x1)] v none 5 (XG _) (KO rfl) rfl (by simp<;>omega) (by rw [V4 Z3];simp [Ub]) fun v3=>Z1 (az (Z0 1 (ZD k (Z1 (ZI ⟨k+1,v3,ob,rfl,rfl,rfl⟩ (wk [0] (fr (ZK k fl))))))))))))
 exact ax 0 (ar (Zp (r2 [0] [Xi ((xs.take k).map (Zv op)) v] ⟨v,rfl,rfl⟩ (Zd.slh _ (Yo ZU (by rw [Wg om]))))))
theorem Z9s (n:ZG) (s:Z5) (i:Nat) (mm:Nat) (hn:Xw n:=by exact ob) (hf:FS n.decls n.routines.length mm s:=by exact ob) (hi:i<s.args.length:=by exact ob):Zm 237 [YF n,X4 s,.i i] [] (fun r h=>∃(wr:Bool),r=.b wr/\h=[]):=by
 have hal:=hf.alen
 refine ZE 42 Tryz.func237 (ar (iA (X8 n) fun b1=>iA (Wd s) fun b2=>?_))
 refine Z1 (Y6 (ab 0 (Y2 (fun fz gz m F h=>∃(k:Nat),(k<=s.args.length)/\F=sF [2,3,4] fz [(7,.i k)]/\h=gz/\m=s.args.length-k) _ _ _ ⟨0,ob,rfl,rfl,rfl⟩ (wk [0,0] (Yc fl)) ?_)))
 rintro m F h ⟨k,Yj,rfl,rfl,rfl⟩
 refine Ym 3 [0] (iw (Ye s.args) (Y3 ((k:Int)<(s.args.length:Int)) (fun Za=>?_) (fun Za=>?_)))
 ·refine ak (aq (ab 1 (aD 27 (Zs 23 27 [0,1,2,3] (db (b:=((k:Int) != (i:Int))) 18 (fun Ze=>?_) (fun Ze=>?_))))))
  ·refine ZX 20 23 [4,5,6] [0] ?_
   obtain ⟨x1,Z3⟩:=Zt s.args k om
   refine dx 7 (Zk none (k:Int) 1 (Y8 Z3)) (ZX 15 19 [8,9,10,11] [0] ?_)
   obtain ⟨x2,Zy⟩:=Zt s.args i om
   refine dx 12 (Zk none (i:Int) 1 (Y8 Zy)) (Zs 10 14 [13,14,15,16] (db (b:=(x1==x2)) 31 (fun ZH=>?_) (fun ZH=>?_)))
   ·refine Zs 6 10 [17,18,19,20] (db (b:=(decide ((k:Int)>(i:Int)))) 35 (fun Yn=>?_) (fun Yn=>?_))
    ·exact Zs 0 6 [21,22,23,24,25,26] (de (Vo (ar (Zp (r1 [] ⟨true,rfl,rfl⟩)))))
    refine ZX 3 6 [21,22,23] [1,0] (Z7 24 (YK 24 [] [] [] (FT n s k (hnum:=hf.call)) (Zs 0 2 [25,26] (de (ac (T2 n s.op s.num k) Iff.rfl (fun Zj=>?_) (fun Zj=>?_))))))
    ·exact ar (Zp (r1 [] ⟨true,rfl,rfl⟩))
    exact ak (az (Z0 1 (ZD k (Z1 (ZI ⟨k+1,ob,rfl,rfl,rfl⟩ (wk [0,0] (ZK k fl)))))))
   exact Zs 0 10 [17,18,19,20,21,22,23,24,25,26] (de (V9 (ak (az (Z0 1 (ZD k (Z1 (ZI ⟨k+1,ob,rfl,rfl,rfl⟩ (wk [0,0] (ZK k fl))))))))))
  exact Zs 0 23 [4,5,6,7,8,9,10,11,12,13,14,15,16,17,18,19,20,21,22,23,24,25,26] (de (V9 (ak (az (Z0 1 (ZD k (Z1 (ZI ⟨k+1,ob,rfl,rfl,rfl⟩ (wk [0,0] (ZK k fl))))))))))
 exact ax 0 (ar (Zp (r1 [] ⟨false,rfl,rfl⟩)))
theorem PJ (n:ZG) (s:Z5) (i:Nat) (mm:Nat) (os:LI) (ls:LI) (hn:Xw n:=by exact ob) (hf:FS n.decls n.routines.length mm s:=by exact ob) (hi:i<s.args.length:=by exact ob) (ho:os.length<=100000000:=by exact ob) (hl:ls.length<=100000000:=by exact ob):Zm 222 [YF n,X4 s,.i i,Z4 os,Z4 ls] [] (fun r h=>∃(wr:Bool),r=.b wr/\h=[]):=by
 refine ZE 34 Tryz.func222 (ar (iA (X8 n) fun b1=>iA (Wd s) fun b2=>Z1 (Zl 4 [0] ?_)))
 obtain ⟨x1,Z3⟩:=Zt s.args i om
 refine Zo (Zk none (i:Int) 1 (Y8 Z3)) (Z0 1 (Zu [] (UT ls x1) (Z0 1 (ib (b:=(decide (x1∈ls))) 18 (fun Ze=>?_) (fun Ze=>?_)))))
 ·exact Zp (r1 [] ⟨true,rfl,rfl⟩)
 refine ZB 4 [0] (Zo (Zk none (i:Int) 1 (Y8 Z3)) (Z0 1 (Zu [] (UT os x1) (Z0 3 (ib (b:=(!(decide (x1∈os)))) 28 (fun ZH=>?_) (fun ZH=>?_))))))
 ·exact Zp (r1 [] ⟨true,rfl,rfl⟩)
 refine ZB 3 [1,0] (ic [] (Z9s n s i mm) ?_)
 rintro _ _ ⟨wr1,rfl,rfl⟩
 exact Zp (r1 [] ⟨wr1,rfl,rfl⟩)
theorem Z96 (n:ZG) (us:LI) (s:Z5) (os:LI) (ls:LI) (mm:Nat) (hn:Xw n:=by exact ob) (hf:FS n.decls n.routines.length mm s:=by exact ob) (hvl:us.length=mm:=by exact ob) (hm:mm<=100000000:=by exact ob) (ho:os.length<=100000000:=by exact ob) (hl:ls.length<=100000000:=by exact ob):Zm 191 [YF n,Z4 us,X4 s,Z4 os,Z4 ls] [] (fun r h=>∃(zs:LI),r=Z4 zs/\h=[]/\zs.length<=s.args.length/\∀z∈zs,z∈s.args):=by
 have hal:=hf.alen
 refine ZE 43 Tryz.func191 (ar (iA (X8 n) fun b1=>iA (Wd s) fun b2=>Z1 (ar (iL (Z6 []) 0 1 fun v1=>?_))))
 refine Z1 (Y6 (ab 0 (Y2 (fun fz gz m F h=>∃(k:Nat) (zs:LI) (u:Value),(k<=s.args.length)/\(zs.length<=k)/\(∀z∈zs,z∈s.args)/\F=sF [1,3,4,5,7] fz [(11,ZC zs u),(12,.i k)]/\h=[Zf gz 1,Zf gz 2,.tail u 1]/\m=s.args.length-k) _ _ _ ⟨0,[],v1,ob,ob,(fun z hz=>by cases hz),rfl,rfl,rfl⟩ (wk [1,1,0] (fr (Yc fl))) ?_)))
 rintro m F h ⟨k,zs,u,Yj,Zg,Zz,rfl,rfl,rfl⟩
 refine Ym 3 [0] (iw (Ye s.args) (Y3 ((k:Int)<(s.args.length:Int)) (fun Za=>?_) (fun Za=>?_)))
 ·obtain ⟨a1,ha1⟩:=Zt s.args k om
  have har:=hf.args a1 (Y4 ha1)
  refine ak (aq (ab 1 (Zl 4 [1,0] (Zu [] (Ie n us s k a1 (hnum:=hf.call) (ha:=ha1)) (Z0 1 (ib (b:=JG n us s.op s.num a1 k) 26 (fun Ze=>?_) (fun Ze=>?_)))))))
  ·refine ZB 5 [1,0] (ic [] (PJ n s k mm os ls) ?_)
   rintro _ _ ⟨wr1,rfl,rfl⟩
   refine YC wr1 Iff.rfl (fun Zj=>?_) (fun Zj=>?_)
   ·exact az (ZB 4 [0] (Zo (Zk none (k:Int) 1 (Y8 ha1)) (Z0 1 (iL (Z6 [a1]) 1 1 fun v2=>ZQ 0 [(40,Z4 [a1])] (ip 3 (Z6 (zs++[a1])) (Z6 zs) (Z6 [a1]) u none 1 (YD _) (YD _) (W1 _) (by simp<;>omega) (by simp [W5,Z6]) fun v3=>Z1 (az (Z0 1 (ZD k (Z1 (ZI ⟨k+1,(zs++[a1]),v3,ob,ob,(by first|exact Zz|exact XF Zz (Y4 ha1)),rfl,rfl,rfl⟩ (wk [2,2,0] (fr (ZK k fl)))))))))))))
   exact ak (az (Z0 1 (ZD k (Z1 (ZI ⟨k+1,zs,u,ob,ob,(by first|exact Zz|exact XF Zz (Y4 ha1)),rfl,rfl,rfl⟩ (Zw 3 (fr (ZK k fl))))))))
  exact Z1 (V9 (ak (az (Z0 1 (ZD k (Z1 (ZI ⟨k+1,zs,u,ob,ob,(by first|exact Zz|exact XF Zz (Y4 ha1)),rfl,rfl,rfl⟩ (Zw 3 (fr (ZK k fl))))))))))
 exact ax 0 (ar (Zp (r2 [] [ZC zs u] ⟨zs,rfl,rfl,⟨by omega,Zz⟩⟩ (Zd.forget _ _))))
theorem Z9l (n:ZG) (us:LI) (s:Z5) (os:LI) (ls:LI) (mm:Nat) (hn:Xw n:=by exact ob) (hf:FS n.decls n.routines.length mm s:=by exact ob) (hvl:us.length=mm:=by exact ob) (hm:mm<=100000000:=by exact ob) (ho:os.length<=100000000:=by exact ob) (hl:ls.length<=100000000:=by exact ob):Zm 193 [YF n,Z4 us,X4 s,Z4 os,Z4 ls] [] (fun r h=>∃(zs:LI) (v:Value),r=ZC zs v/\h=[.tail v 1]/\zs.length<=os.length/\∀z∈zs,z∈os):=by
 have hal:=hf.alen
 refine ZE 55 Tryz.func193 (ar (iA (X8 n) fun b1=>iA (Wd s) fun b2=>Z1 (Ym 4 [0] (ib (b:=(s.op==7)) 16 (fun Ze=>?_) (fun Ze=>?_)))))
 ·refine Z1 (Vo (Yf 2 (ic [] (PC os ls) ?_)))
  rintro _ _ ⟨zs1,v1,rfl,rfl,Yt⟩
  have hco:=Yt
  exact Zp (r1 [0] ⟨zs1,v1,rfl,rfl,(by first|exact hco|exact ⟨by omega,Zz⟩)⟩)
 refine V2 [0] (ac (s.op==8) Zi (fun Za=>?_) (fun Za=>?_))
 ·refine Yf 2 (ic [] (PC os ls) ?_)
  rintro _ _ ⟨zs2,v2,rfl,rfl,X2⟩
  have hco:=X2
  exact Zp (r1 [0] ⟨zs2,v2,rfl,rfl,(by first|exact hco|exact ⟨by omega,Zz⟩)⟩)
 refine ak (Yf 1 (ic [] (WX os) ?_))
 rintro _ _ ⟨v3,rfl,rfl⟩
 refine Z1 (Y6 (ab 0 (Y2 (fun fz gz m F h=>∃(k:Nat) (zs:LI) (u:Value),(k<=s.args.length)/\(zs.length<=os.length)/\(∀z∈zs,z∈os)/\F=sF [1,3,4,5,7] fz [(11,ZC zs u),(12,.i k)]/\h=[Zf gz 1,Zf gz 2,.tail u 1]/\m=s.args.length-k) _ _ _ ⟨0,os,v3,ob,ob,(fun z hz=>hz),rfl,rfl,rfl⟩ (wk [1,1,0] (fr (Yc fl))) ?_)))
 rintro m F h ⟨k,zs,u,Yj,Zg,Zz,rfl,rfl,rfl⟩
 refine Ym 3 [0] (iw (Ye s.args) (Y3 ((k:Int)<(s.args.length:Int)) (fun Zj=>?_) (fun Zj=>?_)))
 ·obtain ⟨a1,ha1⟩:=Zt s.args k om
  have har:=hf.args a1 (Y4 ha1)
  refine ak (aq (ab 1 (Zl 4 [1,0] (Zu [] (Ie n us s k a1 (hnum:=hf.call) (ha:=ha1)) (Z0 1 (ib (b:=JG n us s.op s.num a1 k) 38 (fun ZH=>?_) (fun ZH=>?_)))))))
  ·refine ZB 5 [1,0] (ic [] (PJ n s k mm os ls) ?_)
   rintro _ _ ⟨wr1,rfl,rfl⟩
   refine YC (!wr1) (p:=¬(wr1=true)) (Ys Iff.rfl) (fun ZF=>?_) (fun ZF=>?_)
   ·refine az (ZB 4 [0] (Zo (Zk none (k:Int) 1 (Y8 ha1)) (ZQ 1 [(47,Z4 zs)] (ic [] (PQ zs a1) ?_))))
    rintro _ _ ⟨v4,rfl,rfl⟩
    exact Z1 (az (Z0 1 (ZD k (Z1 (ZI ⟨k+1,(Q8 zs a1),v4,ob,(by first|exact Zg|exact Vm (Fx _ _) Zg),(by first|exact Zz|exact (fun z hz=>Zz z (Ed hz))),rfl,rfl,rfl⟩ (wk [1,1,0] (fr (ZK k fl))))))))
   exact ak (az (Z0 1 (ZD k (Z1 (ZI ⟨k+1,zs,u,ob,(by first|exact Zg|exact Vm (Fx _ _) Zg),(by first|exact Zz|exact (fun z hz=>Zz z (Ed hz))),rfl,rfl,rfl⟩ (Zw 3 (fr (ZK k fl))))))))
  exact Z1 (V9 (ak (az (Z0 1 (ZD k (Z1 (ZI ⟨k+1,zs,u,ob,(by first|exact Zg|exact Vm (Fx _ _) Zg),(by first|exact Zz|exact (fun z hz=>Zz z (Ed hz))),rfl,rfl,rfl⟩ (Zw 3 (fr (ZK k fl))))))))))
 exact ax 0 (ar (Zp (r1 [2] ⟨zs,u,rfl,rfl,(by first|exact hco|exact ⟨by omega,Zz⟩)⟩)))
theorem Z9m (n:ZG) (s:Z5) (os:LI) (ls:LI) (mm:Nat) (hn:Xw n:=by exact ob) (hf:FS n.decls n.routines.length mm s:=by exact ob) (ho:os.length<=100000000:=by exact ob) (hl:ls.length<=100000000:=by exact ob):Zm 194 [YF n,X4 s,Z4 os,Z4 ls] [] (fun r h=>∃(zs:LI),r=Z4 zs/\h=[]/\zs.length<=s.args.length/\∀z∈zs,z∈s.args):=by
 have hal:=hf.alen
 refine ZE 50 Tryz.func194 (ar (iA (X8 n) fun b1=>iA (Wd s) fun b2=>Z1 (ar (iL (Z6 []) 0 1 fun v1=>?_))))
 refine Z1 (Y6 (ab 0 (Y2 (fun fz gz m F h=>∃(k:Nat) (zs:LI) (u:Value),(k<=s.args.length)/\(zs.length<=k)/\(∀z∈zs,z∈s.args)/\F=sF [2,3,4,5] fz [(9,ZC zs u),(10,.i k)]/\h=[Zf gz 1,Zf gz 2,.tail u 1]/\m=s.args.length-k) _ _ _ ⟨0,[],v1,ob,ob,(fun z hz=>by cases hz),rfl,rfl,rfl⟩ (wk [1,1,0] (fr (Yc fl))) ?_)))
 rintro m F h ⟨k,zs,u,Yj,Zg,Zz,rfl,rfl,rfl⟩
 refine Ym 3 [0] (iw (Ye s.args) (Y3 ((k:Int)<(s.args.length:Int)) (fun Za=>?_) (fun Za=>?_)))
 ·obtain ⟨a1,ha1⟩:=Zt s.args k om
  have har:=hf.args a1 (Y4 ha1)
  refine ak (aq (ab 1 (Zl 3 [1,0] (Zu [] (FT n s k (hnum:=hf.call)) (Xc 13 [2,3,4,5,9,10] [(31,.b (T2 n s.op s.num k&&(decide (a1∈os))))] (fun gz=>gz) ?_ (fun hj1=>?_))))))
  ·refine Xx [2,3,4,5,9,10] [(41,.b ((T2 n s.op s.num k&&(decide (a1∈os)))&&(!(decide (a1∈ls)))))] (fun gz=>gz) ?_ ?_
   ·refine Z0 1 (ib (b:=(T2 n s.op s.num k&&(decide (a1∈os)))) 32 (fun Ze=>?_) (fun Ze=>?_))
    ·exact ZB 4 [0] (Zo (Zk none (k:Int) 1 (Y8 ha1)) (Z0 1 (Zu [] (UT ls a1) (Z1 (Zw 3 (Zq (!(decide (a1∈ls))) Ze fl))))))
    exact Z1 (Zw 3 (Zq false Ze fl))
   refine ac ((T2 n s.op s.num k&&(decide (a1∈os)))&&(!(decide (a1∈ls)))) (p:=((T2 n s.op s.num k=true)/\(a1∈os))/\(¬(a1∈ls))) (YI (YI Iff.rfl dq) (Ys dq)) (fun Zj=>?_) (fun Zj=>?_)
   ·refine az (ZB 4 [0] (Zo (Zk none (k:Int) 1 (Y8 ha1)) (ZQ 1 [(42,Z4 zs)] (ic [] (EW zs a1) ?_))))
    rintro _ _ ⟨v2,rfl,rfl⟩
    exact Z1 (az (Z0 1 (ZD k (Z1 (ZI ⟨k+1,(Uo zs a1),v2,ob,(by first|omega|(have:=DY zs a1;omega)),(by first|exact Zz|exact (fun z hz=>(Ff.1 hz).elim (Zz z) (fun e=>e▸Y4 ha1))),rfl,rfl,rfl⟩ (wk [1,1,0] (fr (ZK k fl))))))))
   exact ak (az (Z0 1 (ZD k (Z1 (ZI ⟨k+1,zs,u,ob,(by first|omega|(have:=DY zs a1;omega)),(by first|exact Zz|exact (fun z hz=>(Ff.1 hz).elim (Zz z) (fun e=>e▸Y4 ha1))),rfl,rfl,rfl⟩ (Zw 3 (fr (ZK k fl))))))))
  refine Z0 1 (ib (b:=T2 n s.op s.num k) 23 (fun ZH=>?_) (fun ZH=>?_))
  ·exact ZB 4 [0] (Zo (Zk none (k:Int) 1 (Y8 ha1)) (Z0 1 (Zu [] (UT os a1) (Z0 1 (Ya (Zw 3 (Zq (decide (a1∈os)) ZH fl)) hj1)))))
  exact Z0 8 (Ya (Zw 3 (Zq false ZH fl)) hj1)
 exact ax 0 (ar (Zp (r2 [] [ZC zs u] ⟨zs,rfl,rfl,⟨by omega,Zz⟩⟩ (Zd.forget _ _))))
theorem En (rt:YE) (b:Z8) (hp:rt.params.length<=4294967296:=by exact ob) (hl:rt.lent.length<=4294967296:=by exact ob):Zm 119 [Af rt,Yl b] [] (Yw (Af (YE.mk rt.params rt.lent rt.result b))):=by
 refine ZE 15 Tryz.func119 (ar (iA (JV rt) fun b1=>iA (XY b) fun b2=>iA [nl,nl,.i 0,nl,.i 0] fun b3=>ie (aD 11 (ZX 4 11 [0,1,3,4,6,7,8] [2,2,2,1] (Z7 2 (dc 2 [] [1,2,2] [b2,b1,b1] (WX rt.params) ?_))))))
 rintro _ _ ⟨v1,rfl,rfl⟩
 refine Z7 5 (dc 5 [] [1,2] [b2,b1] (WX rt.lent) ?_)
 rintro _ _ ⟨v2,rfl,rfl⟩
 exact Zs 1 2 [9] (Z7 10 (X0 10 2 [] [] b3 [ZC rt.params v1,ZC rt.lent v2,.i rt.result,Vv b.steps,.i b.result] (de (ZT (r3 [] [.agg [ZC rt.params v1,ZC rt.lent v2,.i rt.result,Vv b.steps,.i b.result]] [0] [(b3,b3)] ⟨rfl,rfl⟩ (Zd.agg (.cons (Zd.sl _ (Yo Z6 ob)) (.cons (Zd.sl _ (Yo Z6 ob)) (.cons li (.cons (Zd.sl _ (Yo ZU ob)) (.cons li .nil)))))))))))
theorem Z91 (n:ZG) (us:LI) (fds:LI) (kd:Z8) (os:LI) (ls:LI) (mm:Nat) (bb:Nat) (hn:Xw n:=by exact ob) (hf:fB n.decls n.routines.length (mm+fds.length) kd:=by exact ob) (hop:Vw WS kd:=by exact ob) (hul:us.length=mm:=by exact ob) (hfl:fds.length<=3:=by exact ob) (hm:mm+3+4*kd.sz<=100000:=by exact ob) (hor:∀v∈os,0<=v/\v<(mm:Int)) (hol:os.length+3+4*kd.sz<=730:=by exact ob) (hal:ls.length+2000*kd.sz<=1000000:=by exact ob) (hbz:kd.sz<=500:=by exact ob) (hb:kd.sz<bb:=by exact ob) (ih:∀(us2:LI) (b2:Z8) (os2:LI) (as2:LI) (m2:Nat),(fB n.decls n.routines.length m2 b2)->(Vw WS b2)->(us2.length=m2)->(m2+4*b2.sz<=100000)->(∀v∈os2,0<=v/\v<(m2:Int))->(os2.length+4*b2.sz<=730)->(as2.length+2000*b2.sz<=1000000)->(b2.sz<=500)->(b2.sz<bb)->Zm 156 [YF n,Z4 us2,Yl b2,Z4 os2,Z4 as2] [] (fun r h=>∃(y:Z8),r=Yl y/\h=[]/\KB n.decls n.routines.length m2 y (4500*b2.sz))):Zm 223 [YF n,Z4 us,Z4 fds,Yl kd,Z4 os,Z4 ls] [] (fun r h=>∃(y:Z8),r=Yl y/\h=[]/\KB n.decls n.routines.length (mm+fds.length) y (4500*kd.sz+1470)):=by
 refine ZE 115 Tryz.func223 (ar (iA (X8 n) fun b1=>iA (XY kd) fun b2=>iA [nl,.i 0] fun b3=>ie (Yf 1 (iw (Ye us) (Z1 (Yf 2 (ic [] (TE us fds) ?_)))))))
 rintro _ _ ⟨v1,rfl,rfl⟩
 refine Z1 (Zl 2 [2] (io (.i (((us++fds).length:Nat):Int)) (.i (((Z6 (us++fds)).length:Nat):Int)) (li (by rw [Ye])) (Zu [] (Z1q kd (((us++fds).length:Nat):Int)) ?_)))
 have hub:=In (n:=(((us++fds).length:Nat):Int)) kd []
 simp only [Yx,Wf] at hub
 refine Z1 (ar (iL (Z6 []) 0 1 fun v2=>Z1 (ar (iL (Z6 []) 0 1 fun v3=>?_))))
 refine Z1 (Y6 (ab 0 (Y2 (fun fz gz m F h=>∃(k:Nat) (ms:LI) (u:Value) (dr:LI) (w:Value),(k<=os.length)/\(ms.length<=k)/\(dr.length<=k)/\(∀v∈ms,0<=v/\v<(mm:Int))/\(∀v∈dr,0<=v/\v<(mm:Int))/\F=sF [2,4,5,6,9,12,13,15] fz [(14,Z4 (us++fds)),(16,ZC ms u),(17,ZC dr w),(18,.i k)]/\h=[Zf gz 3,Zf gz 4,Zf gz 5,.tail u 1,.tail w 1]/\m=os.length-k) _ _ _ ⟨0,[],v2,[],v3,ob,ob,ob,(fun v hv=>by cases hv),(fun v hv=>by cases hv),rfl,rfl,rfl⟩ (wk [3,3,3,1,0] (fc (x:=ZC (us++fds) v1) (Zd.forget _ _) (fw (Yc fl)))) ?_)))
 rintro m F h ⟨k,ms,u,dr,w,Yj,Zg,Zz,YN,Wh,rfl,rfl,rfl⟩
 refine YQ 2 (iw (Ye os) (Y3 ((k:Int)<(os.length:Int)) (fun Za=>?_) (fun Za=>?_)))
 ·obtain ⟨o1,ho1⟩:=Zt os k om
  have hor1:=hor o1 (Y4 ho1)
  refine ak (aq (ab 1 (Yf 3 (Zo (Zk none (k:Int) 1 (Y8 ho1)) (Z0 1 (Zu [] (UT (T6 (((us++fds).length:Nat):Int) kd []) o1) (Xx [2,4,5,6,9,12,13,14,15,16,17,18] [(53,.b ((decide (o1∈(T6 (((us++fds).length:Nat):Int) kd [])))||(decide (o1∈ls))))] (fun gz=>gz) ?_ ?_)))))))
  ·refine Z0 1 (ib (b:=(decide (o1∈(T6 (((us++fds).length:Nat):Int) kd [])))) 46 (fun Ze=>?_) (fun Ze=>?_))
   ·exact Z1 (Zw 5 (Zq true Ze fl))
   exact Z0 3 (Zo (Zk none (k:Int) 1 (Y8 ho1)) (Z0 1 (Zu [] (UT ls o1) (Z1 (Zw 5 (Zq (decide (o1∈ls)) Ze fl))))))
  refine ac ((decide (o1∈(T6 (((us++fds).length:Nat):Int) kd [])))||(decide (o1∈ls))) (p:=(o1∈(T6 (((us++fds).length:Nat):Int) kd []))∨(o1∈ls)) (Y1 dq dq) (fun Zj=>?_) (fun Zj=>?_)
  ·exact az (Z0 3 (Zo (Zk none (k:Int) 1 (Y8 ho1)) (Z0 1 (iL (Z6 [o1]) 1 1 fun v4=>ZQ 0 [(59,Z4 [o1])] (ip 4 (Z6 (ms++[o1])) (Z6 ms) (Z6 [o1]) u none 1 (YD _) (YD _) (W1 _) (by simp<;>omega) (by simp [W5,Z6]) fun v5=>Z1 (az (Z0 1 (ZD k (Z1 (ZI ⟨k+1,(ms++[o1]),v5,dr,w,ob,ob,ob,(by first|exact YN|exact XF YN hor1),(by first|exact Wh|exact XF Wh hor1),rfl,rfl,rfl⟩ (wk [2,2,2,0,1] (fw (fr (ZK k fl))))))))))))))
  exact az (Z0 3 (Zo (Zk none (k:Int) 1 (Y8 ho1)) (Z0 1 (iL (Z6 [o1]) 1 1 fun v6=>ZQ 0 [(66,Z4 [o1])] (ip 5 (Z6 (dr++[o1])) (Z6 dr) (Z6 [o1]) w none 1 (YD _) (YD _) (W1 _) (by simp<;>omega) (by simp [W5,Z6]) fun v7=>Z1 (az (Z0 1 (ZD k (Z1 (ZI ⟨k+1,ms,u,(dr++[o1]),v7,ob,ob,ob,(by first|exact YN|exact XF YN hor1),(by first|exact Wh|exact XF Wh hor1),rfl,rfl,rfl⟩ (wk [2,2,2,2,0] (fw (fr (ZK k fl))))))))))))))
 refine ax 0 (ar (iL (Z6 []) 0 1 fun v8=>?_))
 refine Z1 (Y6 (ab 2 (Y2 (fun fz gz m F h=>∃(k:Nat) (ps:LI) (w2:Value),(k<=fds.length)/\(ps.length<=k)/\(∀v∈ps,(mm:Int)<=v/\v<((mm+fds.length:Nat):Int))/\F=sF [2,5,6,9,12,13,14,15,16,17] fz [(19,ZC ps w2),(20,.i k)]/\h=[Zf gz 1,Zf gz 2,Zf gz 3,Zf gz 4,Zf gz 5,.tail w2 1]/\m=fds.length-k) _ _ _ ⟨0,[],v8,ob,ob,(fun v hv=>by cases hv),rfl,rfl,rfl⟩ (wk [1,1,1,1,1,0] (fr (Yc fl))) ?_)))
 rintro m F h ⟨k,ps,w2,Vp,Xp,XS,rfl,rfl,rfl⟩
 refine YQ 2 (iw (Ye fds) (Y3 ((k:Int)<(fds.length:Int)) (fun ZF=>?_) (fun ZF=>?_)))
 ·refine ak (aq (ab 3 (Yf 2 ?_)))
  obtain ⟨x1,Z3⟩:=Zt fds k om
  refine Zo (Zk none (k:Int) 1 (Y8 Z3)) (Xx [2,5,6,9,12,13,14,15,16,17,19,20] [(86,.b ((x1 != 0)&&(decide (((us.length+k:Nat):Int)∈(T6 (((us++fds).length:Nat):Int) kd [])))))] (fun gz=>gz) ?_ ?_)
  ·refine Z0 3 (ib (b:=(x1 != 0)) 80 (fun ZH=>?_) (fun ZH=>?_))
   ·exact Z0 3 (ia (((us.length+k:Nat):Int)) (((us.length:Int))+((k:Int))) (Zu [] (UT (T6 (((us++fds).length:Nat):Int) kd []) ((us.length+k:Nat):Int)) (Z1 (Zw 6 (Zq (decide (((us.length+k:Nat):Int)∈(T6 (((us++fds).length:Nat):Int) kd []))) ZH fl)))))
   exact Z1 (Zw 6 (Zq false ZH fl))
  refine ac ((x1 != 0)&&(decide (((us.length+k:Nat):Int)∈(T6 (((us++fds).length:Nat):Int) kd [])))) (p:=(x1≠0)/\(((us.length+k:Nat):Int)∈(T6 (((us++fds).length:Nat):Int) kd []))) (YI YB dq) (fun Yh=>?_) (fun Yh=>?_)
  ·exact az (Z0 3 (ia (((us.length+k:Nat):Int)) (((us.length:Int))+((k:Int))) (iL (Z6 [((us.length+k:Nat):Int)]) 1 1 fun v9=>ZQ 0 [(91,Z4 [((us.length+k:Nat):Int)])] (ip 6 (Z6 (ps++[((us.length+k:Nat):Int)])) (Z6 ps) (Z6 [((us.length+k:Nat):Int)]) w2 none 1 (YD _) (YD _) (W1 _) (by simp<;>omega) (by simp [W5,Z6]) fun v10=>Z1 (az (Z0 1 (ZD k (Z1 (ZI ⟨k+1,(ps++[((us.length+k:Nat):Int)]),v10,ob,ob,(by first|exact XS|exact XF XS om),rfl,rfl,rfl⟩ (wk [2,2,2,2,2,0] (fr (ZK k fl))))))))))))
  exact ak (az (Z0 1 (ZD k (Z1 (ZI ⟨k+1,ps,w2,ob,ob,(by first|exact XS|exact XF XS om),rfl,rfl,rfl⟩ (Zw 6 (fr (ZK k fl))))))))
 refine ax 2 (ar (ZQ 1 [(93,Z4 ps)] (ic [] (KX 14 ps) ?_)))
 rintro _ _ ⟨v11,rfl,rfl⟩
 refine ZQ 1 [(95,Z4 dr)] (ic [] (KX 15 dr) ?_)
 rintro _ _ ⟨v12,rfl,rfl⟩
 refine ZQ 0 [(96,Vv (dr.map (Zv 15)))] (ip 1 (ZU ((ps.map (Zv 14))++(dr.map (Zv 15)))) (ZU (ps.map (Zv 14))) (ZU (dr.map (Zv 15))) v11 none 5 (XG _) (XG _) (Ut _) (by simp<;>omega) (by simp [VA,ZU]) fun v13=>?_)
 refine Z1 (aD 12 (ZX 5 12 [0,1,2,3,4,6,7] [4,3] (BN (fun fz gz F h=>∃(y1:Z8) (b4:Nat) (zs1:LI),(zs1.length<=ls.length/\∀z∈zs1,z∈ls)/\(KB n.decls n.routines.length (mm+fds.length) y1 (4500*kd.sz))/\F=sF [12,21] fz [(22,.p b4 0)]/\h=[.obj b4 (XY y1),Zf gz 0,Zf gz 1,Zf gz 2,Zf gz 3,Zf gz 4,Zf gz 6,Zf gz 7]) ?_ ?_)))
 ·refine Us 5 10 ?_ ?_
  ·refine dp 5 5 [1,2] [b2,b1] (Z6 (ms++ps)) (Z6 ms) (Z6 ps) u (some w2) 1 (YD _) (YD _) (W1 _) (by simp<;>omega) (by simp [W5,Z6]) fun v14=>Us 8 10 ?_ ?_
   ·refine dc 8 [] [1,2] [b2,b1] (LT ls (us.length:Int)) ?_
    rintro _ _ ⟨zs1,v15,rfl,rfl,Xk⟩
    have hbl:=Xk
    refine Yq 3 3 [] [(103,Z4 (ms++ps)),(106,Z4 zs1)] (Us 9 10 ?_ ?_)
    ·refine dc 9 [] [] [] (ih (us++fds) kd (ms++ps) zs1 (mm+fds.length) hf hop (by rw [ZV,hul]) ob (fun v hv=>by rcases Xf.1 hv with h|h;exact (by have:=YN v h;omega);exact (by have:=XS v h;omega)) (by rw [ZV];omega) ob ob ob) ?_
     rintro _ _ ⟨y1,rfl,rfl,XU⟩
     have hkb:=XU
     have hkl:=hkb.len
     exact Z7 10 (dA 10 [] [] [nl,.i 0] fun b4=>Z7 11 (X0 11 0 [] [] b4 (XY y1) (de (ZJ ⟨_,b4,_,(by assumption),(by assumption),rfl,rfl⟩ (wk [0,2,2,2,2,2,2,2] fl)))))
    refine dA 10 [1,2] [b2,b1] [nl,.i 0] fun b5=>Z7 9 (dc 9 [] [] [] (ih (us++fds) kd (ms++ps) zs1 (mm+fds.length) hf hop (by rw [ZV,hul]) ob (fun v hv=>by rcases Xf.1 hv with h|h;exact (by have:=YN v h;omega);exact (by have:=XS v h;omega)) (by rw [ZV];omega) ob ob ob) ?_)
    rintro _ _ ⟨y2,rfl,rfl,Wo⟩
    have hkb:=Wo
    have hkl:=hkb.len
    exact Z7 11 (X0 11 0 [] [] b5 (XY y2) (de (ZJ ⟨_,b5,_,(by assumption),(by assumption),rfl,rfl⟩ (wk [0,2,2,2,2,2,2,2] fl))))
   refine dA 10 [1,2] [b2,b1] [nl,.i 0] fun b6=>Z7 8 (dc 8 [] [2,3] [b2,b1] (LT ls (us.length:Int)) ?_)
   rintro _ _ ⟨zs2,v16,rfl,rfl,Vd⟩
   have hbl:=Vd
   refine Yq 2 2 [] [(103,Z4 (ms++ps)),(106,Z4 zs2)] (Z7 9 (dc 9 [] [] [] (ih (us++fds) kd (ms++ps) zs2 (mm+fds.length) hf hop (by rw [ZV,hul]) ob (fun v hv=>by rcases Xf.1 hv with h|h;exact (by have:=YN v h;omega);exact (by have:=XS v h;omega)) (by rw [ZV];omega) ob ob ob) ?_))
   rintro _ _ ⟨y3,rfl,rfl,VK⟩
   have hkb:=VK
   have hkl:=hkb.len
   exact Z7 11 (X0 11 1 [] [] b6 (XY y3) (de (ZJ ⟨_,b6,_,(by assumption),(by assumption),rfl,rfl⟩ (wk [0,2,2,2,2,2,2,2] fl))))
  refine dA 10 [1,2] [b2,b1] [nl,.i 0] fun b7=>Yq 4 4 [] [(102,Z4 ps)] (Z7 5 (dp 5 6 [2,3] [b2,b1] (Z6 (ms++ps)) (Z6 ms) (Z6 ps) u none 1 (YD _) (YD _) (W1 _) (by simp<;>omega) (by simp [W5,Z6]) fun v17=>Z7 8 (dc 8 [] [2,3] [b2,b1] (LT ls (us.length:Int)) ?_)))
  rintro _ _ ⟨zs3,v18,rfl,rfl,Tn⟩
  have hbl:=Tn
  refine Yq 2 2 [] [(103,Z4 (ms++ps)),(106,Z4 zs3)] (Z7 9 (dc 9 [] [] [] (ih (us++fds) kd (ms++ps) zs3 (mm+fds.length) hf hop (by rw [ZV,hul]) ob (fun v hv=>by rcases Xf.1 hv with h|h;exact (by have:=YN v h;omega);exact (by have:=XS v h;omega)) (by rw [ZV];omega) ob ob ob) ?_))
  rintro _ _ ⟨y4,rfl,rfl,TR⟩
  have hkb:=TR
  have hkl:=hkb.len
  exact Z7 11 (X0 11 2 [] [] b7 (XY y4) (de (ZJ ⟨_,b7,_,(by assumption),(by assumption),rfl,rfl⟩ (wk [0,2,2,2,2,2,2,2] fl))))
 rintro F h ⟨y1,b4,zs1,Xk,XU,rfl,rfl⟩
 have hbl:=Xk
 have hkb:=XU
 have hkl:=hkb.len
 exact aD 8 (ZX 3 8 [0,1,2,4,5] [0,0] (Z7 3 (dp 3 1 [0] [b4] (ZU (((ps.map (Zv 14))++(dr.map (Zv 15)))++y1.steps)) (ZU ((ps.map (Zv 14))++(dr.map (Zv 15)))) (ZU y1.steps) v13 none 5 (XG _) (XG _) (Ut _) (by simp<;>omega) (by simp [VA,ZU]) fun v19=>Zs 1 2 [6] (Z7 7 (X0 7 3 [] [] b3 [Xi (((ps.map (Zv 14))++(dr.map (Zv 15)))++y1.steps) v19,.i y1.result] (de (ZT (r3 [] [.agg [Xi (((ps.map (Zv 14))++(dr.map (Zv 15)))++y1.steps) v19,.i y1.result]] [0] [(b3,b3)] ⟨(Z8.mk (((ps.map (Zv 14))++(dr.map (Zv 15)))++y1.steps) y1.result),rfl,rfl,((hkb.put (fun v hv=>by have:=XS v hv;omega) (fun v hv=>by have:=Wh v hv;omega)).le om)⟩ (Zd.agg (.cons (Zd.forget _ _) (.cons (lr _) .nil)))))))))))
theorem Z92 (n:ZG) (us:LI) (s:Z5) (os:LI) (ls:LI) (mm:Nat) (bb:Nat) (hn:Xw n:=by exact ob) (hf:FS n.decls n.routines.length mm s:=by exact ob) (h11:s.op<=11:=by exact ob) (hop:Kj WS s.kids:=by exact ob) (hul:us.length=mm:=by exact ob) (hm:mm+4*s.sz<=100000:=by exact ob) (hor:∀v∈os,0<=v/\v<(mm:Int)) (hol:os.length+4*s.sz<=730:=by exact ob) (hal:ls.length+2000*s.sz<=1000000:=by exact ob) (hbz:s.sz<=500:=by exact ob) (hb:s.sz<=bb:=by exact ob) (ih:∀(us2:LI) (b2:Z8) (os2:LI) (as2:LI) (m2:Nat),(fB n.decls n.routines.length m2 b2)->(Vw WS b2)->(us2.length=m2)->(m2+4*b2.sz<=100000)->(∀v∈os2,0<=v/\v<(m2:Int))->(os2.length+4*b2.sz<=730)->(as2.length+2000*b2.sz<=1000000)->(b2.sz<=500)->(b2.sz<bb)->Zm 156 [YF n,Z4 us2,Yl b2,Z4 os2,Z4 as2] [] (fun r h=>∃(y:Z8),r=Yl y/\h=[]/\KB n.decls n.routines.length m2 y (4500*b2.sz))):Zm 192 [YF n,Z4 us,X4 s,Z4 os,Z4 ls] [] (fun r h=>∃(y:Z5),r=X4 y/\h=[]/\KT n.decls n.routines.length mm y (4500*YU s.kids+4420)):=by
 have Xq:=hn.decls
 have hkf:=hf.few Xq
 have hsa:=hf.alen
 refine ZE 62 Tryz.func192 (ar (iA (X8 n) fun b1=>iA (Wd s) fun b2=>iA [.i 0,.i 0,.i 0,nl,nl] fun b3=>ie (ar (iL (XP []) 0 2 fun v1=>Z1 (Zl 4 [3,2] (ic [] (Jr n.decls s.num) ?_))))))
 rintro _ _ ⟨v2,rfl,rfl⟩
 refine Z1 (Y6 (ab 0 (Y2 (fun fz gz m F h=>∃(k:Nat) (ks:List Z8) (u:Value),(k<=s.kids.length)/\(ks.length=k)/\(KK n.decls n.routines.length (V3 n.decls s.op s.num mm) ks (4500*YU (s.kids.take k)+1470*k))/\F=sF [1,3,4,5,7,10] fz [(11,Qw ks u),(12,Z4 (ZY n.decls s.num)),(13,.i k)]/\h=[Zf gz 2,Zf gz 3,Zf gz 4,.tail u 2]/\m=s.kids.length-k) _ _ _ ⟨0,[],v1,ob,ob,(KK.nil.le (QB _)),rfl,rfl,rfl⟩ (wk [2,2,2,1] (fr (fc (x:=ZC (ZY n.decls s.num) v2) (Zd.forget _ _) (Yc fl)))) ?_)))
 rintro m F h ⟨k,ks,u,Yj,Zg,Zz,rfl,rfl,rfl⟩
 refine Ym 3 [1] (iw (KE s.kids) (Y3 ((k:Int)<(s.kids.length:Int)) (fun Za=>?_) (fun Za=>?_)))
 ·refine ak (aq (ab 1 (ar (iL (Z6 []) 0 1 fun v3=>?_))))
  refine Z1 (Xj (V2 [2] (XA (fun fz gz F h=>∃(fds:LI),(V3 n.decls s.op s.num mm k=mm+fds.length)/\(fds.length<=3)/\F=sF [1,3,4,5,7,10,11,12,13] fz [(14,Z4 fds)]/\h=[Zf gz 1,Zf gz 2,Zf gz 3,Zf gz 4]) ?_ ?_)))
  ·refine ac (s.op==8) Zi (fun Zj=>?_) (fun Zj=>?_)
   ·refine aE 8 (ZX 4 8 [0,1,2,3] [3] ?_)
    obtain ⟨x1,Z3⟩:=Zt (ZY n.decls s.num) k (by have:=hf.k8 (by assumption);omega)
    have hcf:=Vq Xq x1
    exact dx 4 (Zk none (k:Int) 1 (Y8 Z3)) (Zs 2 3 [5] (Z7 6 (YK 6 [] [] [] (Qy n.decls x1) (Zs 0 1 [7] (de (ZJ ⟨ZO n.decls x1,(MX (by assumption) Z3),ob,rfl,rfl⟩ (wk [1,1,1,1] fl)))))))
   exact ak (ZJ ⟨[],(by rw [MY (by assumption)];rfl),ob,rfl,rfl⟩ (wk [1,1,1,1] fl))
  rintro F h ⟨fds,VL,Bm,rfl,rfl⟩
  refine aE 15 (ZX 8 15 [0,1,2,3,4,5,6] [2,1] ?_)
  obtain ⟨x2,Zy⟩:=Zt s.kids k om
  have hkz:=Qu Zy
  have hfk:=BR hf.kids Zy
  rw [Wf,VL] at hfk
  have hok:=Eb.1 hop x2 (Y4 Zy)
  have hbt:=Gs Zy
  have hba:=Gt Zy
  refine dx 7 (Zk none (k:Int) 2 (T0 Zy)) (Zs 4 7 [8,9,10] (Z7 11 (dc 11 [] [] [] (Z91 n us fds x2 os ls mm bb (hf:=hfk) (hop:=hok) (hor:=hor) (ih:=ih)) ?_)))
  rintro _ _ ⟨y1,rfl,rfl,Y9⟩
  have hkb:=Y9
  exact Z7 12 (WG 12 [] [] [Yl y1] (XP [y1]) (K6 [y1]).symm 1 2 fun v4=>Yq 2 2 [] [(51,JZ [y1])] (Z7 13 (dp 13 4 [] [] (XP (ks++[y1])) (XP ks) (XP [y1]) u none 2 (Jb _) (Jb _) (GG _) (by simp<;>omega) (by simp [CJ,XP]) fun v5=>Zs 0 1 [14] (de (az (Z0 1 (ZD k (Z1 (ZI ⟨k+1,(ks++[y1]),v5,ob,ob,((Zz.snoc Zg (by rw [VL];exact hkb)).le om),rfl,rfl,rfl⟩ (wk [2,2,2,0] (fw (ZK k fl))))))))))))
 refine ax 0 (aD 10 (ZX 3 10 [0,1,2,3,4,5,7] [1,1,1] (Z7 6 (dc 6 [] [1,1] [b2,b2] (WX s.args) ?_))))
 rintro _ _ ⟨v6,rfl,rfl⟩
 exact Zs 1 2 [8] (Z7 9 (X0 9 1 [] [] b3 [.i s.op,.i s.num,.i 0,ZC s.args v6,Qw ks u] (de (ZT (r3 [] [.agg [.i s.op,.i s.num,.i 0,ZC s.args v6,Qw ks u]] [0] [(b3,b3)] ⟨(Z5.mk s.op s.num 0 s.args ks),rfl,rfl,((KT.of (into:=0) hf h11 om om Zz).le (by have:=IV (xs:=s.kids) (k:=k) om;omega))⟩ (Zd.agg (.cons (lr _) (.cons (lr _) (.cons (lr _) (.cons (Zd.forget _ _) (.cons (Zd.forget _ _) .nil)))))))))))
theorem Z8z (n:ZG) (us:LI) (b:Z8) (os:LI) (ls:LI) (mm:Nat) (hn:Xw n) (hf:fB n.decls n.routines.length mm b) (hop:Vw WS b) (hul:us.length=mm) (hm:mm+4*b.sz<=100000) (hor:∀v∈os,0<=v/\v<(mm:Int)) (hol:os.length+4*b.sz<=730) (hal:ls.length+2000*b.sz<=1000000) (hbz:b.sz<=500) (ih:∀(us2:LI) (b2:Z8) (os2:LI) (as2:LI) (m2:Nat),(fB n.decls n.routines.length m2 b2)->(Vw WS b2)->(us2.length=m2)->(m2+4*b2.sz<=100000)->(∀v∈os2,0<=v/\v<(m2:Int))->(os2.length+4*b2.sz<=730)->(as2.length+2000*b2.sz<=1000000)->(b2.sz<=500)->(b2.sz<b.sz)->Zm 156 [YF n,Z4 us2,Yl b2,Z4 os2,Z4 as2] [] (fun r h=>∃(y:Z8),r=Yl y/\h=[]/\KB n.decls n.routines.length m2 y (4500*b2.sz))):Zm 156 [YF n,Z4 us,Yl b,Z4 os,Z4 ls] [] (fun r h=>∃(y:Z8),r=Yl y/\h=[]/\KB n.decls n.routines.length mm y (4500*b.sz)):=by
 have Xq:=hn.decls
 have hbe:=b.sz_eq
 have ZM:=UG b
 obtain ⟨hfs,hr1,hr2⟩:=(Jf b).1 hf
 have hos:=Dd.1 ((HI b).1 hop)
 have hdn:=Lf hos
 have hdl:=hdn b.steps.length (X5 _)
 rw [UA] at hdl
 refine ZE 149 Tryz.func156 (ar (iA (X8 n) fun b1=>iA (XY b) fun b2=>iA [nl,.i 0] fun b3=>ie (ar (iL (ZU []) 0 5 fun v1=>Z1 (Yf 1 (ic [] (WX us) ?_))))))
 rintro _ _ ⟨v2,rfl,rfl⟩
 refine Z1 (Yf 1 (ic [] (WX os) ?_))
 rintro _ _ ⟨v3,rfl,rfl⟩
 refine Z1 (Y6 (ab 0 (Y2 (fun fz gz m F h=>∃(k:Nat) (vs:LI) (w:Value) (ms:LI) (u:Value) (xs:List Z5) (v:Value),(k<=b.steps.length)/\(vs.length=mm+k)/\(CL n.decls n.routines.length mm xs k (4500*Yu (b.steps.take k)))/\(ms.length<=os.length+k)/\(∀v∈ms,0<=v/\v<((mm+k:Nat):Int))/\F=sF [4,5,7,10] fz [(11,Xi xs v),(12,ZC vs w),(13,ZC ms u),(14,.i k)]/\h=[Zf gz 3,Zf gz 4,Zf gz 5,.tail u 1,.tail v 5,.tail w 1]/\m=b.steps.length-k) _ _ _ ⟨0,us,v2,os,v3,[],v1,ob,ob,CL.nil,ob,hor,rfl,rfl,rfl⟩ (wk [3,3,3,0,1,0] (fw (fr (Yc fl)))) ?_)))
 rintro m F h ⟨k,vs,w,ms,u,xs,v,Yj,Zg,Zz,YN,Wh,rfl,rfl,rfl⟩
 refine Ym 3 [1] (iw (UI b.steps) (Y3 ((k:Int)<(b.steps.length:Int)) (fun Za=>?_) (fun Za=>?_)))
 ·refine ak (aq (ab 1 (Zl 3 [1] ?_)))
  obtain ⟨x1,Z3⟩:=Zt b.steps k om
  have XO:=Dj Z3
  have hfS:=(Bc x1).1 (DN hfs Z3)
  rw [hdn k om] at hfS
  have hoS:=(Fv x1).1 (hos x1 (Y4 Z3))
  have htk:=If Z3
  have hse:=(x1).sz_eq
  have hal4:=hfS.alen
  have hxl:=Zz.len
  have htl:=KZ b.steps (k+1)
  have hsd:=Z1w b.steps (k+1)
  have hul2:=Nl (n:=((vs.length+1:Nat):Int)) (b.steps.drop (k+1)) []
  have hul3:=Io (n:=((vs.length+1:Nat):Int)) (T7 ((vs.length+1:Nat):Int) (b.steps.drop (k+1)) []) b.result
  simp only [Yx,Wf] at hul2
  refine Zo (Zk none (k:Int) 5 (Va Z3)) (Z0 1 (iA [.i 0,.i 0,.i 0,nl,nl] fun b4=>Zx 0 b4 (Wd x1) (ie (Yf 1 (iw (Ye vs) (Z1 (ar (Kr 3 [(41,Z4 vs)] [3,0] (Zu [] (N6 n vs x1 ob ob) (Z1 (Zl 2 [2] (ia (((vs.length+1:Nat):Int)) (((vs.length:Int))+(1)) (Z0 1 (ZD k (iL (Z6 []) 0 1 fun v4=>ZQ 0 [(49,Z4 [])] (Zu [] (Z1a b ((vs.length+1:Nat):Int) (k+1) [] (hk:=om) (hz:=(by simp only [Yx];omega))) (Z0 1 (ic [] (Za9 (UU ((vs.length+1:Nat):Int) (T7 ((vs.length+1:Nat):Int) (b.steps.drop (k+1)) []) b.result) ls) ?_))))))))))))))))))
  rintro _ _ ⟨zs1,rfl,rfl,Y9⟩
  have hun:=Y9
  refine Z1 (ar (Kr 6 [(55,Z4 vs),(57,Z4 ms)] [4,1] (ic [] (Z96 n vs x1 ms zs1 (mm+k) (hf:=hfS)) ?_)))
  rintro _ _ ⟨zs2,rfl,rfl,Yt⟩
  have hdu:=Yt
  have hq1:=Zz.cnts (op:=14) (.inl rfl) (vs:=zs2) (fun v hv=>hfS.args v (hdu.2 v hv))
  have hl1:=hq1.len
  refine ic [] (KX 14 zs2) ?_
  rintro _ _ ⟨v5,rfl,rfl⟩
  refine ZQ 0 [(60,Vv (zs2.map (Zv 14)))] (ip 7 (ZU (xs++(zs2.map (Zv 14)))) (ZU xs) (ZU (zs2.map (Zv 14))) v none 5 (XG _) (XG _) (Ut _) (by simp<;>omega) (by simp [VA,ZU]) fun v6=>Z1 (ar (Kr 6 [(64,Z4 vs),(66,Z4 ms)] [6,3] (ic [] (Z92 n vs x1 ms zs1 (mm+k) b.sz (hf:=hfS) (h11:=hoS.1) (hop:=hoS.2) (hor:=Wh) (ih:=ih)) ?_))))
  rintro _ _ ⟨y1,rfl,rfl,YS⟩
  have hkt:=YS
  have hq2:=hq1.kt hkt
  have hl2:=hq2.len
  refine UO [X4 y1] (ZU [y1]) (Ub [y1]).symm 1 5 fun v7=>ZQ 0 [(69,Vv [y1])] (ip 1 (ZU ((xs++(zs2.map (Zv 14)))++[y1])) (ZU (xs++(zs2.map (Zv 14)))) (ZU [y1]) v6 none 5 (XG _) (XG _) (Ut _) (by simp<;>omega) (by simp [VA,ZU]) fun v8=>Z1 (ar (Kr 5 [(72,Z4 vs),(74,Z4 ms)] [7,4] (ic [] (Z9l n vs x1 ms zs1 (mm+k) (hf:=hfS)) ?_))))
  rintro _ _ ⟨zs3,v9,rfl,rfl,X2⟩
  have hla:=X2
  refine Z1 (ar (Kr 4 [(79,Z4 zs3)] [8,5] (ic [] (Z9m n x1 zs3 zs1 (mm+k) (hf:=hfS)) ?_)))
  rintro _ _ ⟨zs4,rfl,rfl,Xk⟩
  have hld:=Xk
  have hq3:=hq2.cnts (op:=15) (.inr rfl) (vs:=zs4) (fun v hv=>by have:=hfS.args v (hld.2 v hv);omega)
  have hl3:=hq3.len
  refine Z1 (Yf 2 (ic [] (KX 15 zs4) ?_))
  rintro _ _ ⟨v10,rfl,rfl⟩
  refine ZQ 0 [(84,Vv (zs4.map (Zv 15)))] (ip 2 (ZU (((xs++(zs2.map (Zv 14)))++[y1])++(zs4.map (Zv 15)))) (ZU ((xs++(zs2.map (Zv 14)))++[y1])) (ZU (zs4.map (Zv 15))) v8 none 5 (XG _) (XG _) (Ut _) (by simp<;>omega) (by simp [VA,ZU]) fun v11=>?_)
  refine Z1 (Y6 (ab 2 (Y2 (fun fz gz m F h=>∃(j:Nat) (m3:LI) (u3:Value) (v3:Value) (w3:Value),(j<=zs4.length)/\(m3.length<=os.length+k)/\(∀v∈m3,0<=v/\v<((mm+k:Nat):Int))/\F=sF [4,5,7,10,14,16,17,18,19] fz [(11,Xi (((xs++(zs2.map (Zv 14)))++[y1])++(zs4.map (Zv 15))) v3),(12,ZC vs w3),(13,ZC m3 u3),(20,.i j)]/\h=[Zf gz 7,Zf gz 8,Zf gz 9,.tail u3 1,.tail v3 5,.tail w3 1]/\m=zs4.length-j) _ _ _ ⟨0,zs3,v9,v11,w,ob,ob,(fun v hv=>Wh v (hla.2 v hv)),rfl,rfl,rfl⟩ (wk [7,7,7,2,0,6] (fw (fr (Yc fl)))) ?_)))
  rintro m F h ⟨j,m3,u3,v3,w3,Vp,Xp,XS,rfl,rfl,rfl⟩
  refine YQ 2 (iw (Ye zs4) (Y3 ((j:Int)<(zs4.length:Int)) (fun Zj=>?_) (fun Zj=>?_)))
  ·refine ak (aq (ab 3 (az (Z0 3 ?_))))
   obtain ⟨x2,Zy⟩:=Zt zs4 j om
   refine Zo (Zk none (j:Int) 1 (Y8 Zy)) (ZQ 1 [(92,Z4 m3)] (ic [] (PQ m3 x2) ?_))
   rintro _ _ ⟨v12,rfl,rfl⟩
   exact Z1 (az (Z0 1 (ZD j (Z1 (ZI ⟨j+1,(Q8 m3 x2),v12,v3,w3,ob,(Vm (Fx _ _) Xp),(fun v hv=>XS v (Ed hv)),rfl,rfl,rfl⟩ (wk [1,1,1,0,1,1] (fw (fr (ZK j fl)))))))))
  refine ax 2 (Yf 2 (iL (Z6 [YZ n vs x1]) 1 1 fun v13=>ZQ 0 [(100,Z4 [YZ n vs x1])] (ip 6 (Z6 (vs++[YZ n vs x1])) (Z6 vs) (Z6 [YZ n vs x1]) w3 none 1 (YD _) (YD _) (W1 _) (by simp<;>omega) (by simp [W5,Z6]) fun v14=>Z1 (ar (Xx [4,5,7,10,11,12,13,14,16,17] [(108,.b (((YZ n vs x1) != 0)&&(decide ((vs.length:Int)∈zs1))))] (fun gz=>gz) ?_ ?_)))))
  ·refine Z0 3 (ib (b:=((YZ n vs x1) != 0)) 104 (fun Ze=>?_) (fun Ze=>?_))
   ·exact Z0 2 (Zu [] (UT zs1 (vs.length:Int)) (Z1 (Zw 7 (Zq (decide ((vs.length:Int)∈zs1)) Ze fl))))
   exact Z1 (Zw 7 (Zq false Ze fl))
  refine ac (((YZ n vs x1) != 0)&&(decide ((vs.length:Int)∈zs1))) (p:=((YZ n vs x1)≠0)/\((vs.length:Int)∈zs1)) (YI YB dq) (fun ZF=>?_) (fun ZF=>?_)
  ·exact az (Z0 2 (iL (Z6 [(vs.length:Int)]) 1 1 fun v15=>ZQ 0 [(111,Z4 [(vs.length:Int)])] (ip 6 (Z6 (m3++[(vs.length:Int)])) (Z6 m3) (Z6 [(vs.length:Int)]) u3 none 1 (YD _) (YD _) (W1 _) (by simp<;>omega) (by simp [W5,Z6]) fun v16=>Z1 (az (Z0 1 (ZD k (Z1 (ZI ⟨k+1,(vs++[YZ n vs x1]),v14,(m3++[(vs.length:Int)]),v16,(((xs++(zs2.map (Zv 14)))++[y1])++(zs4.map (Zv 15))),v3,ob,ob,(by first|exact hq3.le om|exact (hq3.cnt (op:=15) (.inr rfl) om).le om),ob,(by first|exact XF (fun v hv=>by have:=XS v hv;omega) om|exact (fun v hv=>by have:=XS v hv;omega)),rfl,rfl,rfl⟩ (wk [4,4,4,0,3,1] (fw (fr (ZK k fl))))))))))))
  refine ar (YC ((YZ n vs x1) != 0) YB (fun Yh=>?_) (fun Yh=>?_))
  ·exact az (Z0 2 (Zu [] (Cf 15 (vs.length:Int)) (UO [X4 (Zv 15 (vs.length:Int))] (ZU [(Zv 15 (vs.length:Int))]) (Ub [(Zv 15 (vs.length:Int))]).symm 1 5 fun v17=>ZQ 0 [(118,Vv [(Zv 15 (vs.length:Int))])] (ip 7 (ZU ((((xs++(zs2.map (Zv 14)))++[y1])++(zs4.map (Zv 15)))++[(Zv 15 (vs.length:Int))])) (ZU (((xs++(zs2.map (Zv 14)))++[y1])++(zs4.map (Zv 15)))) (ZU [(Zv 15 (vs.length:Int))]) v3 none 5 (XG _) (XG _) (Ut _) (by simp<;>omega) (by simp [VA,ZU]) fun v18=>Z1 (az (Z0 1 (ZD k (Z1 (ZI ⟨k+1,(vs++[YZ n vs x1]),v14,m3,u3,((((xs++(zs2.map (Zv 14)))++[y1])++(zs4.map (Zv 15)))++[(Zv 15 (vs.length:Int))]),v18,ob,ob,(by first|exact hq3.le om|exact (hq3.cnt (op:=15) (.inr rfl) om).le om),ob,(by first|exact XF (fun v hv=>by have:=XS v hv;omega) om|exact (fun v hv=>by have:=XS v hv;omega)),rfl,rfl,rfl⟩ (wk [4,4,4,4,0,1] (fw (fr (ZK k fl)))))))))))))
  exact ak (az (Z0 1 (ZD k (Z1 (ZI ⟨k+1,(vs++[YZ n vs x1]),v14,m3,u3,(((xs++(zs2.map (Zv 14)))++[y1])++(zs4.map (Zv 15))),v3,ob,ob,(by first|exact hq3.le om|exact (hq3.cnt (op:=15) (.inr rfl) om).le om),ob,(by first|exact XF (fun v hv=>by have:=XS v hv;omega) om|exact (fun v hv=>by have:=XS v hv;omega)),rfl,rfl,rfl⟩ (wk [2,2,2,2,2,0] (fw (fr (ZK k fl)))))))))
 have hxl:=Zz.len
 have htl:=KZ b.steps k
 refine ax 0 (Ym 3 [1] ?_)
 obtain ⟨x3,YV⟩:=Zt vs b.result.toNat om
 refine Zo (Zk (some w) b.result 1 (Y8 YV)) (Xx [7,10,11] [(138,.b ((x3 != 0)&&((decide (b.result∈ls))||(!(decide (b.result∈ms))))))] (fun gz=>gz) ?_ ?_)
 ·refine Z0 3 (ib (b:=(x3 != 0)) 126 (fun ZH=>?_) (fun ZH=>?_))
  ·refine ZB 3 [1] (Zu [] (UT ls b.result) (Z0 1 (ib (b:=(decide (b.result∈ls))) 131 (fun Yn=>?_) (fun Yn=>?_))))
   ·exact Z1 (Zw 6 (Zq true (And.intro ZH Yn) fl))
   exact Kr 3 [(132,Z4 ms)] [1] (Zu [] (UT ms b.result) (Z1 (Zw 6 (Zq (!(decide (b.result∈ms))) (And.intro ZH Yn) fl))))
  exact Z1 (Zw 6 (Zq false ZH fl))
 refine ac ((x3 != 0)&&((decide (b.result∈ls))||(!(decide (b.result∈ms))))) (p:=(x3≠0)/\((b.result∈ls)∨(¬(b.result∈ms)))) (YI YB (Y1 dq (Ys dq))) (fun YM=>?_) (fun YM=>?_)
 ·exact az (ZB 3 [1] (Zu [] (Cf 14 b.result) (UO [X4 (Zv 14 b.result)] (ZU [Zv 14 b.result]) (Ub [Zv 14 b.result]).symm 1 5 fun v19=>ZQ 0 [(143,Vv [Zv 14 b.result])] (ip 5 (ZU (xs++[Zv 14 b.result])) (ZU xs) (ZU [Zv 14 b.result]) v none 5 (XG _) (XG _) (Ut _) (by simp<;>omega) (by simp [VA,ZU]) fun v20=>Z1 (Zl 4 [3] (Zx 2 b3 [Xi (xs++[Zv 14 b.result]) v20,.i b.result] (ie (ZT (r3 [] [.agg [Xi (xs++[Zv 14 b.result]) v20,.i b.result]] [0] [(b3,b3)] ⟨(Z8.mk (xs++[Zv 14 b.result]) b.result),rfl,rfl,(((Zz.cnt (op:=14) (.inl rfl) om).block om).le (by have:=KZ b.steps k;omega))⟩ (Zd.agg (.cons (Zd.forget _ _) (.cons (lr _) .nil))))))))))))
 exact ak (Zl 4 [1] (Zx 0 b3 [Xi xs v,.i b.result] (ie (ZT (r3 [] [.agg [Xi xs v,.i b.result]] [0] [(b3,b3)] ⟨(Z8.mk xs b.result),rfl,rfl,((Zz.block om).le (by have:=KZ b.steps k;omega))⟩ (Zd.agg (.cons (Zd.forget _ _) (.cons (lr _) .nil))))))))
theorem Z8y (n:ZG) (us:LI) (b:Z8) (os:LI) (ls:LI) (mm:Nat) (hn:Xw n:=by exact ob) (hf:fB n.decls n.routines.length mm b:=by exact ob) (hop:Vw WS b:=by exact ob) (hul:us.length=mm:=by exact ob) (hm:mm+4*b.sz<=100000:=by exact ob) (hor:∀v∈os,0<=v/\v<(mm:Int)) (hol:os.length+4*b.sz<=730:=by exact ob) (hal:ls.length+2000*b.sz<=1000000:=by exact ob) (hbz:b.sz<=500:=by exact ob):Zm 156 [YF n,Z4 us,Yl b,Z4 os,Z4 ls] [] (fun r h=>∃(y:Z8),r=Yl y/\h=[]/\KB n.decls n.routines.length mm y (4500*b.sz)):=by
 have key:∀k:Nat,∀(us2:LI) (b2:Z8) (os2:LI) (as2:LI) (m2:Nat),(fB n.decls n.routines.length m2 b2)->(Vw WS b2)->(us2.length=m2)->(m2+4*b2.sz<=100000)->(∀v∈os2,0<=v/\v<(m2:Int))->(os2.length+4*b2.sz<=730)->(as2.length+2000*b2.sz<=1000000)->(b2.sz<=500)->(b2.sz<k)->Zm 156 [YF n,Z4 us2,Yl b2,Z4 os2,Z4 as2] [] (fun r h=>∃(y:Z8),r=Yl y/\h=[]/\KB n.decls n.routines.length m2 y (4500*b2.sz)):=by
  intro k
  induction k with
  | zero=>intro us2 b2 os2 as2 m2 h1 h2 h3 h4 h5 h6 h7 h8 h9;omega
  | succ k ih=>intro us2 b2 os2 as2 m2 h1 h2 h3 h4 h5 h6 h7 h8 h9;exact Z8z n us2 b2 os2 as2 m2 hn h1 h2 h3 h4 h5 h6 h7 h8 fun us3 b3 os3 as3 m3 q1 q2 q3 q4 q5 q6 q7 q8 q9=>ih us3 b3 os3 as3 m3 q1 q2 q3 q4 q5 q6 q7 q8 om
 exact key (b.sz+1) us b os ls mm hf hop hul hm hor hol hal hbz om
theorem Z90 (n:ZG) (rt:YE) (qz:Nat) (hn:Xw n:=by exact ob) (hr:RF n.decls n.routines.length qz WS rt:=by exact ob) (hqz:qz<=181:=by exact ob):Zm 139 [YF n,Af rt] [] (fun r h=>∃(y:Z8),r=Yl y/\h=[]/\KB n.decls n.routines.length rt.params.length y (4500*qz+10)):=by
 have hrp:rt.params.length<=3:=(Tw.bd (f:=⟨rt.params,rt.result,default⟩) hr.sig).1
 have hrl:=hr.lent.1
 have hrz:=hr.body.2
 refine ZE 65 Tryz.func139 (ar (iA (X8 n) fun b1=>iA (JV rt) fun b2=>iA [nl,.i 0] fun b3=>ie (Zl 4 [1,1] (iw (Ye rt.params) (Zu [] (Z1q rt.body (rt.params.length:Int)) ?_)))))
 have hub:=In (n:=(rt.params.length:Int)) rt.body []
 simp only [Yx,Wf] at hub
 refine Z1 (ar (iL (Z6 []) 0 1 fun v1=>Z1 (ar (iL (Z6 []) 0 1 fun v2=>?_))))
 refine Z1 (Y6 (ab 0 (Y2 (fun fz gz m F h=>∃(k:Nat) (os:LI) (u:Value) (dr:LI) (w:Value),(k<=rt.params.length)/\(os.length<=k)/\(dr.length<=k)/\(∀v∈os,0<=v/\v<(rt.params.length:Int))/\(∀v∈dr,0<=v/\v<(rt.params.length:Int))/\F=sF [2,3,4,5] fz [(6,ZC os u),(7,ZC dr w),(8,.i k)]/\h=[Zf gz 2,Zf gz 3,Zf gz 4,.tail u 1,.tail w 1]/\m=rt.params.length-k) _ _ _ ⟨0,[],v1,[],v2,ob,ob,ob,(fun v hv=>by cases hv),(fun v hv=>by cases hv),rfl,rfl,rfl⟩ (wk [2,2,2,1,0] (fw (Yc fl))) ?_)))
 rintro m F h ⟨k,os,u,dr,w,Yj,Zg,Zz,YN,Wh,rfl,rfl,rfl⟩
 refine Ym 3 [1] (iw (Ye rt.params) (Y3 ((k:Int)<(rt.params.length:Int)) (fun Za=>?_) (fun Za=>?_)))
 ·refine ak (aq (ab 1 (Zl 3 [1] ?_)))
  obtain ⟨x1,Z3⟩:=Zt rt.params k om
  refine Zo (Zk none (k:Int) 1 (Y8 Z3)) (Xx [2,3,4,5,6,7,8] [(37,.b ((x1 != 0)&&(!(decide ((k:Int)∈rt.lent)))))] (fun gz=>gz) ?_ ?_)
  ·refine Z0 3 (ib (b:=(x1 != 0)) 31 (fun Ze=>?_) (fun Ze=>?_))
   ·exact ZB 3 [1] (Zu [] (UT rt.lent (k:Int)) (Z1 (Zw 5 (Zq (!(decide ((k:Int)∈rt.lent))) Ze fl))))
   exact Z1 (Zw 5 (Zq false Ze fl))
  refine ac ((x1 != 0)&&(!(decide ((k:Int)∈rt.lent)))) (p:=(x1≠0)/\(¬((k:Int)∈rt.lent))) (YI YB (Ys dq)) (fun Zj=>?_) (fun Zj=>?_)
  ·refine Yf 2 (Zu [] (UT (T6 (rt.params.length:Int) rt.body []) (k:Int)) (ie (WE ((k:Int)∈(T6 (rt.params.length:Int) rt.body [])) (fun ZF=>?_) (fun ZF=>?_))))
   ·exact az (Z0 2 (iL (Z6 [(k:Int)]) 1 1 fun v3=>ZQ 0 [(43,Z4 [(k:Int)])] (ip 4 (Z6 (os++[(k:Int)])) (Z6 os) (Z6 [(k:Int)]) u none 1 (YD _) (YD _) (W1 _) (by simp<;>omega) (by simp [W5,Z6]) fun v4=>Z1 (az (Z0 1 (ZD k (Z1 (ZI ⟨k+1,(os++[(k:Int)]),v4,dr,w,ob,ob,ob,(by first|exact YN|exact XF YN om),(by first|exact Wh|exact XF Wh om),rfl,rfl,rfl⟩ (wk [2,2,2,0,1] (fw (ZK k fl)))))))))))
   exact az (Z0 2 (iL (Z6 [(k:Int)]) 1 1 fun v5=>ZQ 0 [(47,Z4 [(k:Int)])] (ip 5 (Z6 (dr++[(k:Int)])) (Z6 dr) (Z6 [(k:Int)]) w none 1 (YD _) (YD _) (W1 _) (by simp<;>omega) (by simp [W5,Z6]) fun v6=>Z1 (az (Z0 1 (ZD k (Z1 (ZI ⟨k+1,os,u,(dr++[(k:Int)]),v6,ob,ob,ob,(by first|exact YN|exact XF YN om),(by first|exact Wh|exact XF Wh om),rfl,rfl,rfl⟩ (wk [2,2,2,2,0] (fw (ZK k fl)))))))))))
  exact ak (az (Z0 1 (ZD k (Z1 (ZI ⟨k+1,os,u,dr,w,ob,ob,ob,(by first|exact YN|exact XF YN om),(by first|exact Wh|exact XF Wh om),rfl,rfl,rfl⟩ (Zw 5 (fw (ZK k fl))))))))
 refine ax 0 (Zl 6 [2,1,1] (iL (Z6 []) 0 1 fun v7=>ZQ 0 [(54,Z4 os),(55,Z4 [])] (ic [] (Z8y n rt.params rt.body os [] rt.params.length (hf:=hr.body.1) (hop:=hr.op) (hor:=YN) (hal:=(by simp only [Yx];omega))) ?_)))
 rintro _ _ ⟨y1,rfl,rfl,YS⟩
 have hkb:=YS
 have hkl:=hkb.len
 refine iA [nl,.i 0] fun b4=>Zx 0 b4 (XY y1) (ie (aD 9 (DB 4 9 [0,2,3,5,6] [(57,Z4 dr)] [0,0] (Z7 1 (dc 1 [] [0,0] [b4,b4] (KX 15 dr) ?_)))))
 rintro _ _ ⟨v8,rfl,rfl⟩
 exact Z7 4 (dp 4 0 [0] [b4] (ZU ((dr.map (Zv 15))++y1.steps)) (ZU (dr.map (Zv 15))) (ZU y1.steps) v8 none 5 (XG _) (XG _) (Ut _) (by simp<;>omega) (by simp [VA,ZU]) fun v9=>Zs 1 2 [7] (Z7 8 (X0 8 3 [] [] b3 [Xi ((dr.map (Zv 15))++y1.steps) v9,.i y1.result] (de (ZT (r3 [] [.agg [Xi ((dr.map (Zv 15))++y1.steps) v9,.i y1.result]] [0] [(b3,b3)] ⟨(Z8.mk ((dr.map (Zv 15))++y1.steps) y1.result),rfl,rfl,((hkb.put1 (op:=15) (.inr rfl) Wh).le om)⟩ (Zd.agg (.cons (Zd.forget _ _) (.cons (lr _) .nil)))))))))
theorem Z93 (n:ZG) (qz:Nat) (hn:FO n qz WS:=by exact ob) (hqz:qz<=181:=by exact ob):Zm 112 [YF n] [] (fun r h=>∃(n2:ZG),r=YF n2/\h=[]/\FO n2 (4500*qz+10) VH):=by
 have hnl:=hn.fn.len
 have Xq:=hn.fn.decls.ok
 have hok:=hn.fn.ok
 refine ZE 36 Tryz.func112 (ar (iA (X8 n) fun b1=>iA [nl,nl] fun b2=>ie (Zl 2 [1] (Zu [] (Bs n.decls) (iL (Xa []) 0 5 fun v1=>Z0 1 (iA [nl,nl] fun b3=>?_))))))
 refine Zx 0 b3 [Y5 n.decls,WV [] v1] (ie (Y6 (ab 0 (Y2 (fun fz gz m F h=>∃(k:Nat) (rs:List YE) (u:Value),(k<=n.routines.length)/\(rs.length=k)/\(∀r∈rs,RF n.decls n.routines.length (4500*qz+10) VH r)/\F=sF [1,2,3] fz [(4,.i k)]/\h=[.obj b3 [Y5 n.decls,WV rs u],Zf gz 2,Zf gz 3,.tail u 5]/\m=n.routines.length-k) _ _ _ ⟨0,[],v1,ob,ob,(fun r hr=>by cases hr),rfl,rfl,rfl⟩ (wk [0,1,1,0] (Yc fl)) ?_))))
 rintro m F h ⟨k,rs,u,Yj,Zg,Zz,rfl,rfl,rfl⟩
 refine Ym 3 [2] (iw (Q3 n.routines) (Y3 ((k:Int)<(n.routines.length:Int)) (fun Za=>?_) (fun Za=>?_)))
 ·refine ak (aq (ab 1 (aE 19 (ZX 14 19 [0,1,2,3,4] [0,2] ?_))))
  obtain ⟨x1,Z3⟩:=Zt n.routines k om
  have hrf:=hn.rf (Y4 Z3)
  have hrp:(x1).params.length<=3:=(Tw.bd (f:=⟨(x1).params,(x1).result,default⟩) hrf.sig).1
  have hrl:=hrf.lent.1
  have hrz:=hrf.body.2
  refine dx 5 (Zk none (k:Int) 5 (VR Z3)) (ZX 8 13 [6,7,8,9,10] [2,2] (dx 11 (Zk none (k:Int) 5 (VR Z3)) (Zs 6 7 [12] (Z7 13 (dc 13 [] [2,0] [b1,b3] (Z90 n x1 qz (hr:=hrf)) ?_)))))
  rintro _ _ ⟨y1,rfl,rfl,Y9⟩
  have hkb:=Y9
  exact Z7 14 (YK 14 [] [0] [b3] (En x1 y1 (hp:=om) (hl:=om)) (Z7 15 (dL 15 [0] [b3] (Xa [YE.mk x1.params x1.lent x1.result y1]) 1 5 fun v2=>Yq 3 3 [] [(32,A0 [YE.mk x1.params x1.lent x1.result y1])] (Z7 16 (dp 16 4 [] [] (Xa (rs++[YE.mk x1.params x1.lent x1.result y1])) (Xa rs) (Xa [YE.mk x1.params x1.lent x1.result y1]) u none 5 (Tf _) (Tf _) (BP _) (by simp<;>omega) (by simp [DI,Xa]) fun v3=>Zs 1 2 [17] (Z7 18 (X0 18 2 [] [] b3 [Y5 n.decls,WV (rs++[YE.mk x1.params x1.lent x1.result y1]) v3] (de (az (Z0 1 (ZD k (Z1 (ZI ⟨k+1,(rs++[YE.mk x1.params x1.lent x1.result y1]),v3,ob,ob,(XF Zz (by first|exact hrf.with hkb.fb hkb.sz hkb.op|(rw [Z8.eta];exact hrf.with hkb.fb hkb.sz hkb.op))),rfl,rfl,rfl⟩ (wk [0,2,2,0] (ZK k fl)))))))))))))))
 exact ax 0 (Zl 1 [0] (Zx 1 b2 [Y5 n.decls,WV rs u] (ie (ZT (r3 [] [.agg [Y5 n.decls,WV rs u]] [0] [(b2,b2)] ⟨(ZG.mk n.decls rs),rfl,rfl,(FO.fin hn.fn om Zz).1⟩ (Zd.agg (.cons (lr _) (.cons (Zd.forget _ _) .nil))))))))
theorem Z8v (n:ZG) (us:LI) (s:Z5) (mm:Nat) (hn:Xw n:=by exact ob) (hf:FS n.decls n.routines.length mm s:=by exact ob) (hvl:us.length=mm:=by exact ob) (hm:mm<=100000000:=by exact ob):Zm 159 [YF n,Z4 us,X4 s] [] (fun r h=>∃(zs:LI),r=Z4 zs/\h=[]/\zs.length<=s.args.length/\∀z∈zs,z∈s.args):=by
 have hal:=hf.alen
 refine ZE 31 Tryz.func159 (ar (iA (X8 n) fun b1=>iA (Wd s) fun b2=>Z1 (ar (iL (Z6 []) 0 1 fun v1=>?_))))
 refine Z1 (Y6 (ab 0 (Y2 (fun fz gz m F h=>∃(k:Nat) (zs:LI) (u:Value),(k<=s.args.length)/\(zs.length<=k)/\(∀z∈zs,z∈s.args)/\F=sF [1,3,5] fz [(7,ZC zs u),(8,.i k)]/\h=[Zf gz 1,Zf gz 2,.tail u 1]/\m=s.args.length-k) _ _ _ ⟨0,[],v1,ob,ob,(fun z hz=>by cases hz),rfl,rfl,rfl⟩ (wk [1,1,0] (fr (Yc fl))) ?_)))
 rintro m F h ⟨k,zs,u,Yj,Zg,Zz,rfl,rfl,rfl⟩
 refine Ym 3 [0] (iw (Ye s.args) (Y3 ((k:Int)<(s.args.length:Int)) (fun Za=>?_) (fun Za=>?_)))
 ·obtain ⟨a1,ha1⟩:=Zt s.args k om
  have har:=hf.args a1 (Y4 ha1)
  refine ak (aq (ab 1 (Zl 4 [1,0] (Zu [] (Ie n us s k a1 (hnum:=hf.call) (ha:=ha1)) (ie (ac (JG n us s.op s.num a1 k) Iff.rfl (fun Zj=>?_) (fun Zj=>?_)))))))
  ·exact az (ZB 4 [0] (Zo (Zk none (k:Int) 1 (Y8 ha1)) (Z0 1 (iL (Z6 [a1]) 1 1 fun v2=>ZQ 0 [(28,Z4 [a1])] (ip 3 (Z6 (zs++[a1])) (Z6 zs) (Z6 [a1]) u none 1 (YD _) (YD _) (W1 _) (by simp<;>omega) (by simp [W5,Z6]) fun v3=>Z1 (az (Z0 1 (ZD k (Z1 (ZI ⟨k+1,(zs++[a1]),v3,ob,ob,(by first|exact Zz|exact XF Zz (Y4 ha1)),rfl,rfl,rfl⟩ (wk [2,2,0] (fr (ZK k fl)))))))))))))
  exact ak (az (Z0 1 (ZD k (Z1 (ZI ⟨k+1,zs,u,ob,ob,(by first|exact Zz|exact XF Zz (Y4 ha1)),rfl,rfl,rfl⟩ (Zw 3 (fr (ZK k fl))))))))
 exact ax 0 (ar (Zp (r2 [] [ZC zs u] ⟨zs,rfl,rfl,⟨by omega,Zz⟩⟩ (Zd.forget _ _))))
theorem Z9j (n:ZG) (us:LI) (s:Z5) (mm:Nat) (bb:Nat) (hn:Xw n:=by exact ob) (hf:FS n.decls n.routines.length mm s:=by exact ob) (h11:s.op<=11:=by exact ob) (hop:Kj WS s.kids:=by exact ob) (hul:us.length=mm:=by exact ob) (hm:mm+4*s.sz<=100000:=by exact ob) (hbz:s.sz<=500:=by exact ob) (hb:s.sz<=bb:=by exact ob) (ih:∀(us2:LI) (b2:Z8) (mi2:LI) (m2:Nat),(fB n.decls n.routines.length m2 b2)->(Vw WS b2)->(us2.length=m2)->(m2+4*b2.sz<=100000)->(∀v∈mi2,0<=v/\v<(m2:Int))->(mi2.length<=3)->(b2.sz<=500)->(b2.sz<bb)->Zm 140 [YF n,Z4 us2,Yl b2,Z4 mi2] [] (fun r h=>∃(y:Z8),r=Yl y/\h=[]/\KB n.decls n.routines.length m2 y (60*b2.sz))):Zm 160 [YF n,Z4 us,X4 s] [] (fun r h=>∃(y:Z5),r=X4 y/\h=[]/\KT n.decls n.routines.length mm y (60*YU s.kids+23)):=by
 have Xq:=hn.decls
 have hkf:=hf.few Xq
 have hsa:=hf.alen
 refine ZE 72 Tryz.func160 (ar (iA (X8 n) fun b1=>iA (Wd s) fun b2=>iA [.i 0,.i 0,.i 0,nl,nl] fun b3=>ie (ar (iL (XP []) 0 2 fun v1=>Z1 (Zl 4 [3,2] (ic [] (Jr n.decls s.num) ?_))))))
 rintro _ _ ⟨v2,rfl,rfl⟩
 refine Z1 (Y6 (ab 0 (Y2 (fun fz gz m F h=>∃(k:Nat) (ks:List Z8) (u:Value),(k<=s.kids.length)/\(ks.length=k)/\(KK n.decls n.routines.length (V3 n.decls s.op s.num mm) ks (60*YU (s.kids.take k)+6*k))/\F=sF [1,3,5,6] fz [(7,Qw ks u),(8,Z4 (ZY n.decls s.num)),(9,.i k)]/\h=[Zf gz 2,Zf gz 3,Zf gz 4,.tail u 2]/\m=s.kids.length-k) _ _ _ ⟨0,[],v1,ob,ob,(KK.nil.le (QB _)),rfl,rfl,rfl⟩ (wk [2,2,2,1] (fr (fc (x:=ZC (ZY n.decls s.num) v2) (Zd.forget _ _) (Yc fl)))) ?_)))
 rintro m F h ⟨k,ks,u,Yj,Zg,Zz,rfl,rfl,rfl⟩
 refine Ym 3 [1] (iw (KE s.kids) (Y3 ((k:Int)<(s.kids.length:Int)) (fun Za=>?_) (fun Za=>?_)))
 ·refine ak (aq (ab 1 (ar (iL (Z6 []) 0 1 fun v3=>?_))))
  refine Z1 (Xj (V2 [2] (XA (fun fz gz F h=>∃(fds:LI),(V3 n.decls s.op s.num mm k=mm+fds.length)/\(fds.length<=3)/\F=sF [1,3,5,6,7,8,9] fz [(10,Z4 fds)]/\h=[Zf gz 1,Zf gz 2,Zf gz 3,Zf gz 4]) ?_ ?_)))
  ·refine ac (s.op==8) Zi (fun Zj=>?_) (fun Zj=>?_)
   ·refine aE 8 (ZX 4 8 [0,1,2,3] [3] ?_)
    obtain ⟨x1,Z3⟩:=Zt (ZY n.decls s.num) k (by have:=hf.k8 (by assumption);omega)
    have hcf:=Vq Xq x1
    exact dx 4 (Zk none (k:Int) 1 (Y8 Z3)) (Zs 2 3 [5] (Z7 6 (YK 6 [] [] [] (Qy n.decls x1) (Zs 0 1 [7] (de (ZJ ⟨ZO n.decls x1,(MX (by assumption) Z3),ob,rfl,rfl⟩ (wk [1,1,1,1] fl)))))))
   exact ak (ZJ ⟨[],(by rw [MY (by assumption)];rfl),ob,rfl,rfl⟩ (wk [1,1,1,1] fl))
  rintro F h ⟨fds,VL,Bm,rfl,rfl⟩
  refine Yf 2 (iw (Ye us) (ic [] (PH fds us.length) ?_))
  rintro _ _ ⟨xs1,rfl,rfl,Y9⟩
  have hhf:=Y9
  refine Z1 (aD 13 (ZX 7 13 [0,1,2,4,5,6] [2,1] ?_))
  obtain ⟨x2,Zy⟩:=Zt s.kids k om
  have hkz:=Qu Zy
  have hfk:=BR hf.kids Zy
  rw [Wf,VL] at hfk
  have hok:=Eb.1 hop x2 (Y4 Zy)
  have hbt:=Gs Zy
  have hba:=Gt Zy
  refine dx 7 (Zk none (k:Int) 2 (T0 Zy)) (Zs 4 6 [8,9] (BN (fun fz gz F h=>∃(y1:Z8) (b4:Nat),(KB n.decls n.routines.length (mm+fds.length) y1 (60*x2.sz))/\F=sF [1,3,5,6,7,8,9,11] fz [(12,.p b4 0)]/\h=[.obj b4 (XY y1),Zf gz 0,Zf gz 1,Zf gz 2,Zf gz 3]) ?_ ?_))
  ·refine Us 3 11 ?_ ?_
   ·refine dc 3 [] [1,2] [b2,b1] (TE us fds) ?_
    rintro _ _ ⟨v4,rfl,rfl⟩
    refine Yq 3 3 [] [(44,Z4 (us++fds))] (Us 10 11 ?_ ?_)
    ·refine dc 10 [] [] [] (ih (us++fds) x2 xs1 (mm+fds.length) hfk hok (by rw [ZV,hul]) ob (fun v hv=>by have:=hhf.2 v hv;omega) ob ob ob) ?_
     rintro _ _ ⟨y1,rfl,rfl,Yt⟩
     have hkb:=Yt
     have hkl:=hkb.len
     exact Z7 11 (dA 11 [] [] [nl,.i 0] fun b4=>Z7 12 (X0 12 0 [] [] b4 (XY y1) (de (ZJ ⟨_,b4,(by assumption),rfl,rfl⟩ (wk [0,1,1,1,1] fl)))))
    refine dA 11 [1,2] [b2,b1] [nl,.i 0] fun b5=>Z7 10 (dc 10 [] [] [] (ih (us++fds) x2 xs1 (mm+fds.length) hfk hok (by rw [ZV,hul]) ob (fun v hv=>by have:=hhf.2 v hv;omega) ob ob ob) ?_)
    rintro _ _ ⟨y2,rfl,rfl,YS⟩
    have hkb:=YS
    have hkl:=hkb.len
    exact Z7 12 (X0 12 0 [] [] b5 (XY y2) (de (ZJ ⟨_,b5,(by assumption),rfl,rfl⟩ (wk [0,1,1,1,1] fl))))
   refine dA 11 [1,2] [b2,b1] [nl,.i 0] fun b6=>Z7 3 (dc 3 [] [2,3] [b2,b1] (TE us fds) ?_)
   rintro _ _ ⟨v5,rfl,rfl⟩
   refine Yq 2 2 [] [(44,Z4 (us++fds))] (Z7 10 (dc 10 [] [] [] (ih (us++fds) x2 xs1 (mm+fds.length) hfk hok (by rw [ZV,hul]) ob (fun v hv=>by have:=hhf.2 v hv;omega) ob ob ob) ?_))
   rintro _ _ ⟨y3,rfl,rfl,X2⟩
   have hkb:=X2
   have hkl:=hkb.len
   exact Z7 12 (X0 12 1 [] [] b6 (XY y3) (de (ZJ ⟨_,b6,(by assumption),rfl,rfl⟩ (wk [0,1,1,1,1] fl))))
  rintro F h ⟨y1,b4,Yt,rfl,rfl⟩
  have hkb:=Yt
  have hkl:=hkb.len
  refine aE 12 (ZX 6 12 [0,1,3,4,6,7] [0,0] (Z7 2 (dc 2 [] [0,0] [b4,b4] (KX 14 xs1) ?_)))
  rintro _ _ ⟨v6,rfl,rfl⟩
  exact Z7 5 (dp 5 0 [0] [b4] (ZU ((xs1.map (Zv 14))++y1.steps)) (ZU (xs1.map (Zv 14))) (ZU y1.steps) v6 none 5 (XG _) (XG _) (Ut _) (by simp<;>omega) (by simp [VA,ZU]) fun v7=>Yq 3 4 [8] [(60,.agg [Vv ((xs1.map (Zv 14))++y1.steps),.i y1.result])] (Z7 9 (WG 9 [] [] [Yl (Z8.mk ((xs1.map (Zv 14))++y1.steps) y1.result)] (XP [Z8.mk ((xs1.map (Zv 14))++y1.steps) y1.result]) (K6 [Z8.mk ((xs1.map (Zv 14))++y1.steps) y1.result]).symm 1 2 fun v8=>Yq 2 2 [] [(61,JZ [Z8.mk ((xs1.map (Zv 14))++y1.steps) y1.result])] (Z7 10 (dp 10 6 [] [] (XP (ks++[Z8.mk ((xs1.map (Zv 14))++y1.steps) y1.result])) (XP ks) (XP [Z8.mk ((xs1.map (Zv 14))++y1.steps) y1.result]) u none 2 (Jb _) (Jb _) (GG _) (by simp<;>omega) (by simp [CJ,XP]) fun v9=>Zs 0 1 [11] (de (az (Z0 1 (ZD k (Z1 (ZI ⟨k+1,(ks++[Z8.mk ((xs1.map (Zv 14))++y1.steps) y1.result]),v9,ob,ob,((Zz.snoc Zg (by rw [VL];exact hkb.put1 (op:=14) (.inl rfl) (fun v hv=>by have:=hhf.2 v hv;omega))).le om),rfl,rfl,rfl⟩ (wk [4,4,4,0] (fw (ZK k fl))))))))))))))
 refine ax 0 (aD 10 (ZX 3 10 [0,1,2,3,4,5,7] [1,1,1] (Z7 6 (dc 6 [] [1,1] [b2,b2] (WX s.args) ?_))))
 rintro _ _ ⟨v10,rfl,rfl⟩
 exact Zs 1 2 [8] (Z7 9 (X0 9 1 [] [] b3 [.i s.op,.i s.num,.i 0,ZC s.args v10,Qw ks u] (de (ZT (r3 [] [.agg [.i s.op,.i s.num,.i 0,ZC s.args v10,Qw ks u]] [0] [(b3,b3)] ⟨(Z5.mk s.op s.num 0 s.args ks),rfl,rfl,((KT.of (into:=0) hf h11 om om Zz).le (by have:=IV (xs:=s.kids) (k:=k) om;omega))⟩ (Zd.agg (.cons (lr _) (.cons (lr _) (.cons (lr _) (.cons (Zd.forget _ _) (.cons (Zd.forget _ _) .nil)))))))))))
theorem Z9i (n:ZG) (us:LI) (b:Z8) (mi:LI) (mm:Nat) (hn:Xw n) (hf:fB n.decls n.routines.length mm b) (hop:Vw WS b) (hul:us.length=mm) (hm:mm+4*b.sz<=100000) (hmr:∀v∈mi,0<=v/\v<(mm:Int)) (hml:mi.length<=3) (hbz:b.sz<=500) (ih:∀(us2:LI) (b2:Z8) (mi2:LI) (m2:Nat),(fB n.decls n.routines.length m2 b2)->(Vw WS b2)->(us2.length=m2)->(m2+4*b2.sz<=100000)->(∀v∈mi2,0<=v/\v<(m2:Int))->(mi2.length<=3)->(b2.sz<=500)->(b2.sz<b.sz)->Zm 140 [YF n,Z4 us2,Yl b2,Z4 mi2] [] (fun r h=>∃(y:Z8),r=Yl y/\h=[]/\KB n.decls n.routines.length m2 y (60*b2.sz))):Zm 140 [YF n,Z4 us,Yl b,Z4 mi] [] (fun r h=>∃(y:Z8),r=Yl y/\h=[]/\KB n.decls n.routines.length mm y (60*b.sz)):=by
 have Xq:=hn.decls
 have hbe:=b.sz_eq
 have ZM:=UG b
 obtain ⟨hfs,hr1,hr2⟩:=(Jf b).1 hf
 have hos:=Dd.1 ((HI b).1 hop)
 have hdn:=Lf hos
 have hdl:=hdn b.steps.length (X5 _)
 rw [UA] at hdl
 refine ZE 80 Tryz.func140 (ar (iA (X8 n) fun b1=>iA (XY b) fun b2=>iA [nl,.i 0] fun b3=>ie (ar (iL (ZU []) 0 5 fun v1=>Z1 (Yf 1 (ic [] (WX us) ?_))))))
 rintro _ _ ⟨v2,rfl,rfl⟩
 refine Z1 (Yf 1 (ic [] (WX mi) ?_))
 rintro _ _ ⟨v3,rfl,rfl⟩
 refine Z1 (Y6 (ab 0 (Y2 (fun fz gz m F h=>∃(k:Nat) (vs:LI) (w:Value) (ow:LI) (u:Value) (xs:List Z5) (v:Value) (z0:Nat),(k<=b.steps.length)/\(vs.length=mm+k)/\(CL n.decls n.routines.length mm xs k z0)/\(z0+2*ow.length<=60*Yu (b.steps.take k)+2*mi.length)/\(∀v∈ow,0<=v/\v<((mm+k:Nat):Int))/\F=sF [4,6,8] fz [(9,Xi xs v),(10,ZC vs w),(11,ZC ow u),(12,.i k)]/\h=[Zf gz 3,Zf gz 4,Zf gz 5,.tail u 1,.tail v 5,.tail w 1]/\m=b.steps.length-k) _ _ _ ⟨0,us,v2,mi,v3,[],v1,0,ob,ob,CL.nil,(by simp),hmr,rfl,rfl,rfl⟩ (wk [3,3,3,0,1,0] (fw (fr (Yc fl)))) ?_)))
 rintro m F h ⟨k,vs,w,ow,u,xs,v,z0,Yj,Zg,Zz,YN,Wh,rfl,rfl,rfl⟩
 refine Ym 3 [1] (iw (UI b.steps) (Y3 ((k:Int)<(b.steps.length:Int)) (fun Za=>?_) (fun Za=>?_)))
 ·refine ak (aq (ab 1 (Zl 3 [1] ?_)))
  obtain ⟨x1,Z3⟩:=Zt b.steps k om
  have XO:=Dj Z3
  have hfS:=(Bc x1).1 (DN hfs Z3)
  rw [hdn k om] at hfS
  have hoS:=(Fv x1).1 (hos x1 (Y4 Z3))
  have htk:=If Z3
  have hse:=(x1).sz_eq
  have hal4:=hfS.alen
  have hxl:=Zz.len
  have htl:=KZ b.steps (k+1)
  refine Zo (Zk none (k:Int) 5 (Va Z3)) (Z0 1 (iA [.i 0,.i 0,.i 0,nl,nl] fun b4=>Zx 0 b4 (Wd x1) (ie (ar (Kr 3 [(33,Z4 vs)] [3,0] (Zu [] (N6 n vs x1 ob ob) (Z1 (ar (Kr 4 [(38,Z4 vs)] [3,0] (ic [] (Z8v n vs x1 (mm+k) (hf:=hfS)) ?_))))))))))
  rintro _ _ ⟨zs1,rfl,rfl,Y9⟩
  have hdu:=Y9
  have hq1:=Zz.cnts (op:=14) (.inl rfl) (vs:=zs1) (fun v hv=>hfS.args v (hdu.2 v hv))
  have hl1:=hq1.len
  refine ic [] (KX 14 zs1) ?_
  rintro _ _ ⟨v4,rfl,rfl⟩
  refine ZQ 0 [(41,Vv (zs1.map (Zv 14)))] (ip 6 (ZU (xs++(zs1.map (Zv 14)))) (ZU xs) (ZU (zs1.map (Zv 14))) v none 5 (XG _) (XG _) (Ut _) (by simp<;>omega) (by simp [VA,ZU]) fun v5=>Z1 (ar (Kr 4 [(45,Z4 vs)] [5,2] (ic [] (Z9j n vs x1 (mm+k) b.sz (hf:=hfS) (h11:=hoS.1) (hop:=hoS.2) (ih:=ih)) ?_))))
  rintro _ _ ⟨y1,rfl,rfl,Yt⟩
  have hkt:=Yt
  have hq2:=hq1.kt hkt
  have hl2:=hq2.len
  refine UO [X4 y1] (ZU [y1]) (Ub [y1]).symm 1 5 fun v6=>ZQ 0 [(48,Vv [y1])] (ip 1 (ZU ((xs++(zs1.map (Zv 14)))++[y1])) (ZU (xs++(zs1.map (Zv 14)))) (ZU [y1]) v5 none 5 (XG _) (XG _) (Ut _) (by simp<;>omega) (by simp [VA,ZU]) fun v7=>Z1 (Xj (YC ((YZ n vs x1) != 0) YB (fun Zj=>?_) (fun Zj=>?_))))
  ·exact az (Z0 2 (iw (Ye vs) (iL (Z6 [(vs.length:Int)]) 1 1 fun v8=>ZQ 0 [(55,Z4 [(vs.length:Int)])] (ip 8 (Z6 (ow++[(vs.length:Int)])) (Z6 ow) (Z6 [(vs.length:Int)]) u none 1 (YD _) (YD _) (W1 _) (by simp<;>omega) (by simp [W5,Z6]) fun v9=>Z1 (az (Z0 2 (iL (Z6 [YZ n vs x1]) 1 1 fun v10=>ZQ 0 [(59,Z4 [YZ n vs x1])] (ip 10 (Z6 (vs++[YZ n vs x1])) (Z6 vs) (Z6 [YZ n vs x1]) w none 1 (YD _) (YD _) (W1 _) (by simp<;>omega) (by simp [W5,Z6]) fun v11=>Z1 (az (Z0 1 (ZD k (Z1 (ZI ⟨k+1,(vs++[YZ n vs x1]),v11,(ow++[(vs.length:Int)]),v9,((xs++(zs1.map (Zv 14)))++[y1]),v7,_,ob,ob,hq2,(by (try simp only [ZV,Yp,Yx]);omega),(by first|exact XF (fun v hv=>by have:=Wh v hv;omega) om|exact (fun v hv=>by have:=Wh v hv;omega)),rfl,rfl,rfl⟩ (wk [8,8,8,2,3,0] (fw (fr (ZK k fl)))))))))))))))))
  exact ak (az (Z0 2 (iL (Z6 [YZ n vs x1]) 1 1 fun v12=>ZQ 0 [(59,Z4 [YZ n vs x1])] (ip 9 (Z6 (vs++[YZ n vs x1])) (Z6 vs) (Z6 [YZ n vs x1]) w none 1 (YD _) (YD _) (W1 _) (by simp<;>omega) (by simp [W5,Z6]) fun v13=>Z1 (az (Z0 1 (ZD k (Z1 (ZI ⟨k+1,(vs++[YZ n vs x1]),v13,ow,u,((xs++(zs1.map (Zv 14)))++[y1]),v7,_,ob,ob,hq2,(by (try simp only [ZV,Yp,Yx]);omega),(by first|exact XF (fun v hv=>by have:=Wh v hv;omega) om|exact (fun v hv=>by have:=Wh v hv;omega)),rfl,rfl,rfl⟩ (wk [6,6,6,6,2,0] (fw (fr (ZK k fl)))))))))))))
 have hxl:=Zz.len
 have htl:=KZ b.steps k
 refine ax 0 (Ym 3 [1] ?_)
 obtain ⟨x2,Zy⟩:=Zt vs b.result.toNat om
 refine Zo (Zk (some w) b.result 1 (Y8 Zy)) (YC (x2 != 0) YB (fun ZF=>?_) (fun ZF=>?_))
 ·refine az (ZB 3 [1] (Zu [] (Cf 14 b.result) (UO [X4 (Zv 14 b.result)] (ZU [Zv 14 b.result]) (Ub [Zv 14 b.result]).symm 1 5 fun v14=>ZQ 0 [(71,Vv [Zv 14 b.result])] (ip 5 (ZU (xs++[Zv 14 b.result])) (ZU xs) (ZU [Zv 14 b.result]) v none 5 (XG _) (XG _) (Ut _) (by simp<;>omega) (by simp [VA,ZU]) fun v15=>Z1 (aD 8 (DB 4 8 [0,1,4,5] [(74,Z4 ow)] [3] (Z7 2 (dc 2 [] [1] [b2] (KX 15 ow) ?_))))))))
  rintro _ _ ⟨v16,rfl,rfl⟩
  exact Yq 3 3 [] [(75,Vv (ow.map (Zv 15)))] (Z7 3 (dp 3 1 [1] [b2] (ZU ((xs++[Zv 14 b.result])++(ow.map (Zv 15)))) (ZU (xs++[Zv 14 b.result])) (ZU (ow.map (Zv 15))) v15 none 5 (XG _) (XG _) (Ut _) (by simp<;>omega) (by simp [VA,ZU]) fun v17=>Zs 1 2 [6] (Z7 7 (X0 7 3 [] [] b3 [Xi ((xs++[Zv 14 b.result])++(ow.map (Zv 15))) v17,.i b.result] (de (ZT (r3 [] [.agg [Xi ((xs++[Zv 14 b.result])++(ow.map (Zv 15))) v17,.i b.result]] [0] [(b3,b3)] ⟨(Z8.mk ((xs++[Zv 14 b.result])++(ow.map (Zv 15))) b.result),rfl,rfl,((((Zz.cnt (op:=14) (.inl rfl) om).cnts (op:=15) (.inr rfl) (fun v hv=>by have:=Wh v hv;omega)).block om).le (by have:=KZ b.steps k;omega))⟩ (Zd.agg (.cons (Zd.forget _ _) (.cons (lr _) .nil))))))))))
 refine ak (aD 8 (DB 4 8 [0,1,4,5] [(74,Z4 ow)] [1] (Z7 2 (dc 2 [] [1] [b2] (KX 15 ow) ?_))))
 rintro _ _ ⟨v18,rfl,rfl⟩
 exact Yq 3 3 [] [(75,Vv (ow.map (Zv 15)))] (Z7 3 (dp 3 5 [1] [b2] (ZU (xs++(ow.map (Zv 15)))) (ZU xs) (ZU (ow.map (Zv 15))) v none 5 (XG _) (XG _) (Ut _) (by simp<;>omega) (by simp [VA,ZU]) fun v19=>Zs 1 2 [6] (Z7 7 (X0 7 2 [] [] b3 [Xi (xs++(ow.map (Zv 15))) v19,.i b.result] (de (ZT (r3 [] [.agg [Xi (xs++(ow.map (Zv 15))) v19,.i b.result]] [0] [(b3,b3)] ⟨(Z8.mk (xs++(ow.map (Zv 15))) b.result),rfl,rfl,(((Zz.cnts (op:=15) (.inr rfl) (fun v hv=>by have:=Wh v hv;omega)).block om).le (by have:=KZ b.steps k;omega))⟩ (Zd.agg (.cons (Zd.forget _ _) (.cons (lr _) .nil))))))))))
theorem Z9h (n:ZG) (us:LI) (b:Z8) (mi:LI) (mm:Nat) (hn:Xw n:=by exact ob) (hf:fB n.decls n.routines.length mm b:=by exact ob) (hop:Vw WS b:=by exact ob) (hul:us.length=mm:=by exact ob) (hm:mm+4*b.sz<=100000:=by exact ob) (hmr:∀v∈mi,0<=v/\v<(mm:Int)) (hml:mi.length<=3:=by exact ob) (hbz:b.sz<=500:=by exact ob):Zm 140 [YF n,Z4 us,Yl b,Z4 mi] [] (fun r h=>∃(y:Z8),r=Yl y/\h=[]/\KB n.decls n.routines.length mm y (60*b.sz)):=by
 have key:∀k:Nat,∀(us2:LI) (b2:Z8) (mi2:LI) (m2:Nat),(fB n.decls n.routines.length m2 b2)->(Vw WS b2)->(us2.length=m2)->(m2+4*b2.sz<=100000)->(∀v∈mi2,0<=v/\v<(m2:Int))->(mi2.length<=3)->(b2.sz<=500)->(b2.sz<k)->Zm 140 [YF n,Z4 us2,Yl b2,Z4 mi2] [] (fun r h=>∃(y:Z8),r=Yl y/\h=[]/\KB n.decls n.routines.length m2 y (60*b2.sz)):=by
  intro k
  induction k with
  | zero=>intro us2 b2 mi2 m2 h1 h2 h3 h4 h5 h6 h7 h9;omega
  | succ k ih=>intro us2 b2 mi2 m2 h1 h2 h3 h4 h5 h6 h7 h9;exact Z9i n us2 b2 mi2 m2 hn h1 h2 h3 h4 h5 h6 h7 fun us3 b3 mi3 m3 q1 q2 q3 q4 q5 q6 q7 q9=>ih us3 b3 mi3 m3 q1 q2 q3 q4 q5 q6 q7 om
 exact key (b.sz+1) us b mi mm hf hop hul hm hmr hml hbz om
theorem Za1 (rt:YE) (hp:rt.params.length<=1000000:=by exact ob) (hl:rt.lent.length<=1000000:=by exact ob):Zm 141 [Af rt] [] (fun r h=>∃(os:LI),r=Z4 os/\h=[]/\os.length<=rt.params.length/\∀v∈os,0<=v/\v<(rt.params.length:Int)):=by
 refine ZE 31 Tryz.func141 (ar (iA (JV rt) fun b1=>Z1 (ar (iL (Z6 []) 0 1 fun v1=>?_))))
 refine Z1 (Y6 (ab 0 (Y2 (fun fz gz m F h=>∃(k:Nat) (os:LI) (u:Value),(k<=rt.params.length)/\(os.length<=k)/\(∀v∈os,0<=v/\v<(rt.params.length:Int))/\F=sF [1] fz [(3,ZC os u),(4,.i k)]/\h=[Zf gz 1,.tail u 1]/\m=rt.params.length-k) _ _ _ ⟨0,[],v1,ob,ob,(fun v hv=>by cases hv),rfl,rfl,rfl⟩ (wk [1,0] (fr (Yc fl))) ?_)))
 rintro m F h ⟨k,os,u,Yj,Zg,Zz,rfl,rfl,rfl⟩
 refine Ym 3 [0] (iw (Ye rt.params) (Y3 ((k:Int)<(rt.params.length:Int)) (fun Za=>?_) (fun Za=>?_)))
 ·refine ak (aq (ab 1 (Zl 3 [0] ?_)))
  obtain ⟨x1,Z3⟩:=Zt rt.params k om
  refine Zo (Zk none (k:Int) 1 (Y8 Z3)) (Xx [1,3,4] [(25,.b ((x1 != 0)&&(!(decide ((k:Int)∈rt.lent)))))] (fun gz=>gz) ?_ ?_)
  ·refine Z0 3 (ib (b:=(x1 != 0)) 19 (fun Ze=>?_) (fun Ze=>?_))
   ·exact ZB 3 [0] (Zu [] (UT rt.lent (k:Int)) (Z1 (wk [0,0] (Zq (!(decide ((k:Int)∈rt.lent))) Ze fl))))
   exact Z1 (wk [0,0] (Zq false Ze fl))
  refine ac ((x1 != 0)&&(!(decide ((k:Int)∈rt.lent)))) (p:=(x1≠0)/\(¬((k:Int)∈rt.lent))) (YI YB (Ys dq)) (fun Zj=>?_) (fun Zj=>?_)
  ·exact az (Z0 2 (iL (Z6 [(k:Int)]) 1 1 fun v2=>ZQ 0 [(28,Z4 [(k:Int)])] (ip 2 (Z6 (os++[(k:Int)])) (Z6 os) (Z6 [(k:Int)]) u none 1 (YD _) (YD _) (W1 _) (by simp<;>omega) (by simp [W5,Z6]) fun v3=>Z1 (az (Z0 1 (ZD k (Z1 (ZI ⟨k+1,(os++[(k:Int)]),v3,ob,ob,(by first|exact Zz|exact XF Zz om),rfl,rfl,rfl⟩ (wk [2,0] (fr (ZK k fl)))))))))))
  exact ak (az (Z0 1 (ZD k (Z1 (ZI ⟨k+1,os,u,ob,ob,(by first|exact Zz|exact XF Zz om),rfl,rfl,rfl⟩ (wk [0,0] (fr (ZK k fl))))))))
 exact ax 0 (ar (Zp (r2 [] [ZC os u] ⟨os,rfl,rfl,⟨by omega,Zz⟩⟩ (Zd.forget _ _))))
theorem Z9g (n:ZG) (qz:Nat) (hn:FO n qz WS:=by exact ob) (hqz:qz<=181:=by exact ob):Zm 113 [YF n] [] (fun r h=>∃(n2:ZG),r=YF n2/\h=[]/\FO n2 (60*qz) VH):=by
 have hnl:=hn.fn.len
 have Xq:=hn.fn.decls.ok
 have hok:=hn.fn.ok
 refine ZE 39 Tryz.func113 (ar (iA (X8 n) fun b1=>iA [nl,nl] fun b2=>ie (Zl 2 [1] (Zu [] (Bs n.decls) (iL (Xa []) 0 5 fun v1=>Z0 1 (iA [nl,nl] fun b3=>?_))))))
 refine Zx 0 b3 [Y5 n.decls,WV [] v1] (ie (Y6 (ab 0 (Y2 (fun fz gz m F h=>∃(k:Nat) (rs:List YE) (u:Value),(k<=n.routines.length)/\(rs.length=k)/\(∀r∈rs,RF n.decls n.routines.length (60*qz) VH r)/\F=sF [1,2,3] fz [(4,.i k)]/\h=[.obj b3 [Y5 n.decls,WV rs u],Zf gz 2,Zf gz 3,.tail u 5]/\m=n.routines.length-k) _ _ _ ⟨0,[],v1,ob,ob,(fun r hr=>by cases hr),rfl,rfl,rfl⟩ (wk [0,1,1,0] (Yc fl)) ?_))))
 rintro m F h ⟨k,rs,u,Yj,Zg,Zz,rfl,rfl,rfl⟩
 refine Ym 3 [2] (iw (Q3 n.routines) (Y3 ((k:Int)<(n.routines.length:Int)) (fun Za=>?_) (fun Za=>?_)))
 ·refine ak (aq (ab 1 (Zl 3 [2] ?_)))
  obtain ⟨x1,Z3⟩:=Zt n.routines k om
  have hrf:=hn.rf (Y4 Z3)
  have hrp:(x1).params.length<=3:=(Tw.bd (f:=⟨(x1).params,(x1).result,default⟩) hrf.sig).1
  have hrl:=hrf.lent.1
  have hrz:=hrf.body.2
  refine Zo (Zk none (k:Int) 5 (VR Z3)) (Z0 1 (iA [nl,nl,.i 0,nl,.i 0] fun b4=>Zx 0 b4 (JV x1) (ie (aE 16 (ZX 7 16 [0,1,2,3,4,5,6,7,8] [1,0,3,0,0,0] (Z7 9 (dc 9 [] [0,0,3,0,1] [b4,b4,b1,b4,b3] (Za1 x1) ?_)))))))
  rintro _ _ ⟨os1,rfl,rfl,Y9⟩
  have hop:=Y9
  refine Z7 10 (dc 10 [] [0,1] [b4,b3] (Z9h n x1.params x1.body os1 _ (hf:=hrf.body.1) (hop:=hrf.op) (hul:=rfl) (hmr:=hop.2)) ?_)
  rintro _ _ ⟨y1,rfl,rfl,Yt⟩
  have hkb0:=Yt
  have hkb:=hkb0.le (z2:=60*qz) om
  exact Z7 11 (YK 11 [] [1] [b3] (En x1 y1 (hp:=om) (hl:=om)) (Z7 12 (dL 12 [1] [b3] (Xa [YE.mk x1.params x1.lent x1.result y1]) 1 5 fun v2=>Yq 3 3 [] [(35,A0 [YE.mk x1.params x1.lent x1.result y1])] (Z7 13 (dp 13 5 [] [] (Xa (rs++[YE.mk x1.params x1.lent x1.result y1])) (Xa rs) (Xa [YE.mk x1.params x1.lent x1.result y1]) u none 5 (Tf _) (Tf _) (BP _) (by simp<;>omega) (by simp [DI,Xa]) fun v3=>Zs 1 2 [14] (Z7 15 (X0 15 3 [] [] b3 [Y5 n.decls,WV (rs++[YE.mk x1.params x1.lent x1.result y1]) v3] (de (az (Z0 1 (ZD k (Z1 (ZI ⟨k+1,(rs++[YE.mk x1.params x1.lent x1.result y1]),v3,ob,ob,(XF Zz (by first|exact hrf.with hkb.fb hkb.sz hkb.op|(rw [Z8.eta];exact hrf.with hkb.fb hkb.sz hkb.op))),rfl,rfl,rfl⟩ (wk [0,3,3,0] (ZK k fl)))))))))))))))
 exact ax 0 (Zl 1 [0] (Zx 1 b2 [Y5 n.decls,WV rs u] (ie (ZT (r3 [] [.agg [Y5 n.decls,WV rs u]] [0] [(b2,b2)] ⟨(ZG.mk n.decls rs),rfl,rfl,(FO.fin hn.fn om Zz).1⟩ (Zd.agg (.cons (lr _) (.cons (Zd.forget _ _) .nil))))))))
theorem Z1i (s:Z5) :Zm 145 [X4 s] [] (Yw (.b ((s.op==14)||(s.op==15)))):=by
 refine ZE 11 Tryz.func145 (ar (iA (Wd s) fun b1=>Z1 (ar (Xc 8 [] [(10,.b ((s.op==14)||(s.op==15)))] (fun gz=>gz) ?_ (fun hj1=>?_)))))
 ·exact Zp (Ik)
 refine ZB 4 [0] (ib (b:=(s.op==14)) 6 (fun Ze=>?_) (fun Ze=>?_))
 ·exact Z0 4 (Ya (wk [0] (Zq true Ze fl)) hj1)
 exact ZB 4 [0] (Ya (wk [0] (Zq (s.op==15) Ze fl)) hj1)
theorem Zaa (rn:List Z5) (hrn:∀s∈rn,∃a,s.args=[a]) (hl:rn.length<=100000000:=by exact ob):Zm 169 [Vv rn] [] (fun r h=>∃(vs:LI),r=Z4 vs/\h=[]/\Cq vs/\vs.length<=rn.length/\∀v∈vs,∃s∈rn,s.args=[v]):=by
 refine ZE 22 Tryz.func169 (Y0 (ar (iL (Z6 []) 0 1 fun v1=>?_)))
 refine Z1 (Y6 (ab 0 (Y2 (fun fz gz m F h=>∃(k:Nat) (vs:LI),(k<=rn.length)/\(vs.length<=k)/\(Cq vs)/\(∀v∈vs,∃s∈rn,s.args=[v])/\F=sF [0] fz [(3,Z4 vs),(4,.i k)]/\h=[]/\m=rn.length-k) _ _ _ ⟨0,[],ob,ob,List.Pairwise.nil,(fun v hv=>by cases hv),rfl,rfl,rfl⟩ (wk [] (fc (x:=ZC [] v1) (Zd.forget _ _) (Yc fl))) ?_)))
 rintro m F h ⟨k,vs,Yj,Zg,Zz,YN,rfl,rfl,rfl⟩
 refine YQ 2 (iw (UI rn) (Y3 ((k:Int)<(rn.length:Int)) (fun Za=>?_) (fun Za=>?_)))
 ·refine ak (aq (ab 1 (az (Z0 3 ?_))))
  obtain ⟨x1,Z3⟩:=Zt rn k om
  have hxm:=Y4 Z3
  obtain ⟨xa,hxa⟩:=hrn _ hxm
  refine Zo (Zk none (k:Int) 5 (Va Z3)) (Z0 2 ?_)
  obtain ⟨x2,Zy⟩:=Zt x1.args 0 (by rw [hxa];simp)
  have hxe:x1.args=[x2]:=by have h:=Zy;rw [hxa] at h;rw [hxa];simpa using h
  refine Zo (Zk none 0 1 (Y8 Zy)) (Z0 1 (ic [] (EW vs x2) ?_))
  rintro _ _ ⟨v2,rfl,rfl⟩
  exact Z1 (az (Z0 1 (ZD k (Z1 (ZI ⟨k+1,(Uo vs x2),ob,(by have:=DY vs x2;omega),(Rf Zz),(fun v hv=>(Ff.1 hv).elim (YN v) (fun e=>⟨x1,hxm,by rw [e];exact hxe⟩)),rfl,rfl,rfl⟩ (wk [] (fc (x:=ZC (Uo vs x2) v2) (Zd.forget _ _) (ZK k fl))))))))
 exact ax 0 (ar (Zp (r1 [] ⟨vs,rfl,rfl,⟨Zz,by omega,YN⟩⟩)))
theorem Z9t (rn:List Z5) (v:Int) (hrn:∀s∈rn,∃a,s.args=[a]) (hl:rn.length<=100000000:=by exact ob):Zm 170 [Vv rn,.i v] [] (fun r h=>∃(z:Int),r=.i z/\h=[]/\-((VQ rn v:Nat):Int)<=z/\z<=((VQ rn v:Nat):Int)):=by
 refine ZE 44 Tryz.func170 (Y0 (Y0 (Y6 (ab 0 (Y2 (fun fz gz m F h=>∃(k:Nat) (z:Int),(k<=rn.length)/\(-((VQ (rn.take k) v:Nat):Int)<=z/\z<=((VQ (rn.take k) v:Nat):Int))/\F=sF [0,1] fz [(5,.i z),(6,.i k)]/\h=gz/\m=rn.length-k) _ _ _ ⟨0,0,ob,(by simp [VQ]),rfl,rfl,rfl⟩ (wk [] (fr (Yc fl))) ?_)))))
 rintro m F h ⟨k,z,Yj,Zg,rfl,rfl,rfl⟩
 refine YQ 2 (iw (UI rn) (Y3 ((k:Int)<(rn.length:Int)) (fun Za=>?_) (fun Za=>?_)))
 ·refine ak (aq (ab 1 (Yf 2 ?_)))
  obtain ⟨x1,Z3⟩:=Zt rn k om
  have hxm:=Y4 Z3
  obtain ⟨xa,hxa⟩:=hrn _ hxm
  have hct:=Z4v Z3 v
  have hcl:=Z4w rn (k+1) v
  have hcm:=O6 rn v
  refine Zo (Zk none (k:Int) 5 (Va Z3)) (Z0 2 ?_)
  obtain ⟨x2,Zy⟩:=Zt x1.args 0 (by rw [hxa];simp)
  have hg0:=QH Zy
  rw [hg0] at hct
  refine Zo (Zk none 0 1 (Y8 Zy)) (Xx [0,1,5,6] [(29,.b ((x2==v)&&(x1.op==14)))] (fun gz=>gz) ?_ ?_)
  ·refine Z0 4 (ib (b:=(x2==v)) 22 (fun Ze=>?_) (fun Ze=>?_))
   ·exact Z0 2 (Zo (Zk none (k:Int) 5 (Va Z3)) (Z1 (wk [] (Zq (x1.op==14) Ze fl))))
   exact Z1 (wk [] (Zq false Ze fl))
  refine ac ((x2==v)&&(x1.op==14)) (p:=(x2=v)/\(x1.op=14)) (YI Zi Zi) (fun Zj=>?_) (fun Zj=>?_)
  ·exact az (Z0 1 (ia ((z+1)) ((z)+(1)) (Z1 (az (Z0 1 (ZD k (Z1 (ZI ⟨k+1,(z+1),ob,(by first|(rw [hct,Zh om];omega)|(rw [hct,Zb om];omega)),rfl,rfl,rfl⟩ (wk [] (fr (ZK k fl)))))))))))
  refine Yf 2 (Zo (Zk none (k:Int) 5 (Va Z3)) (Z0 2 (Zo (Zk none 0 1 (Y8 Zy)) (YC (x2==v) Zi (fun ZF=>?_) (fun ZF=>?_)))))
  ·exact az (Z0 1 (ia ((z-1)) ((z)-(1)) (Z1 (az (Z0 1 (ZD k (Z1 (ZI ⟨k+1,(z-1),ob,(by first|(rw [hct,Zh om];omega)|(rw [hct,Zb om];omega)),rfl,rfl,rfl⟩ (wk [] (fr (ZK k fl)))))))))))
  exact ak (az (Z0 1 (ZD k (Z1 (ZI ⟨k+1,z,ob,(by first|(rw [hct,Zh om];omega)|(rw [hct,Zb om];omega)),rfl,rfl,rfl⟩ (wk [] (fr (ZK k fl))))))))
 exact ax 0 (ar (Zp (r1 [] ⟨z,rfl,rfl,(by have e:=Zg;rw [Wg om] at e;exact e)⟩)))
theorem PN (rn:List Z5) (hrn:∀s∈rn,∃a,s.args=[a]) (hl:rn.length<=100000000:=by exact ob):Zm 146 [Vv rn] [] (fun r h=>∃(D:LI) (R:LI) (v:Value),r=Xi (D.map (Zv 14)++R.map (Zv 15)) v/\h=[.tail v 5]/\D.length+R.length<=rn.length/\(∀v∈D,∃s∈rn,s.args=[v])/\∀v∈R,∃s∈rn,s.args=[v]):=by
 refine ZE 51 Tryz.func146 (Y0 (ar (iL (Z6 []) 0 1 fun v1=>Z1 (ar (iL (Z6 []) 0 1 fun v2=>Z1 (Yf 1 (ic [] (Zaa rn (hrn:=ob)) ?_)))))))
 rintro _ _ ⟨vs1,rfl,rfl,Y9⟩
 have hvo:=Y9
 have hsl:=Z26 rn hvo.1
 refine Z1 (Y6 (ab 0 (Y2 (fun fz gz m F h=>∃(k:Nat) (D:LI) (u:Value) (R:LI) (w:Value),(k<=vs1.length)/\(D.length+R.length<=VD rn (vs1.take k))/\(∀v∈D,v∈vs1)/\(∀v∈R,v∈vs1)/\F=sF [0,5] fz [(3,ZC D u),(4,ZC R w),(6,.i k)]/\h=[.tail u 1,.tail w 1]/\m=vs1.length-k) _ _ _ ⟨0,[],v1,[],v2,ob,(by simp [VD]),(fun v hv=>by cases hv),(fun v hv=>by cases hv),rfl,rfl,rfl⟩ (wk [1,0] (fw (Yc fl))) ?_)))
 rintro m F h ⟨k,D,u,R,w,Yj,Zg,Zz,YN,rfl,rfl,rfl⟩
 refine YQ 2 (iw (Ye vs1) (Y3 ((k:Int)<(vs1.length:Int)) (fun Za=>?_) (fun Za=>?_)))
 ·refine ak (aq (ab 1 (Yf 3 ?_)))
  obtain ⟨x1,Z3⟩:=Zt vs1 k om
  have hst:=Zi1 (rn:=rn) Z3
  have hsk:=Nc rn vs1 (k+1)
  have hxm:=Y4 Z3
  refine Zo (Zk none (k:Int) 1 (Y8 Z3)) (Z0 1 (ic [] (Z9t rn x1 (hrn:=ob)) ?_))
  rintro _ _ ⟨z1,rfl,rfl,Yt⟩
  have hnt:=Yt
  refine Z1 (aq (ab 2 (Y2 (fun fz gz m F h=>∃(z:Int) (D2:LI) (u2:Value) (w2:Value),((D2.length:Int)+(R.length:Int)+z<=((VD rn (vs1.take k):Nat):Int)+((VQ rn x1:Nat):Int))/\((D2.length:Int)+(R.length:Int)-z<=((VD rn (vs1.take k):Nat):Int)+((VQ rn x1:Nat):Int))/\(∀v∈D2,v∈vs1)/\F=sF [0,5,6] fz [(3,ZC D2 u2),(4,ZC R w2),(7,.i z)]/\h=[.tail u2 1,.tail w2 1]/\m=z.toNat) _ _ _ ⟨z1,D,u,w,om,om,Zz,rfl,rfl,rfl⟩ (wk [0,0] fl) ?_)))
  rintro m F h ⟨z,D2,u2,w2,Vp,Xp,XS,rfl,rfl,rfl⟩
  refine Xj (Y3 (z>0) (fun Zj=>?_) (fun Zj=>?_))
  ·exact ak (aq (ab 3 (az (Z0 3 (Zo (Zk none (k:Int) 1 (Y8 Z3)) (Z0 1 (iL (Z6 [x1]) 1 1 fun v3=>ZQ 0 [(33,Z4 [x1])] (ip 1 (Z6 (D2++[x1])) (Z6 D2) (Z6 [x1]) u2 none 1 (YD _) (YD _) (W1 _) (by simp<;>omega) (by simp [W5,Z6]) fun v4=>Z1 (az (Z0 1 (ia ((z-1)) ((z)-(1)) (Z1 (ZI ⟨(z-1),(D2++[x1]),v4,w2,(by simp only [ZV,Yp,Yx];omega),(by simp only [ZV,Yp,Yx];omega),(XF XS hxm),rfl,rfl,rfl⟩ (wk [0,1] fl))))))))))))))
  refine ax 2 (ab 4 (Y2 (fun fz gz m F h=>∃(y:Int) (R2:LI) (u3:Value) (w3:Value),((D2.length:Int)+(R2.length:Int)+y<=((VD rn (vs1.take k):Nat):Int)+((VQ rn x1:Nat):Int))/\((D2.length:Int)+(R2.length:Int)-y<=((VD rn (vs1.take k):Nat):Int)+((VQ rn x1:Nat):Int))/\(∀v∈R2,v∈vs1)/\F=sF [0,5,6] fz [(3,ZC D2 u3),(4,ZC R2 w3),(7,.i y)]/\h=[.tail u3 1,.tail w3 1]/\m=(-y).toNat) _ _ _ ⟨z,R,u2,w2,ob,ob,YN,rfl,rfl,rfl⟩ (wk [0,0] fl) ?_))
  rintro m F h ⟨y,R2,u3,w3,Gu,J9,CC,rfl,rfl,rfl⟩
  refine Xj (Y3 (y<0) (fun ZF=>?_) (fun ZF=>?_))
  ·exact ak (aq (ab 5 (az (Z0 3 (Zo (Zk none (k:Int) 1 (Y8 Z3)) (Z0 1 (iL (Z6 [x1]) 1 1 fun v5=>ZQ 0 [(44,Z4 [x1])] (ip 2 (Z6 (R2++[x1])) (Z6 R2) (Z6 [x1]) w3 none 1 (YD _) (YD _) (W1 _) (by simp<;>omega) (by simp [W5,Z6]) fun v6=>Z1 (az (Z0 1 (ia ((y+1)) ((y)+(1)) (Z1 (ZI ⟨(y+1),(R2++[x1]),u3,v6,(by simp only [ZV,Yp,Yx];omega),(by simp only [ZV,Yp,Yx];omega),(XF CC hxm),rfl,rfl,rfl⟩ (wk [2,0] fl))))))))))))))
  exact ax 4 (az (Z0 1 (ZD k (Z1 (ZI ⟨k+1,D2,u3,R2,w3,ob,(by rw [hst];omega),XS,CC,rfl,rfl,rfl⟩ (wk [0,0] (fw (ZK k fl))))))))
 have XO:=Nc rn vs1 k
 refine ax 0 (ar (ZQ 1 [(46,Z4 D)] (ic [] (KX 14 D) ?_)))
 rintro _ _ ⟨v7,rfl,rfl⟩
 refine ZQ 1 [(48,Z4 R)] (ic [] (KX 15 R) ?_)
 rintro _ _ ⟨v8,rfl,rfl⟩
 exact ZQ 0 [(49,Vv (R.map (Zv 15)))] (ip 1 (ZU ((D.map (Zv 14))++(R.map (Zv 15)))) (ZU (D.map (Zv 14))) (ZU (R.map (Zv 15))) v7 none 5 (XG _) (XG _) (Ut _) (by simp<;>omega) (by simp [VA,ZU]) fun v9=>Zp (r2 [0] [Xi ((D.map (Zv 14))++(R.map (Zv 15))) v9] ⟨_,_,v9,rfl,rfl,⟨by have:=Nc rn vs1 k;omega,fun v hv=>hvo.2.2 v (Zz v hv),fun v hv=>hvo.2.2 v (YN v hv)⟩⟩ (Zd.slh _ (Yo ZU ob))))
theorem Z8r (ds:List Zc) (nf:Nat) (b:Z8) (mm:Nat) (hf:fB ds nf mm b) (hop:Vw VH b) (hz:b.sz<=100000000) (ih:∀(b2:Z8) (m2:Nat),(fB ds nf m2 b2)->(Vw VH b2)->(b2.sz<=100000000)->(b2.sz<b.sz)->Zm 120 [Yl b2] [] (fun r h=>∃(y:Z8),r=Yl y/\h=[]/\KB ds nf m2 y b2.sz)):Zm 120 [Yl b] [] (fun r h=>∃(y:Z8),r=Yl y/\h=[]/\KB ds nf mm y b.sz):=by
 have hbe:=b.sz_eq
 have ZM:=UG b
 obtain ⟨hfs,hr1,hr2⟩:=(Jf b).1 hf
 have hos:=Dd.1 ((HI b).1 hop)
 refine ZE 72 Tryz.func120 (ar (iA (XY b) fun b1=>iA [nl,.i 0] fun b2=>ie (ar (iL (ZU []) 0 5 fun v1=>Z1 (ar (iL (ZU []) 0 5 fun v2=>?_))))))
 refine Z1 (Y6 (ab 0 (Y2 (fun fz gz m F h=>∃(k:Nat) (xs:List Z5) (v:Value) (rn:List Z5) (u:Value) (z0:Nat),(k<=b.steps.length)/\(CL ds nf mm xs (Yr (b.steps.take k)) z0)/\(z0+2*rn.length<=Yu (b.steps.take k))/\(Nz (mm+(Yr (b.steps.take k))) rn)/\F=sF [1,2] fz [(3,Xi xs v),(4,Xi rn u),(5,.i k)]/\h=[Zf gz 2,Zf gz 3,.tail u 5,.tail v 5]/\m=b.steps.length-k) _ _ _ ⟨0,[],v1,[],v2,0,ob,CL.nil,(by simp [Yu]),(fun s hs=>by cases hs),rfl,rfl,rfl⟩ (wk [2,2,0,0] (fw (Yc fl))) ?_)))
 rintro m F h ⟨k,xs,v,rn,u,z0,Yj,Zg,Zz,YN,rfl,rfl,rfl⟩
 refine Ym 3 [1] (iw (UI b.steps) (Y3 ((k:Int)<(b.steps.length:Int)) (fun Za=>?_) (fun Za=>?_)))
 ·refine ak (aq (ab 1 (Zl 3 [1] ?_)))
  obtain ⟨x1,Z3⟩:=Zt b.steps k om
  have XO:=Dj Z3
  have hfS:=(Bc x1).1 (DN hfs Z3)
  have hoS:=(Fv x1).1 (hos x1 (Y4 Z3))
  have htk:=If Z3
  have htl:=KZ b.steps (k+1)
  have hse:=(x1).sz_eq
  have hdt:=Om Z3
  have hxl:=Zg.len
  have hkl2:=Gr (x1).kids
  refine Zo (Zk none (k:Int) 5 (Va Z3)) (Z0 1 (iA [.i 0,.i 0,.i 0,nl,nl] fun b3=>Zx 0 b3 (Wd x1) (ie (Zl 1 [0] (Zu [] (Z1i x1) (ie (ac ((x1.op==14)||(x1.op==15)) (p:=(x1.op=14)∨(x1.op=15)) (Y1 Zi Zi) (fun Zj=>?_) (fun Zj=>?_))))))))
  ·refine az (ZB 2 [0] (UO [X4 x1] (ZU [x1]) (Ub [x1]).symm 1 5 fun v3=>ZQ 0 [(27,Vv [x1])] (ip 4 (ZU (rn++[x1])) (ZU rn) (ZU [x1]) u none 5 (XG _) (XG _) (Ut _) (by simp<;>omega) (by simp [VA,ZU]) fun v4=>Z1 (az (Z0 1 (ZD k (Z1 ?_)))))))
   obtain ⟨⟨pa,hpa,hpr⟩,Yt,hpc⟩:=hfS.pair (by assumption)
   rw [Zh hpc,BC] at hdt
   exact ZI ⟨k+1,xs,v,(rn++[x1]),v4,_,ob,(by rw [hdt];exact Zg),(by rw [htk];simp only [ZV,Yp,Yx];omega),(by rw [hdt];exact XF YN ⟨pa,hpa,hpr⟩),rfl,rfl,rfl⟩ (wk [3,3,0,2] (fw (ZK k fl)))
  refine ar (ZQ 2 [(30,Vv rn)] (ic [] (PN rn (hrn:=(fun s hs=>(YN s hs).elim fun a h=>⟨a,h.1⟩))) ?_))
  rintro _ _ ⟨D1,R1,v5,rfl,rfl,Y9⟩
  have hsr:=Y9
  have hq1:=Zg.run YN hsr.2.1 hsr.2.2
  have hl1:=Zg.len
  have htl1:=KZ b.steps k
  refine ZQ 0 [(31,Vv (D1.map (Zv 14)++R1.map (Zv 15)))] (ip 5 (ZU (xs++(D1.map (Zv 14)++R1.map (Zv 15)))) (ZU xs) (ZU (D1.map (Zv 14)++R1.map (Zv 15))) v none 5 (XG _) (XG _) (Ut _) (by simp<;>omega) (by simp [VA,ZU]) fun v6=>Z1 (ar (iL (ZU []) 0 5 fun v7=>Z1 (ar (iL (XP []) 0 2 fun v8=>?_)))))
  refine Z1 (Y6 (ab 2 (Y2 (fun fz gz m F h=>∃(j:Nat) (ks:List Z8) (w:Value) (v3:Value) (u4:Value),(j<=x1.kids.length)/\(ks.length=j)/\(KK ds nf (V3 ds x1.op x1.num (mm+(Yr (b.steps.take k)))) ks (YU (x1.kids.take j)))/\F=sF [1,2,5,6] fz [(3,Xi (xs++(D1.map (Zv 14)++R1.map (Zv 15))) v3),(4,Xi [] u4),(7,Qw ks w),(8,.i j)]/\h=[Zf gz 4,Zf gz 5,Zf gz 6,.tail u4 5,.tail v3 5,.tail w 2]/\m=x1.kids.length-j) _ _ _ ⟨0,[],v8,v6,v7,ob,ob,(KK.nil.le (QB _)),rfl,rfl,rfl⟩ (wk [4,4,4,1,1,0] (fw (fr (Yc fl)))) ?_)))
  rintro m F h ⟨j,ks,w,v3,u4,Vp,Xp,XS,rfl,rfl,rfl⟩
  refine Ym 3 [0] (iw (KE x1.kids) (Y3 ((j:Int)<(x1.kids.length:Int)) (fun ZF=>?_) (fun ZF=>?_)))
  ·refine ak (aq (ab 3 (az (ZB 4 [0] ?_))))
   obtain ⟨x2,Zy⟩:=Zt x1.kids j om
   have hkz:=Qu Zy
   have hfk:=BR hfS.kids Zy
   rw [Wf] at hfk
   have hok:=Eb.1 hoS.2 x2 (Y4 Zy)
   have hbt:=Gs Zy
   refine Zo (Zk none (j:Int) 2 (T0 Zy)) (Z0 1 (ic [] (ih x2 (V3 ds x1.op x1.num (mm+(Yr (b.steps.take k))) j) hfk hok ob ob) ?_))
   rintro _ _ ⟨y1,rfl,rfl,Yt⟩
   have hkb:=Yt
   exact UO [Yl y1] (XP [y1]) (K6 [y1]).symm 1 2 fun v9=>ZQ 0 [(49,JZ [y1])] (ip 6 (XP (ks++[y1])) (XP ks) (XP [y1]) w none 2 (Jb _) (Jb _) (GG _) (by simp<;>omega) (by simp [CJ,XP]) fun v10=>Z1 (az (Z0 1 (ZD j (Z1 (ZI ⟨j+1,(ks++[y1]),v10,v3,u4,ob,ob,((XS.snoc Xp hkb).le om),rfl,rfl,rfl⟩ (wk [2,2,2,2,2,0] (fw (fr (ZK j fl))))))))))
  refine ax 2 (aE 15 (ZX 5 15 [0,1,2,3,4,5,6,7,8,10] [0,0,0,0] (Z7 9 (dc 9 [] [0,0,0] [b3,b3,b3] (WX x1.args) ?_))))
  rintro _ _ ⟨v11,rfl,rfl⟩
  refine Yq 3 4 [11] [(62,.agg [.i x1.op,.i x1.num,.i x1.into,Z4 x1.args,JZ ks])] (Z7 12 (WG 12 [] [] [X4 (Z5.mk x1.op x1.num x1.into x1.args ks)] (ZU [Z5.mk x1.op x1.num x1.into x1.args ks]) (Ub [Z5.mk x1.op x1.num x1.into x1.args ks]).symm 1 5 fun v12=>Yq 2 2 [] [(63,Vv [Z5.mk x1.op x1.num x1.into x1.args ks])] (Z7 13 (dp 13 6 [] [] (ZU ((xs++(D1.map (Zv 14)++R1.map (Zv 15)))++[Z5.mk x1.op x1.num x1.into x1.args ks])) (ZU (xs++(D1.map (Zv 14)++R1.map (Zv 15)))) (ZU [Z5.mk x1.op x1.num x1.into x1.args ks]) v3 none 5 (XG _) (XG _) (Ut _) (by simp<;>omega) (by simp [VA,ZU]) fun v13=>Zs 0 1 [14] (de (az (Z0 1 (ZD k (Z1 ?_)))))))))
  obtain ⟨hn1,hn2⟩:=hfS.not_pair (by assumption) hoS.1
  rw [Zb (by rw [hn2];simp)] at hdt
  have hbj:=IV (xs:=x1.kids) (k:=j) om
  have hkt:=KT.eq hfS hn1 om XS
  have hq2:=hq1.kt hkt
  exact ZI ⟨k+1,((xs++(D1.map (Zv 14)++R1.map (Zv 15)))++[Z5.mk x1.op x1.num x1.into x1.args ks]),v13,[],u4,_,ob,(by rw [hdt];exact hq2),(by rw [htk];simp only [Yx];omega),(fun s hs=>by cases hs),rfl,rfl,rfl⟩ (wk [4,4,4,0] (fw (ZK k fl)))
 have htl2:=KZ b.steps k
 have hxl2:=Zg.len
 refine ax 0 (aD 8 (DB 4 8 [0,1,4,5] [(66,Vv rn)] [1] (Z7 2 (dc 2 [] [1] [b1] (PN rn (hrn:=(fun s hs=>(YN s hs).elim fun a h=>⟨a,h.1⟩))) ?_))))
 rintro _ _ ⟨D2,R2,v14,rfl,rfl,YS⟩
 have hsr:=YS
 have hq1:=Zg.run YN hsr.2.1 hsr.2.2
 have hl1:=Zg.len
 have htl1:=KZ b.steps k
 exact Yq 3 3 [] [(67,Vv (D2.map (Zv 14)++R2.map (Zv 15)))] (Z7 3 (dp 3 4 [1] [b1] (ZU (xs++(D2.map (Zv 14)++R2.map (Zv 15)))) (ZU xs) (ZU (D2.map (Zv 14)++R2.map (Zv 15))) v none 5 (XG _) (XG _) (Ut _) (by simp<;>omega) (by simp [VA,ZU]) fun v15=>Zs 1 2 [6] (Z7 7 (X0 7 2 [] [] b2 [Xi (xs++(D2.map (Zv 14)++R2.map (Zv 15))) v15,.i b.result] (de (ZT (r3 [] [.agg [Xi (xs++(D2.map (Zv 14)++R2.map (Zv 15))) v15,.i b.result]] [0] [(b2,b2)] ⟨(Z8.mk (xs++(D2.map (Zv 14)++R2.map (Zv 15))) b.result),rfl,rfl,(by have e:b.steps.take k=b.steps:=Wg om;rw [e] at Zz hq1;exact (hq1.block ⟨hr1,hr2⟩).le om)⟩ (Zd.agg (.cons (Zd.forget _ _) (.cons (lr _) .nil))))))))))
theorem Z8q (ds:List Zc) (nf:Nat) (b:Z8) (mm:Nat) (hf:fB ds nf mm b:=by exact ob) (hop:Vw VH b:=by exact ob) (hz:b.sz<=100000000:=by exact ob):Zm 120 [Yl b] [] (fun r h=>∃(y:Z8),r=Yl y/\h=[]/\KB ds nf mm y b.sz):=by
 have key:∀k:Nat,∀(b2:Z8) (m2:Nat),(fB ds nf m2 b2)->(Vw VH b2)->(b2.sz<=100000000)->(b2.sz<k)->Zm 120 [Yl b2] [] (fun r h=>∃(y:Z8),r=Yl y/\h=[]/\KB ds nf m2 y b2.sz):=by
  intro k
  induction k with
  | zero=>intro b2 m2 h1 h2 h3 h9;omega
  | succ k ih=>intro b2 m2 h1 h2 h3 h9;exact Z8r ds nf b2 m2 h1 h2 h3 fun b3 m3 q1 q2 q3 q9=>ih b3 m3 q1 q2 q3 om
 exact key (b.sz+1) b mm hf hop hz om
theorem Z8s (n:ZG) (qz:Nat) (hn:FO n qz VH:=by exact ob) (hqz:qz<=10000000:=by exact ob):Zm 78 [YF n] [] (fun r h=>∃(n2:ZG),r=YF n2/\h=[]/\FO n2 qz VH):=by
 have hnl:=hn.fn.len
 have Xq:=hn.fn.decls.ok
 have hok:=hn.fn.ok
 refine ZE 36 Tryz.func78 (ar (iA (X8 n) fun b1=>iA [nl,nl] fun b2=>ie (Zl 2 [1] (Zu [] (Bs n.decls) (iL (Xa []) 0 5 fun v1=>Z0 1 (iA [nl,nl] fun b3=>?_))))))
 refine Zx 0 b3 [Y5 n.decls,WV [] v1] (ie (Y6 (ab 0 (Y2 (fun fz gz m F h=>∃(k:Nat) (rs:List YE) (u:Value),(k<=n.routines.length)/\(rs.length=k)/\(∀r∈rs,RF n.decls n.routines.length qz VH r)/\F=sF [1,2,3] fz [(4,.i k)]/\h=[.obj b3 [Y5 n.decls,WV rs u],Zf gz 2,Zf gz 3,.tail u 5]/\m=n.routines.length-k) _ _ _ ⟨0,[],v1,ob,ob,(fun r hr=>by cases hr),rfl,rfl,rfl⟩ (wk [0,1,1,0] (Yc fl)) ?_))))
 rintro m F h ⟨k,rs,u,Yj,Zg,Zz,rfl,rfl,rfl⟩
 refine Ym 3 [2] (iw (Q3 n.routines) (Y3 ((k:Int)<(n.routines.length:Int)) (fun Za=>?_) (fun Za=>?_)))
 ·refine ak (aq (ab 1 (aE 19 (ZX 14 19 [0,1,2,3,4] [0,2] ?_))))
  obtain ⟨x1,Z3⟩:=Zt n.routines k om
  have hrf:=hn.rf (Y4 Z3)
  have hrp:(x1).params.length<=3:=(Tw.bd (f:=⟨(x1).params,(x1).result,default⟩) hrf.sig).1
  have hrl:=hrf.lent.1
  have hrz:=hrf.body.2
  refine dx 5 (Zk none (k:Int) 5 (VR Z3)) (ZX 9 13 [6,7,8,9] [2] (dx 10 (Zk none (k:Int) 5 (VR Z3)) (Zs 6 8 [11,12] (Z7 13 (dc 13 [] [2,0] [b1,b3] (Z8q n.decls n.routines.length x1.body _ (hf:=hrf.body.1) (hop:=hrf.op)) ?_)))))
  rintro _ _ ⟨y1,rfl,rfl,Y9⟩
  have hkb0:=Y9
  have hkb:=hkb0.le (z2:=qz) hrz
  exact Z7 14 (YK 14 [] [0] [b3] (En x1 y1 (hp:=om) (hl:=om)) (Z7 15 (dL 15 [0] [b3] (Xa [YE.mk x1.params x1.lent x1.result y1]) 1 5 fun v2=>Yq 3 3 [] [(32,A0 [YE.mk x1.params x1.lent x1.result y1])] (Z7 16 (dp 16 4 [] [] (Xa (rs++[YE.mk x1.params x1.lent x1.result y1])) (Xa rs) (Xa [YE.mk x1.params x1.lent x1.result y1]) u none 5 (Tf _) (Tf _) (BP _) (by simp<;>omega) (by simp [DI,Xa]) fun v3=>Zs 1 2 [17] (Z7 18 (X0 18 2 [] [] b3 [Y5 n.decls,WV (rs++[YE.mk x1.params x1.lent x1.result y1]) v3] (de (az (Z0 1 (ZD k (Z1 (ZI ⟨k+1,(rs++[YE.mk x1.params x1.lent x1.result y1]),v3,ob,ob,(XF Zz (hrf.with hkb.fb hkb.sz hkb.op)),rfl,rfl,rfl⟩ (wk [0,2,2,0] (ZK k fl)))))))))))))))
 exact ax 0 (Zl 1 [0] (Zx 1 b2 [Y5 n.decls,WV rs u] (ie (ZT (r3 [] [.agg [Y5 n.decls,WV rs u]] [0] [(b2,b2)] ⟨(ZG.mk n.decls rs),rfl,rfl,(FO.fin hn.fn om Zz).1⟩ (Zd.agg (.cons (lr _) (.cons (Zd.forget _ _) .nil))))))))
theorem RC (b:Nat) (ga:Hd) (gb:Hd) (gc:Hd) (gd:Hd) (ge:Hd) (gf:Hd) (n:ZG) (s:Z5) (L:ZL) (ln:LI) (q:Int) (i:Nat) (kb0:Z8) (m:LI) (hn:Xw n:=by exact ob) (hk:XJ n.decls L q:=by exact ob) (hf:Cs n L.vars s:=by exact ob) (hop:s.op=7∨s.op=8:=by exact ob) (hkb:s.kids[i]? = some kb0:=by exact ob) (harm:(W4 n.decls s.op s.num)[i]? = some m:=by exact ob) (hbt:0<=W6 n (L.vars++m) kb0:=by exact ob) (hb:L.vars.length+4*s.sz<=1000000000:=by exact ob) (hq:0<=q/\q+4*s.sz<=999999990:=by exact ob) (hln:ln.length<=4294967296:=by exact ob) (ih:∀(b2:Z8) (c:Nat) (ra:Hd) (rb:Hd) (rc:Hd) (rd:Hd) (re:Hd) (rf:Hd) (M:ZL) (mm:Nat) (p:Int),(b2.sz<s.sz)->(XJ n.decls M p)->(0<=W6 n M.vars b2)->(mm<=M.vars.length)->(M.vars.length+4*b2.sz<=1000000000)->(0<=p/\p+4*b2.sz<=999999990)->Zm 227 [.p c 0,YF n,Yl b2,.i mm] [.obj c [.h ra,.h rb,.h rc,.h rd,.h re,.h rf,Z4 ln],rV ra M.vars,rV rb M.own,rV rc M.par,rV rd M.con,rV re M.fst,rV rf M.tok] (fun r h=>(∃(wa:Hd) (wb:Hd) (wc:Hd) (wd:Hd) (we:Hd) (wf:Hd) (M':ZL),r=.b true/\h=[.obj c [.h wa,.h wb,.h wc,.h wd,.h we,.h wf,Z4 ln],rV wa M'.vars,rV wb M'.own,rV wc M'.par,rV wd M'.con,rV we M'.fst,rV wf M'.tok]/\U7 n ln M mm b2=some M')∨(r=.b false/\h=[]/\U7 n ln M mm b2=none))):Zm 206 [.p b 0,YF n,X4 s,.i i] [.obj b [.h ga,.h gb,.h gc,.h gd,.h ge,.h gf,Z4 ln],rV ga L.vars,rV gb L.own,rV gc L.par,rV gd L.con,rV ge L.fst,rV gf L.tok] (fun r h=>(∃(c:Nat) (wa:Hd) (wb:Hd) (wc:Hd) (wd:Hd) (we:Hd) (wf:Hd) (L':ZL),r=.tup [.p c 0,.b true]/\h=[.obj c [.h wa,.h wb,.h wc,.h wd,.h we,.h wf,Z4 ln],rV wa L'.vars,rV wb L'.own,rV wc L'.par,rV wd L'.con,rV we L'.fst,rV wf L'.tok,.obj b [.h ga,.h gb,.h gc,.h gd,.h ge,.h gf,Z4 ln],rV ga L.vars,rV gb L.own,rV gc L.par,rV gd L.con,rV ge L.fst,rV gf L.tok]/\U7 n ln (TT n.decls L s.op s.num s.args i) L.vars.length kb0=some L')∨(r=.tup [.any,.b false]/\h=[.obj b [.h ga,.h gb,.h gc,.h gd,.h ge,.h gf,Z4 ln],rV ga L.vars,rV gb L.own,rV gc L.par,rV gd L.con,rV ge L.fst,rV gf L.tok]/\U7 n ln (TT n.decls L s.op s.num s.args i) L.vars.length kb0=none)):=by
 obtain ⟨e1,e2,e3,e4,e5⟩:=hk.len
 have Xq:=hn.decls
 have hkz:=Kg s
 have haz:=JE s
 have hK:=Ht hk hq.1 hf hop harm
 have hm3:=NO Xq harm
 have hkl:=(X9.1 hkb).1
 have hks:=Qu hkb
 refine ZE 83 Tryz.func206 (ar (iA (X8 n) fun b1=>iA (Wd s) fun b2=>Z1 (Zl 4 [2] (Zo (Dm 3 ga L.vars) (Z1 (Yf 1 (ic [2,2,2,2,2,2,2] (Zci b ga gb gc gd ge gf L ln (hlk:=hk.len)) ?_)))))))
 rintro _ _ ⟨c1,wa1,wb1,wc1,wd1,we1,wf1,rfl,rfl⟩
 refine Z1 (Xj (V2 [14] (ac (s.op==8) Zi (fun Za=>?_) (fun Za=>?_))))
 ·obtain ⟨x,hxa⟩:=hf.one om
  have ha:s.args[0]? = some x:=by rw [hxa];rfl
  have hx:=hf.args x (by rw [hxa];simp)
  obtain ⟨cc,hcc,hmc⟩:=Z44 Za harm
  have hal:=(X9.1 ha).1
  have hcl:=(X9.1 hcc).1
  have hm4:=hm3
  rw [hmc] at hm4
  refine Zl 4 [15,14] (ic [] (Jr n.decls s.num) ?_)
  rintro _ _ ⟨v1,rfl,rfl⟩
  refine Z0 1 (Zo (Zk (some v1) (i:Int) 1 (Y8 hcc)) (Z1 (Zl 3 [16] (Zu [] (Qy n.decls cc) (Z1 (aD 11 (ZX 5 11 [0,1,2,3,4,5] [1,15] (dx 6 (Zk none 0 1 (Y8 ha)) (Zs 2 4 [7,8] (dx 9 (Uj 5 wd1 L.con x x.toNat (hq:=rfl)) (Z7 10 (CG 10 5 [] [] wd1 L.con x.toNat cc (de (aD 11 (ZX 5 11 [0,1,2,3,4,5] [2,15] (dx 6 (Zk none 0 1 (Y8 ha)) (Zs 2 4 [7,8] (dx 9 (Uj 6 we1 L.fst x x.toNat (hq:=rfl)) (Z7 10 (CG 10 6 [] [] we1 L.fst x.toNat (L.vars.length:Int) (de (Y0 (ab 0 (Y2 (fun fz gz m F h=>∃(k:Nat) (L3:ZL) (ka:Hd) (kb:Hd) (kc:Hd) (kd:Hd) (ke:Hd) (kf:Hd),(k<=(ZO n.decls cc).length)/\(Tv L3)/\(L3.vars.length=L.vars.length+k)/\(CV L3 x ((ZO n.decls cc).drop k)=Cy n.decls L x cc)/\F=sF [3,5,6,10,11,13] fz [(14,.i k)]/\h=[.obj c1 [.h ka,.h kb,.h kc,.h kd,.h ke,.h kf,Z4 ln],Zf gz 8,Zf gz 9,Zf gz 10,Zf gz 11,Zf gz 12,Zf gz 13,Zf gz 14,Zf gz 15,Zf gz 16,rV ka L3.vars,rV kb L3.own,rV kc L3.par,rV kd L3.con,rV ke L3.fst,rV kf L3.tok]/\m=(ZO n.decls cc).length-k) _ _ _ ⟨0,(ZL.mk L.vars L.own L.par (L.con.set x.toNat cc) (L.fst.set x.toNat (L.vars.length:Int)) L.tok),wa1,wb1,wc1,wd1,we1,wf1,ob,(Tv.arm hk.len),ob,(by rw [Cy];rfl),rfl,rfl,rfl⟩ (wk [3,7,7,7,7,7,7,7,7,7,3,3,3,1,0,1] (Yc fl) (e:=(rc (rc (rc (rc (rc (rc (rc (rc (rc (rc (rv (xs:=L.vars) ob (rv (xs:=L.own) ob (rv (xs:=L.par) ob (rv (xs:=(L.con.set x.toNat cc)) ob (rv (xs:=(L.fst.set x.toNat (L.vars.length:Int))) ob (rv (xs:=L.tok) ob rz)))))))))))))))))) ?_))))))))))))))))))))))))
  rintro m F h ⟨k,L3,ka,kb,kc,kd,ke,kf,Yj,Zg,Zz,YN,rfl,rfl,rfl⟩
  refine YQ 2 (io (.i (((ZO n.decls cc).length:Nat):Int)) (.i (((Z6 (ZO n.decls cc)).length:Nat):Int)) (li (by rw [Ye])) (Y3 ((k:Int)<(((ZO n.decls cc).length:Nat):Int)) (fun Zj=>?_) (fun Zj=>?_)))
  ·refine ak (aq (ab 1 (aE 10 (Zs 7 10 [0,1,2] ?_))))
   obtain ⟨x1,Z3⟩:=Zt (ZO n.decls cc) k om
   refine dx 3 (Zk none (k:Int) 1 (Y8 Z3)) (ZX 3 6 [4,5,6] [8] (dx 7 (Zk none 0 1 (Y8 ha)) (Zs 1 2 [8] (Z7 9 (dc 9 [0,9,9,9,9,9,9] [] [] (KN c1 ka kb kc kd ke kf L3 ln x1 0 x (hlk:=Zg)) ?_)))))
   rintro _ _ ⟨wa2,wb2,wc2,wd2,we2,wf2,rfl⟩
   exact de (az (Z0 1 (ZD k (Z1 (ZI ⟨k+1,(L3.grow x1 0 x),wa2,wb2,wc2,wd2,we2,wf2,ob,(Tv.grow Zg),(by simp [ZL.grow];omega),(by rw [Yi Z3,CV] at YN;exact YN),rfl,rfl,rfl⟩ (wk [0,6,6,6,6,6,6,6,6,6,0,0,0,0,0,0] (ZK k fl)))))))
  have hE:TT n.decls L s.op s.num s.args i=L3:=by rw [Zc0 Za ha hcc,<-YN,Xn om];rfl
  refine ax 0 (aD 12 (ZX 6 12 [0,1,2,3,4,5] [9,8] (dx 6 (Zk none (i:Int) 2 (T0 hkb)) (Zs 3 5 [7,8] (Z7 9 (dc 9 [0,9,9,9,9,9,9] [] [] (ih kb0 c1 ka kb kc kd ke kf L3 L.vars.length q ob (by rw [<-hE];exact hK.1) (by rw [<-hE,hK.2];exact hbt) (by rw [<-hE,hK.2];simp) (by rw [<-hE,hK.2,ZV];omega) ob) ?_))))))
  rintro _ _ (⟨wa3,wb3,wc3,wd3,we3,wf3,M'1,rfl,rfl,Y9⟩|⟨rfl,rfl,Yt⟩)
  ·exact Zs 0 2 [10,11] (de (ZT (r2 [0,0,0,0,0,0,0,0,0,0,0,0,0,0] [.p c1 0,.b true] (.inl ⟨c1,wa3,wb3,wc3,wd3,we3,wf3,M'1,rfl,rfl,(by rw [hE];exact Y9)⟩) (lr _))))
  exact Zs 0 2 [10,11] (de (ZT (r2 [0,0,0,0,0,0,0] [.p c1 0,.b false] (.inr ⟨rfl,rfl,(by rw [hE];exact Yt)⟩) (Zd.tup (.cons (Zd.any _) (.cons (lr _) .nil))))))
 have hE:=Zc1 (ds:=n.decls) (L:=L) (num:=s.num) (args:=s.args) (i:=i) Za
 refine ak (aD 12 (ZX 6 12 [0,1,2,3,4,5] [15,14] (dx 6 (Zk none (i:Int) 2 (T0 hkb)) (Zs 3 5 [7,8] (Z7 9 (dc 9 [0,0,0,0,0,0,0] [] [] (ih kb0 c1 wa1 wb1 wc1 wd1 we1 wf1 L L.vars.length q ob (by rw [<-hE];exact hK.1) (by rw [<-hE,hK.2];exact hbt) (by rw [<-hE,hK.2];simp) (by rw [<-hE,hK.2,ZV];omega) ob) ?_))))))
 rintro _ _ (⟨wa4,wb4,wc4,wd4,we4,wf4,M'2,rfl,rfl,YS⟩|⟨rfl,rfl,X2⟩)
 ·exact Zs 0 2 [10,11] (de (ZT (r2 [0,0,0,0,0,0,0,0,0,0,0,0,0,0] [.p c1 0,.b true] (.inl ⟨c1,wa4,wb4,wc4,wd4,we4,wf4,M'2,rfl,rfl,(by rw [hE];exact YS)⟩) (lr _))))
 exact Zs 0 2 [10,11] (de (ZT (r2 [0,0,0,0,0,0,0] [.p c1 0,.b false] (.inr ⟨rfl,rfl,(by rw [hE];exact X2)⟩) (Zd.tup (.cons (Zd.any _) (.cons (lr _) .nil))))))
theorem Zch (b:Nat) (ga:Hd) (gb:Hd) (gc:Hd) (gd:Hd) (ge:Hd) (gf:Hd) (n:ZG) (s:Z5) (L:ZL) (ln:LI) (q:Int) (hn:Xw n:=by exact ob) (hk:XJ n.decls L q:=by exact ob) (hf:Cs n L.vars s:=by exact ob) (hop:s.op=7∨s.op=8:=by exact ob) (hb:L.vars.length+4*s.sz<=1000000000:=by exact ob) (hq:0<=q/\q+4*s.sz<=999999990:=by exact ob) (hln:ln.length<=4294967296:=by exact ob) (ih:∀(b2:Z8) (c:Nat) (ra:Hd) (rb:Hd) (rc:Hd) (rd:Hd) (re:Hd) (rf:Hd) (M:ZL) (mm:Nat) (p:Int),(b2.sz<s.sz)->(XJ n.decls M p)->(0<=W6 n M.vars b2)->(mm<=M.vars.length)->(M.vars.length+4*b2.sz<=1000000000)->(0<=p/\p+4*b2.sz<=999999990)->Zm 227 [.p c 0,YF n,Yl b2,.i mm] [.obj c [.h ra,.h rb,.h rc,.h rd,.h re,.h rf,Z4 ln],rV ra M.vars,rV rb M.own,rV rc M.par,rV rd M.con,rV re M.fst,rV rf M.tok] (fun r h=>(∃(wa:Hd) (wb:Hd) (wc:Hd) (wd:Hd) (we:Hd) (wf:Hd) (M':ZL),r=.b true/\h=[.obj c [.h wa,.h wb,.h wc,.h wd,.h we,.h wf,Z4 ln],rV wa M'.vars,rV wb M'.own,rV wc M'.par,rV wd M'.con,rV we M'.fst,rV wf M'.tok]/\U7 n ln M mm b2=some M')∨(r=.b false/\h=[]/\U7 n ln M mm b2=none))):Zm 167 [.p b 0,YF n,X4 s] [.obj b [.h ga,.h gb,.h gc,.h gd,.h ge,.h gf,Z4 ln],rV ga L.vars,rV gb L.own,rV gc L.par,rV gd L.con,rV ge L.fst,rV gf L.tok] (fun r h=>(∃(wa:Hd) (wb:Hd) (wc:Hd) (wd:Hd) (we:Hd) (wf:Hd) (L':ZL),r=.b true/\h=[.obj b [.h wa,.h wb,.h wc,.h wd,.h we,.h wf,Z4 ln],rV wa L'.vars,rV wb L'.own,rV wc L'.par,rV wd L'.con,rV we L'.fst,rV wf L'.tok]/\CD n ln L s=some L')∨(r=.b false/\h=[]/\CD n ln L s=none)):=by
 obtain ⟨e1,e2,e3,e4,e5⟩:=hk.len
 have Xq:=hn.decls
 have hkz:=Kg s
 have haz:=JE s
 obtain ⟨hk1,hk2,hk3⟩:=hf.kids hop
 obtain ⟨kd,hkd⟩:=Zt s.kids 0 om
 obtain ⟨m0,hm0⟩:=Zt (W4 n.decls s.op s.num) 0 om
 obtain ⟨x,hxa⟩:=hf.one om
 have ha:s.args[0]? = some x:=by rw [hxa];rfl
 have hx:=hf.args x (by rw [hxa];simp)
 have hgx:=QH ha
 have hal:=(X9.1 ha).1
 refine ZE 88 Tryz.func167 (ar (iA (X8 n) fun b1=>iA (Wd s) fun b2=>Z1 (Xj (Xx [0,4,5] [(23,.b ((s.op==8)&&(!Ta L ln x)))] (fun gz=>[Zf gz 2,Zf gz 3,Zf gz 4,Zf gz 5,Zf gz 6,Zf gz 7,Zf gz 8,Zf gz 0,Zf gz 1]) ?_ ?_))))
 ·refine ZB 4 [0] (ib (b:=(s.op==8)) 15 (fun Ze=>?_) (fun Ze=>?_))
  ·exact ZB 3 [0] (Zo (Zk none 0 1 (Y8 ha)) (Z0 1 (Zu [2,2,2,2,2,2,2] (Hx b ga gb gc gd ge gf L ln x (hlk:=hk.len) (hd:=hk.down)) (Z1 (Zw 9 (Zq (!Ta L ln x) Ze fl))))))
  exact Z1 (wk [2,2,2,2,2,2,2,0,0] (Zq false Ze fl))
 refine ac ((s.op==8)&&(!Ta L ln x)) (p:=(s.op=8)/\(¬(Ta L ln x=true))) (YI Zi (Ys Iff.rfl)) (fun Za=>?_) (fun Za=>?_)
 ·exact ar (Zp (r1 [] (.inr ⟨rfl,rfl,(by rw [CD,Zh (by rw [hgx];exact Za)])⟩)))
 have hgo:=Z4p (n:=n) (ln:=ln) (L:=L) (s:=s) (by rw [hgx];exact Za) hkd
 refine ak (Zl 3 [8,7] (ic [0,0,0,0,0,0,0] (RC b ga gb gc gd ge gf n s L ln q 0 kd m0 (hkb:=hkd) (harm:=hm0) (hbt:=(hk3 0 kd m0 hkd hm0)) (ih:=ob)) ?_))
 rintro _ _ (⟨c1,wa1,wb1,wc1,wd1,we1,wf1,L'1,rfl,rfl,YS⟩|⟨rfl,rfl,X2⟩)
 ·have hone:=YS
  obtain ⟨l1,l2⟩:=Rt hn hk hq.1 hf hop hkd hm0 (hk3 0 kd m0 hkd hm0) hone
  refine Z1 (Y6 (V9 (ak (Y6 (ab 0 (Y2 (fun fz gz m F h=>∃(k:Nat),(1<=k/\k<=s.kids.length)/\(JT n ln L s.op s.num s.args L'1 (s.kids.drop k) k=JT n ln L s.op s.num s.args L'1 (s.kids.drop 1) 1)/\F=sF [0,4,5,7] fz [(9,.i k)]/\h=gz/\m=s.kids.length-k) _ _ _ ⟨1,ob,ob,rfl,rfl,rfl⟩ (Zw 16 (fc (x:=.i 1) li fl)) ?_))))))
  rintro m F h ⟨k,Yj,Zg,rfl,rfl,rfl⟩
  refine Ym 3 [14] (iw (KE s.kids) (Y3 ((k:Int)<(s.kids.length:Int)) (fun Zj=>?_) (fun Zj=>?_)))
  ·obtain ⟨ke,hke⟩:=Zt s.kids k om
   obtain ⟨mk,hmk⟩:=Zt (W4 n.decls s.op s.num) k om
   have hcs:=Zc3 (n:=n) (ln:=ln) (L:=L) (op:=s.op) (num:=s.num) (args:=s.args) (one:=L'1) hke
   refine ak (aq (ab 1 (Zl 4 [15,14] (ic [7,7,7,7,7,7,7] (RC b ga gb gc gd ge gf n s L ln q k ke mk (hkb:=hke) (harm:=hmk) (hbt:=(hk3 k ke mk hke hmk)) (ih:=ob)) ?_))))
   rintro _ _ (⟨c2,wa2,wb2,wc2,wd2,we2,wf2,L'2,rfl,rfl,Xk⟩|⟨rfl,rfl,XU⟩)
   ·have htwo:=Xk
    obtain ⟨l3,l4⟩:=Rt hn hk hq.1 hf hop hke hmk (hk3 k ke mk hke hmk) htwo
    refine Z1 (aD 26 (ZX 15 26 [0,1,2,3,4,5,6,7,8,9,10] [14,0] (Z7 11 (Aq 11 [16,2] [] [] [rV wb1 L'1.own,rV wb2 L'2.own] (Z1m L'1.own L'2.own) Gx (gL (v:=wb1) 0 (gL (v:=wb2) 1 gN)) (Jm (Jm AF)) ?_))))
    rintro _ _ ⟨rfl,rfl⟩
    refine CF [0,4,5,7,9] [(73,.b ((!(decide (L'1.own=L'2.own)))||(!(decide (L'1.tok=L'2.tok)))))] (fun gz=>gz) ?_ ?_
    ·refine Zs 11 14 [12,13,14] (db (b:=(!(decide (L'1.own=L'2.own)))) 62 (fun ZH=>?_) (fun ZH=>?_))
     ·exact Zs 0 11 [15,16,17,18,19,20,21,22,23,24,25] (de (Zw 23 (Zq true ZH fl)))
     refine ZX 3 11 [15,16,17,18,19,20,21,22] [15,2] (Z7 23 (Aq 23 [20,7] [] [] [rV wf1 L'1.tok,rV wf2 L'2.tok] (Z1m L'1.tok L'2.tok) Gx (gL (v:=wf1) 0 (gL (v:=wf2) 1 gN)) (Jm (Jm AF)) ?_))
     rintro _ _ ⟨rfl,rfl⟩
     exact Zs 0 2 [24,25] (de (wk [2,2,2,2,2,2,2,1,1,1,1,1,1,1,1,1,1,1,1,1,0,0,0] (Zq (!(decide (L'1.tok=L'2.tok))) ZH fl)))
    refine ac ((!(decide (L'1.own=L'2.own)))||(!(decide (L'1.tok=L'2.tok)))) (p:=(¬(L'1.own=L'2.own))∨(¬(L'1.tok=L'2.tok))) (Y1 (Ys dq) (Ys dq)) (fun ZF=>?_) (fun ZF=>?_)
    ·exact ar (Zp (r1 [] (.inr ⟨rfl,rfl,(by rw [hgo,hone];exact RU (by rw [<-Zg,hcs,htwo];exact Zfn ZF))⟩)))
    exact ak (az (Z0 1 (ZD k (Z1 (ZI ⟨k+1,ob,(by rw [hcs,htwo,Zfo ZF] at Zg;exact Zg),rfl,rfl,rfl⟩ (wk [15,15,0,14,14,14,14,7,7,7,7,7,7,7,7,7] (ZK k fl)))))))
   have htwo:=XU
   exact Z1 (aD 26 (Zs 0 26 [0,1,2,3,4,5,6,7,8,9,10,11,12,13,14,15,16,17,18,19,20,21,22,23,24,25] (de (Vo (ar (Zp (r1 [] (.inr ⟨rfl,rfl,(by rw [hgo,hone];exact RU (by rw [<-Zg,hcs,htwo];rfl))⟩))))))))
  have hE:JT n ln L s.op s.num s.args L'1 (s.kids.drop 1) 1=true:=by rw [<-Zg,Xn om,JT]
  exact ax 0 (Zl 7 [0] (Zx 7 b [.h ga,.h wb1,.h gc,.h gd,.h ge,.h gf,Z4 ln] (ie (Zl 7 [1] (Zx 0 b [.h ga,.h wb1,.h gc,.h gd,.h ge,.h wf1,Z4 ln] (ie (ar (Zp (r1 [0,7,2,7,7,7,5] (.inl ⟨ga,wb1,gc,gd,ge,wf1,(ZL.mk L.vars L'1.own L.par L.con L.fst L'1.tok),rfl,rfl,(by rw [hgo,hone];exact Zcx hE)⟩) (eq:=(rc (rv (xs:=L.vars) ob (rv (xs:=L'1.own) ob (rv (xs:=L.par) ob (rv (xs:=L.con) ob (rv (xs:=L.fst) ob (rv (xs:=L'1.tok) ob rz)))))))))))))))))
 have hone:=X2
 exact Z1 (Y6 (Vo (ar (Zp (r1 [] (.inr ⟨rfl,rfl,(by rw [hgo,hone];rfl)⟩))))))
theorem RE (b:Nat) (ga:Hd) (gb:Hd) (gc:Hd) (gd:Hd) (ge:Hd) (gf:Hd) (n:ZG) (s:Z5) (L:ZL) (ln:LI) (q:Int) (hn:Xw n:=by exact ob) (hk:XJ n.decls L q:=by exact ob) (ht:0<=YZ n L.vars s:=by exact ob) (hb:L.vars.length+4*s.sz<=1000000000:=by exact ob) (hq:0<=q/\q+4*s.sz<=999999990:=by exact ob) (hln:ln.length<=4294967296:=by exact ob) (ih:∀(b2:Z8) (c:Nat) (ra:Hd) (rb:Hd) (rc:Hd) (rd:Hd) (re:Hd) (rf:Hd) (M:ZL) (mm:Nat) (p:Int),(b2.sz<s.sz)->(XJ n.decls M p)->(0<=W6 n M.vars b2)->(mm<=M.vars.length)->(M.vars.length+4*b2.sz<=1000000000)->(0<=p/\p+4*b2.sz<=999999990)->Zm 227 [.p c 0,YF n,Yl b2,.i mm] [.obj c [.h ra,.h rb,.h rc,.h rd,.h re,.h rf,Z4 ln],rV ra M.vars,rV rb M.own,rV rc M.par,rV rd M.con,rV re M.fst,rV rf M.tok] (fun r h=>(∃(wa:Hd) (wb:Hd) (wc:Hd) (wd:Hd) (we:Hd) (wf:Hd) (M':ZL),r=.b true/\h=[.obj c [.h wa,.h wb,.h wc,.h wd,.h we,.h wf,Z4 ln],rV wa M'.vars,rV wb M'.own,rV wc M'.par,rV wd M'.con,rV we M'.fst,rV wf M'.tok]/\U7 n ln M mm b2=some M')∨(r=.b false/\h=[]/\U7 n ln M mm b2=none))):Zm 144 [.p b 0,YF n,X4 s] [.obj b [.h ga,.h gb,.h gc,.h gd,.h ge,.h gf,Z4 ln],rV ga L.vars,rV gb L.own,rV gc L.par,rV gd L.con,rV ge L.fst,rV gf L.tok] (fun r h=>(∃(wa:Hd) (wb:Hd) (wc:Hd) (wd:Hd) (we:Hd) (wf:Hd) (L':ZL),r=.b true/\h=[.obj b [.h wa,.h wb,.h wc,.h wd,.h we,.h wf,Z4 ln],rV wa L'.vars,rV wb L'.own,rV wc L'.par,rV wd L'.con,rV we L'.fst,rV wf L'.tok]/\QT n ln L s=some L')∨(r=.b false/\h=[]/\QT n ln L s=none)):=by
 obtain ⟨e1,e2,e3,e4,e5⟩:=hk.len
 have Xq:=hn.decls
 have hkz:=Kg s
 have haz:=JE s
 have hf:=Z22 ht
 refine ZE 89 Tryz.func144 (ar (iA (X8 n) fun b1=>iA (Wd s) fun b2=>Z1 (aD 8 (ZX 2 8 [0,1,2,3,4,5] [1,2,0] (Z7 6 (Aq 6 [3] [] [] [rV ga L.vars] (N6 n L.vars s ob ob) Gx (gS (gL (v:=ga) 0 (gS gN))) (Jm AF) ?_))))))
 rintro _ _ ⟨rfl,rfl⟩
 refine Zs 0 1 [7] (de (Y0 (Xj (V2 [1] (ab 0 (ar (YC (s.op==14) Zi (fun Za=>?_) (fun Za=>?_))))))))
 ·obtain ⟨x,hxa⟩:=hf.one om
  have ha:s.args[0]? = some x:=by rw [hxa];rfl
  have hx:=hf.args x (by rw [hxa];simp)
  have hgx:=QH ha
  have hal:=(X9.1 ha).1
  obtain ⟨xo,hxo⟩:=Zt L.own x.toNat om
  have hgo:=Tl hxo
  have hob:=hk.bd xo (Y4 hxo)
  have hon:=hk.nn xo (Y4 hxo)
  refine Zl 3 [1] (Zo (Zk none 0 1 (Y8 ha)) (Z0 1 (Zu [3,0,2,2,2,2,2] (Hx b ga gb gc gd ge gf L ln x (hlk:=hk.len) (hd:=hk.down)) (Z1 (aE 21 (ZX 15 21 [0,1,2,3,4,5] [0,7] (dx 6 (Zk none 0 1 (Y8 ha)) (ZX 7 14 [7,8,9,10,11,12,13] [0,7] (dx 14 (Zk none 0 1 (Y8 ha)) (Zs 5 6 [15] (dx 16 (Uj 2 gb L.own x x.toNat (hq:=rfl)) (UC 17 (Qz 2 gb L.own x.toNat xo hxo) (da 18 ((xo+1)) ((xo)+(1)) (dx 19 (Uj 2 gb L.own x x.toNat (hq:=rfl)) (Z7 20 (CG 20 2 [] [] gb L.own x.toNat (xo+1) (de (Xj (YC (!Ta L ln x) (p:=¬(Ta L ln x=true)) (Ys Iff.rfl) (fun Zj=>?_) (fun Zj=>?_))))))))))))))))))))
  ·have hP:=(Sq (n:=n) (ln:=ln) (L:=L) Za hgx).trans (Z5z Zj)
   exact ar (Zp (r1 [] (.inr ⟨rfl,rfl,(by rw [Ts,hP];first|rfl|exact Th (by assumption)|exact Ti (by assumption) (by assumption)|exact Tj (by assumption))⟩)))
  have hP:=(Sq (n:=n) (ln:=ln) (L:=L) Za hgx).trans (Z60 Zj hgo)
  obtain ⟨kx,hxv⟩:=Fz hn hk hq.1 hf hP
  refine ak (Ym 2 [7] (Zu [] (Kt s.op) (Xx [0,5,7] [(80,.b (Xh s.op&&((YZ n L.vars s) != 0)))] (fun gz=>gz) ?_ ?_)))
  ·refine Z0 1 (ib (b:=Xh s.op) 77 (fun Ze=>?_) (fun Ze=>?_))
   ·exact Z1 (Zw 9 (Zq ((YZ n L.vars s) != 0) Ze fl))
   exact Z1 (Zw 9 (Zq false Ze fl))
  refine ac (Xh s.op&&((YZ n L.vars s) != 0)) (p:=(Xh s.op=true)/\((YZ n L.vars s)≠0)) (YI Iff.rfl YB) (fun ZF=>?_) (fun ZF=>?_)
  ·refine az (Z0 2 (ic [1,1,0,0,0,0,0] (KN b ga gb gc gd ge gf (ZL.mk L.vars (L.own.set x.toNat (xo+1)) L.par L.con L.fst L.tok) ln (YZ n L.vars s) 1 (-1) (hlb:=(by rw [hxv];omega)) (hlk:=kx.len)) ?_))
   rintro _ _ ⟨wa1,wb1,wc1,wd1,we1,wf1,rfl⟩
   exact ie (ar (Zp (r1 [0,0,0,0,0,0,0] (.inl ⟨wa1,wb1,wc1,wd1,we1,wf1,((ZL.mk L.vars (L.own.set x.toNat (xo+1)) L.par L.con L.fst L.tok).grow (YZ n L.vars s) 1 (-1)),rfl,rfl,(by rw [Ts,hP];first|rfl|exact Th (by assumption)|exact Ti (by assumption) (by assumption)|exact Tj (by assumption))⟩))))
  refine Zl 2 [7] (Zu [] (Kt s.op) (ie (ac (Xh s.op) Iff.rfl (fun Yh=>?_) (fun Yh=>?_))))
  ·refine az (Z0 1 (ic [1,1,0,0,0,0,0] (KN b ga gb gc gd ge gf (ZL.mk L.vars (L.own.set x.toNat (xo+1)) L.par L.con L.fst L.tok) ln 0 0 (-1) (hlb:=(by rw [hxv];omega)) (hlk:=kx.len)) ?_))
   rintro _ _ ⟨wa2,wb2,wc2,wd2,we2,wf2,rfl⟩
   exact ie (ar (Zp (r1 [0,0,0,0,0,0,0] (.inl ⟨wa2,wb2,wc2,wd2,we2,wf2,((ZL.mk L.vars (L.own.set x.toNat (xo+1)) L.par L.con L.fst L.tok).grow 0 0 (-1)),rfl,rfl,(by rw [Ts,hP];first|rfl|exact Th (by assumption)|exact Ti (by assumption) (by assumption)|exact Tj (by assumption))⟩))))
  exact ak (ar (Zp (r1 [1,1,0,0,0,0,0] (.inl ⟨ga,gb,gc,gd,ge,gf,(ZL.mk L.vars (L.own.set x.toNat (xo+1)) L.par L.con L.fst L.tok),rfl,rfl,(by rw [Ts,hP];first|rfl|exact Th (by assumption)|exact Ti (by assumption) (by assumption)|exact Tj (by assumption))⟩) (eq:=(rc (rv (xs:=L.vars) ob (rv (xs:=(L.own.set x.toNat (xo+1))) ob (rv (xs:=L.par) ob (rv (xs:=L.con) ob (rv (xs:=L.fst) ob (rv (xs:=L.tok) ob rz)))))))))))
 refine ar (YC (s.op==15) Zi (fun YM=>?_) (fun YM=>?_))
 ·obtain ⟨x,hxa⟩:=hf.one om
  have ha:s.args[0]? = some x:=by rw [hxa];rfl
  have hx:=hf.args x (by rw [hxa];simp)
  have hgx:=QH ha
  have hal:=(X9.1 ha).1
  refine az (ZB 3 [1] (Zo (Zk none 0 1 (Y8 ha)) (Z0 1 (ic [3,0,2,2,2,2,2] (Hy b ga gb gc gd ge gf L ln x (hlk:=hk.len) (hq:=(fun y hy=>⟨hk.nn y hy,by have:=hk.bd y hy;omega⟩))) ?_))))
  rintro _ _ (⟨wa3,wb3,wc3,wd3,we3,wf3,L'1,rfl,rfl,YS⟩|⟨rfl,rfl,X2⟩)
  ·have hP:=(Sr (n:=n) (ln:=ln) (L:=L) YM hgx).trans (YS)
   obtain ⟨kx,hxv⟩:=Fz hn hk hq.1 hf hP
   refine Z1 (Y6 (V9 (ak (Ym 2 [7] (Zu [] (Kt s.op) (Xx [0,5,7] [(80,.b (Xh s.op&&((YZ n L.vars s) != 0)))] (fun gz=>gz) ?_ ?_))))))
   ·refine Z0 1 (ib (b:=Xh s.op) 77 (fun ZH=>?_) (fun ZH=>?_))
    ·exact Z1 (Zw 9 (Zq ((YZ n L.vars s) != 0) ZH fl))
    exact Z1 (Zw 9 (Zq false ZH fl))
   refine ac (Xh s.op&&((YZ n L.vars s) != 0)) (p:=(Xh s.op=true)/\((YZ n L.vars s)≠0)) (YI Iff.rfl YB) (fun X1=>?_) (fun X1=>?_)
   ·refine az (Z0 2 (ic [0,0,0,0,0,0,0] (KN b wa3 wb3 wc3 wd3 we3 wf3 L'1 ln (YZ n L.vars s) 1 (-1) (hlb:=(by rw [hxv];omega)) (hlk:=kx.len)) ?_))
    rintro _ _ ⟨wa4,wb4,wc4,wd4,we4,wf4,rfl⟩
    exact ie (ar (Zp (r1 [0,0,0,0,0,0,0] (.inl ⟨wa4,wb4,wc4,wd4,we4,wf4,(L'1.grow (YZ n L.vars s) 1 (-1)),rfl,rfl,(by rw [Ts,hP];first|rfl|exact Th (by assumption)|exact Ti (by assumption) (by assumption)|exact Tj (by assumption))⟩))))
   refine Zl 2 [7] (Zu [] (Kt s.op) (ie (ac (Xh s.op) Iff.rfl (fun WD=>?_) (fun WD=>?_))))
   ·refine az (Z0 1 (ic [0,0,0,0,0,0,0] (KN b wa3 wb3 wc3 wd3 we3 wf3 L'1 ln 0 0 (-1) (hlb:=(by rw [hxv];omega)) (hlk:=kx.len)) ?_))
    rintro _ _ ⟨wa5,wb5,wc5,wd5,we5,wf5,rfl⟩
    exact ie (ar (Zp (r1 [0,0,0,0,0,0,0] (.inl ⟨wa5,wb5,wc5,wd5,we5,wf5,(L'1.grow 0 0 (-1)),rfl,rfl,(by rw [Ts,hP];first|rfl|exact Th (by assumption)|exact Ti (by assumption) (by assumption)|exact Tj (by assumption))⟩))))
   exact ak (ar (Zp (r1 [0,0,0,0,0,0,0] (.inl ⟨wa3,wb3,wc3,wd3,we3,wf3,L'1,rfl,rfl,(by rw [Ts,hP];first|rfl|exact Th (by assumption)|exact Ti (by assumption) (by assumption)|exact Tj (by assumption))⟩))))
  have hP:=(Sr (n:=n) (ln:=ln) (L:=L) YM hgx).trans (X2)
  exact Z1 (Y6 (Vo (ar (Zp (r1 [] (.inr ⟨rfl,rfl,(by rw [Ts,hP];first|rfl|exact Th (by assumption)|exact Ti (by assumption) (by assumption)|exact Tj (by assumption))⟩))))))
 refine Y6 (XA (fun fz gz F h=>F=sF [0,4,5,7,17] fz [(58,.b ((s.op==16)||(s.op==17)))]/\h=gz) ?_ ?_)
 ·refine ac (s.op==16) Zi (fun VJ=>?_) (fun VJ=>?_)
  ·exact ak (ZJ ⟨rfl,rfl⟩ (Zw 9 (fc (x:=.b (s.op==16)) (lb (by first|rfl|(rw [Zh VJ])|(rw [Zb VJ])|(simp [VJ];done)|(rw [Yd];simp [VJ];done)|omega)) fl)))
  exact VB (ZJ ⟨rfl,rfl⟩ (Zw 9 (fc (x:=.b (s.op==17)) (lb (by first|rfl|(rw [Zh VJ])|(rw [Zb VJ])|(simp [VJ];done)|(rw [Yd];simp [VJ];done)|omega)) fl)))
 rintro F h ⟨rfl,rfl⟩
 refine ac ((s.op==16)||(s.op==17)) (p:=(s.op=16)∨(s.op=17)) (Y1 Zi Zi) (fun Vc=>?_) (fun Vc=>?_)
 ·obtain ⟨x,hxa⟩:=hf.one om
  have ha:s.args[0]? = some x:=by rw [hxa];rfl
  have hx:=hf.args x (by rw [hxa];simp)
  have hgx:=QH ha
  have hal:=(X9.1 ha).1
  refine az (ZB 3 [2,1] (ic [3,0,2,2,2,2,2] (Zck b ga gb gc gd ge gf n s L ln q x) ?_))
  rintro _ _ (⟨wa6,wb6,wc6,wd6,we6,wf6,L'2,rfl,rfl,Wo⟩|⟨rfl,rfl,Vd⟩)
  ·have hP:=(Ss (n:=n) (ln:=ln) (L:=L) Vc hgx).trans (Wo)
   obtain ⟨kx,hxv⟩:=Fz hn hk hq.1 hf hP
   refine Z1 (Y6 (V9 (ak (Ym 2 [7] (Zu [] (Kt s.op) (Xx [0,5,7] [(80,.b (Xh s.op&&((YZ n L.vars s) != 0)))] (fun gz=>gz) ?_ ?_))))))
   ·refine Z0 1 (ib (b:=Xh s.op) 77 (fun Yn=>?_) (fun Yn=>?_))
    ·exact Z1 (Zw 9 (Zq ((YZ n L.vars s) != 0) Yn fl))
    exact Z1 (Zw 9 (Zq false Yn fl))
   refine ac (Xh s.op&&((YZ n L.vars s) != 0)) (p:=(Xh s.op=true)/\((YZ n L.vars s)≠0)) (YI Iff.rfl YB) (fun Vt=>?_) (fun Vt=>?_)
   ·refine az (Z0 2 (ic [0,0,0,0,0,0,0] (KN b wa6 wb6 wc6 wd6 we6 wf6 L'2 ln (YZ n L.vars s) 1 (-1) (hlb:=(by rw [hxv];omega)) (hlk:=kx.len)) ?_))
    rintro _ _ ⟨wa7,wb7,wc7,wd7,we7,wf7,rfl⟩
    exact ie (ar (Zp (r1 [0,0,0,0,0,0,0] (.inl ⟨wa7,wb7,wc7,wd7,we7,wf7,(L'2.grow (YZ n L.vars s) 1 (-1)),rfl,rfl,(by rw [Ts,hP];first|rfl|exact Th (by assumption)|exact Ti (by assumption) (by assumption)|exact Tj (by assumption))⟩))))
   refine Zl 2 [7] (Zu [] (Kt s.op) (ie (ac (Xh s.op) Iff.rfl (fun TA=>?_) (fun TA=>?_))))
   ·refine az (Z0 1 (ic [0,0,0,0,0,0,0] (KN b wa6 wb6 wc6 wd6 we6 wf6 L'2 ln 0 0 (-1) (hlb:=(by rw [hxv];omega)) (hlk:=kx.len)) ?_))
    rintro _ _ ⟨wa8,wb8,wc8,wd8,we8,wf8,rfl⟩
    exact ie (ar (Zp (r1 [0,0,0,0,0,0,0] (.inl ⟨wa8,wb8,wc8,wd8,we8,wf8,(L'2.grow 0 0 (-1)),rfl,rfl,(by rw [Ts,hP];first|rfl|exact Th (by assumption)|exact Ti (by assumption) (by assumption)|exact Tj (by assumption))⟩))))
   exact ak (ar (Zp (r1 [0,0,0,0,0,0,0] (.inl ⟨wa6,wb6,wc6,wd6,we6,wf6,L'2,rfl,rfl,(by rw [Ts,hP];first|rfl|exact Th (by assumption)|exact Ti (by assumption) (by assumption)|exact Tj (by assumption))⟩))))
  have hP:=(Ss (n:=n) (ln:=ln) (L:=L) Vc hgx).trans (Vd)
  exact Z1 (Y6 (Vo (ar (Zp (r1 [] (.inr ⟨rfl,rfl,(by rw [Ts,hP];first|rfl|exact Th (by assumption)|exact Ti (by assumption) (by assumption)|exact Tj (by assumption))⟩))))))
 refine Y6 (XA (fun fz gz F h=>F=sF [0,4,5,7] fz [(65,.b ((s.op==7)||(s.op==8)))]/\h=gz) ?_ ?_)
 ·refine ac (s.op==7) Zi (fun Vu=>?_) (fun Vu=>?_)
  ·exact ak (ZJ ⟨rfl,rfl⟩ (Zw 9 (fc (x:=.b (s.op==7)) (lb (by first|rfl|(rw [Zh Vu])|(rw [Zb Vu])|(simp [Vu];done)|(rw [Yd];simp [Vu];done)|omega)) fl)))
  exact VB (ZJ ⟨rfl,rfl⟩ (Zw 9 (fc (x:=.b (s.op==8)) (lb (by first|rfl|(rw [Zh Vu])|(rw [Zb Vu])|(simp [Vu];done)|(rw [Yd];simp [Vu];done)|omega)) fl)))
 rintro F h ⟨rfl,rfl⟩
 refine ac ((s.op==7)||(s.op==8)) (p:=(s.op=7)∨(s.op=8)) (Y1 Zi Zi) (fun Q6=>?_) (fun Q6=>?_)
 ·refine az (ZB 3 [2,1] (ic [3,0,2,2,2,2,2] (Zch b ga gb gc gd ge gf n s L ln q (ih:=ob)) ?_))
  rintro _ _ (⟨wa9,wb9,wc9,wd9,we9,wf9,L'3,rfl,rfl,TR⟩|⟨rfl,rfl,To⟩)
  ·have hP:=(St (n:=n) (ln:=ln) (L:=L) Q6).trans (TR)
   obtain ⟨kx,hxv⟩:=Fz hn hk hq.1 hf hP
   refine Z1 (Y6 (V9 (ak (Ym 2 [7] (Zu [] (Kt s.op) (Xx [0,5,7] [(80,.b (Xh s.op&&((YZ n L.vars s) != 0)))] (fun gz=>gz) ?_ ?_))))))
   ·refine Z0 1 (ib (b:=Xh s.op) 77 (fun Xe=>?_) (fun Xe=>?_))
    ·exact Z1 (Zw 9 (Zq ((YZ n L.vars s) != 0) Xe fl))
    exact Z1 (Zw 9 (Zq false Xe fl))
   refine ac (Xh s.op&&((YZ n L.vars s) != 0)) (p:=(Xh s.op=true)/\((YZ n L.vars s)≠0)) (YI Iff.rfl YB) (fun CW=>?_) (fun CW=>?_)
   ·refine az (Z0 2 (ic [0,0,0,0,0,0,0] (KN b wa9 wb9 wc9 wd9 we9 wf9 L'3 ln (YZ n L.vars s) 1 (-1) (hlb:=(by rw [hxv];omega)) (hlk:=kx.len)) ?_))
    rintro _ _ ⟨wa10,wb10,wc10,wd10,we10,wf10,rfl⟩
    exact ie (ar (Zp (r1 [0,0,0,0,0,0,0] (.inl ⟨wa10,wb10,wc10,wd10,we10,wf10,(L'3.grow (YZ n L.vars s) 1 (-1)),rfl,rfl,(by rw [Ts,hP];first|rfl|exact Th (by assumption)|exact Ti (by assumption) (by assumption)|exact Tj (by assumption))⟩))))
   refine Zl 2 [7] (Zu [] (Kt s.op) (ie (ac (Xh s.op) Iff.rfl (fun F3=>?_) (fun F3=>?_))))
   ·refine az (Z0 1 (ic [0,0,0,0,0,0,0] (KN b wa9 wb9 wc9 wd9 we9 wf9 L'3 ln 0 0 (-1) (hlb:=(by rw [hxv];omega)) (hlk:=kx.len)) ?_))
    rintro _ _ ⟨wa11,wb11,wc11,wd11,we11,wf11,rfl⟩
    exact ie (ar (Zp (r1 [0,0,0,0,0,0,0] (.inl ⟨wa11,wb11,wc11,wd11,we11,wf11,(L'3.grow 0 0 (-1)),rfl,rfl,(by rw [Ts,hP];first|rfl|exact Th (by assumption)|exact Ti (by assumption) (by assumption)|exact Tj (by assumption))⟩))))
   exact ak (ar (Zp (r1 [0,0,0,0,0,0,0] (.inl ⟨wa9,wb9,wc9,wd9,we9,wf9,L'3,rfl,rfl,(by rw [Ts,hP];first|rfl|exact Th (by assumption)|exact Ti (by assumption) (by assumption)|exact Tj (by assumption))⟩))))
  have hP:=(St (n:=n) (ln:=ln) (L:=L) Q6).trans (To)
  exact Z1 (Y6 (Vo (ar (Zp (r1 [] (.inr ⟨rfl,rfl,(by rw [Ts,hP];first|rfl|exact Th (by assumption)|exact Ti (by assumption) (by assumption)|exact Tj (by assumption))⟩))))))
 refine az (ZB 3 [2,1] (ic [3,0,2,2,2,2,2] (Zcj b ga gb gc gd ge gf n s L ln q (hnum:=hf.num) (hargs:=hf.args) (hinto:=(fun q=>(hf.into om).2))) ?_))
 rintro _ _ (⟨wa12,wb12,wc12,wd12,we12,wf12,L'4,rfl,rfl,JQ⟩|⟨rfl,rfl,JR⟩)
 ·have hP:=(Su (n:=n) (ln:=ln) (L:=L) Za YM Vc Q6).trans (JQ)
  obtain ⟨kx,hxv⟩:=Fz hn hk hq.1 hf hP
  refine Z1 (Y6 (V9 (ak (Ym 2 [7] (Zu [] (Kt s.op) (Xx [0,5,7] [(80,.b (Xh s.op&&((YZ n L.vars s) != 0)))] (fun gz=>gz) ?_ ?_))))))
  ·refine Z0 1 (ib (b:=Xh s.op) 77 (fun W8=>?_) (fun W8=>?_))
   ·exact Z1 (Zw 9 (Zq ((YZ n L.vars s) != 0) W8 fl))
   exact Z1 (Zw 9 (Zq false W8 fl))
  refine ac (Xh s.op&&((YZ n L.vars s) != 0)) (p:=(Xh s.op=true)/\((YZ n L.vars s)≠0)) (YI Iff.rfl YB) (fun KJ=>?_) (fun KJ=>?_)
  ·refine az (Z0 2 (ic [0,0,0,0,0,0,0] (KN b wa12 wb12 wc12 wd12 we12 wf12 L'4 ln (YZ n L.vars s) 1 (-1) (hlb:=(by rw [hxv];omega)) (hlk:=kx.len)) ?_))
   rintro _ _ ⟨wa13,wb13,wc13,wd13,we13,wf13,rfl⟩
   exact ie (ar (Zp (r1 [0,0,0,0,0,0,0] (.inl ⟨wa13,wb13,wc13,wd13,we13,wf13,(L'4.grow (YZ n L.vars s) 1 (-1)),rfl,rfl,(by rw [Ts,hP];first|rfl|exact Th (by assumption)|exact Ti (by assumption) (by assumption)|exact Tj (by assumption))⟩))))
  refine Zl 2 [7] (Zu [] (Kt s.op) (ie (ac (Xh s.op) Iff.rfl (fun KL=>?_) (fun KL=>?_))))
  ·refine az (Z0 1 (ic [0,0,0,0,0,0,0] (KN b wa12 wb12 wc12 wd12 we12 wf12 L'4 ln 0 0 (-1) (hlb:=(by rw [hxv];omega)) (hlk:=kx.len)) ?_))
   rintro _ _ ⟨wa14,wb14,wc14,wd14,we14,wf14,rfl⟩
   exact ie (ar (Zp (r1 [0,0,0,0,0,0,0] (.inl ⟨wa14,wb14,wc14,wd14,we14,wf14,(L'4.grow 0 0 (-1)),rfl,rfl,(by rw [Ts,hP];first|rfl|exact Th (by assumption)|exact Ti (by assumption) (by assumption)|exact Tj (by assumption))⟩))))
  exact ak (ar (Zp (r1 [0,0,0,0,0,0,0] (.inl ⟨wa12,wb12,wc12,wd12,we12,wf12,L'4,rfl,rfl,(by rw [Ts,hP];first|rfl|exact Th (by assumption)|exact Ti (by assumption) (by assumption)|exact Tj (by assumption))⟩))))
 have hP:=(Su (n:=n) (ln:=ln) (L:=L) Za YM Vc Q6).trans (JR)
 exact Z1 (Y6 (Vo (ar (Zp (r1 [] (.inr ⟨rfl,rfl,(by rw [Ts,hP];first|rfl|exact Th (by assumption)|exact Ti (by assumption) (by assumption)|exact Tj (by assumption))⟩))))))
theorem Zcf (c:Nat) (ga:Hd) (gb:Hd) (gc:Hd) (gd:Hd) (ge:Hd) (gf:Hd) (n:ZG) (b:Z8) (L:ZL) (ln:LI) (q:Int) (mm:Nat) (hn:Xw n) (hk:XJ n.decls L q) (ht:0<=W6 n L.vars b) (hm:mm<=L.vars.length) (hb:L.vars.length+4*b.sz<=1000000000) (hq:0<=q/\q+4*b.sz<=999999990) (hln:ln.length<=4294967296) (ih:∀(s2:Z5) (c:Nat) (ra:Hd) (rb:Hd) (rc:Hd) (rd:Hd) (re:Hd) (rf:Hd) (M:ZL) (p:Int),(s2.sz<b.sz)->(XJ n.decls M p)->(0<=YZ n M.vars s2)->(M.vars.length+4*s2.sz<=1000000000)->(0<=p/\p+4*s2.sz<=999999990)->Zm 144 [.p c 0,YF n,X4 s2] [.obj c [.h ra,.h rb,.h rc,.h rd,.h re,.h rf,Z4 ln],rV ra M.vars,rV rb M.own,rV rc M.par,rV rd M.con,rV re M.fst,rV rf M.tok] (fun r h=>(∃(wa:Hd) (wb:Hd) (wc:Hd) (wd:Hd) (we:Hd) (wf:Hd) (M':ZL),r=.b true/\h=[.obj c [.h wa,.h wb,.h wc,.h wd,.h we,.h wf,Z4 ln],rV wa M'.vars,rV wb M'.own,rV wc M'.par,rV wd M'.con,rV we M'.fst,rV wf M'.tok]/\QT n ln M s2=some M')∨(r=.b false/\h=[]/\QT n ln M s2=none))):Zm 227 [.p c 0,YF n,Yl b,.i mm] [.obj c [.h ga,.h gb,.h gc,.h gd,.h ge,.h gf,Z4 ln],rV ga L.vars,rV gb L.own,rV gc L.par,rV gd L.con,rV ge L.fst,rV gf L.tok] (fun r h=>(∃(wa:Hd) (wb:Hd) (wc:Hd) (wd:Hd) (we:Hd) (wf:Hd) (L':ZL),r=.b true/\h=[.obj c [.h wa,.h wb,.h wc,.h wd,.h we,.h wf,Z4 ln],rV wa L'.vars,rV wb L'.own,rV wc L'.par,rV wd L'.con,rV we L'.fst,rV wf L'.tok]/\U7 n ln L mm b=some L')∨(r=.b false/\h=[]/\U7 n ln L mm b=none)):=by
 have hbz:=b.sz_eq
 obtain ⟨vs,rt,hvs,hres,hrt⟩:=NZ ht
 have hri:=Cz hres
 have XO:=UG b
 refine ZE 45 Tryz.func227 (ar (iA (X8 n) fun b1=>iA (XY b) fun b2=>?_))
 refine Z1 (Y6 (ab 0 (Y2 (fun fz gz m F h=>∃(k:Nat) (q2:Int) (L2:ZL) (ka:Hd) (kb:Hd) (kc:Hd) (kd:Hd) (ke:Hd) (kf:Hd),(k<=b.steps.length)/\(XJ n.decls L2 q2)/\(0<=q2/\q2+4*Yu (b.steps.drop k)<=999999990)/\(L2.vars.length+4*Yu (b.steps.drop k)<=1000000000)/\(UF n (b.steps.drop k) L2.vars=some vs)/\(A3 n ln L2 (b.steps.drop k)=A3 n ln L b.steps)/\(L.vars.length<=L2.vars.length)/\F=sF [0,3,5,6] fz [(9,.i k)]/\h=[Zf gz 0,Zf gz 1,.obj c [.h ka,.h kb,.h kc,.h kd,.h ke,.h kf,Z4 ln],rV ka L2.vars,rV kb L2.own,rV kc L2.par,rV kd L2.con,rV ke L2.fst,rV kf L2.tok]/\m=b.steps.length-k) _ _ _ ⟨0,q,L,ga,gb,gc,gd,ge,gf,ob,hk,(by rw [Kx];omega),(by rw [Kx];omega),hvs,rfl,om,rfl,rfl,rfl⟩ (Zw 9 (Yc fl)) ?_)))
 rintro m F h ⟨k,q2,L2,ka,kb,kc,kd,ke,kf,Yj,Zg,Zz,YN,Wh,K4,O4,rfl,rfl,rfl⟩
 refine Ym 3 [0] (iw (UI b.steps) (Y3 ((k:Int)<(b.steps.length:Int)) (fun Za=>?_) (fun Za=>?_)))
 ·obtain ⟨s1,hs1⟩:=Zt b.steps k om
  have hss:=Es hs1
  have hdr:=Yi hs1
  have hz:Yu (b.steps.drop k)=s1.sz+Yu (b.steps.drop (k+1)):=by rw [hdr,Yu]
  rw [hdr] at Wh K4
  obtain ⟨g1,g2⟩:=Z24 Wh
  refine ak (aq (ab 1 (aD 9 (ZX 4 9 [0,1,2,3,4] [1,0] (dx 5 (Zk none (k:Int) 5 (Va hs1)) (Zs 2 3 [6] (Z7 7 (dc 7 [2,2,2,2,2,2,2] [] [] (ih s1 c ka kb kc kd ke kf L2 q2 ob Zg g1 om om) ?_))))))))
  rintro _ _ (⟨wa1,wb1,wc1,wd1,we1,wf1,M'1,rfl,rfl,Y9⟩|⟨rfl,rfl,Yt⟩)
  ·have hP:=Y9
   have kx:=Z21 hn Zg Zz.1 g1 hP
   exact Zs 0 1 [8] (de (V9 (ak (az (Z0 1 (ZD k (Z1 (ZI ⟨k+1,(q2+4*s1.sz),M'1,wa1,wb1,wc1,wd1,we1,wf1,ob,kx.1,om,(by rw [kx.2];have:=Z0v n L2.vars s1;omega),(by rw [kx.2];exact g2),(by rw [<-K4,A3,hP];rfl),(by rw [kx.2];have:=Z0v n L2.vars s1;omega),rfl,rfl,rfl⟩ (wk [7,7,0,0,0,0,0,0,0] (ZK k fl))))))))))
  have hP:=Yt
  exact Zs 0 1 [8] (de (Vo (ar (Zp (r1 [] (.inr ⟨rfl,rfl,(by rw [IR,<-K4,A3,hP];rfl)⟩))))))
 rw [Xn om] at Wh K4
 have hvv:L2.vars=vs:=by rw [UF] at Wh;exact Dq Wh
 have hB:U7 n ln L mm b=Ax mm b.result L2:=by rw [IR,<-K4,A3];rfl
 obtain ⟨xr,hxr⟩:=Zt L2.vars b.result.toNat (by rw [hvv];omega)
 have hgr:=Tl hxr
 have hrl:0<=b.result/\b.result<L2.vars.length:=by rw [hvv];omega
 rw [UF] at Wh
 refine ax 0 (aq (aD 16 (ZX 10 16 [0,1,2,3,4,5] [2,0] (dx 6 (Uj 3 ka L2.vars b.result b.result.toNat (hq:=rfl)) (UC 7 (Qz 3 ka L2.vars b.result.toNat xr hxr) (Zs 6 8 [8,9] (db (b:=(xr != 0)) 35 (fun Ze=>?_) (fun Ze=>?_))))))))
 ·have YS:xr≠0:=(YB).1 Ze
  refine ZX 3 6 [10,11,12] [0] (Z7 13 (dc 13 [2,2,2,2,2,2,2] [] [] (Hy c ka kb kc kd ke kf L2 ln b.result (hlk:=Zg.len) (hq:=(fun y hy=>⟨Zg.nn y hy,by have:=Zg.bd y hy;omega⟩))) ?_))
  rintro _ _ (⟨wa2,wb2,wc2,wd2,we2,wf2,L'1,rfl,rfl,X2⟩|⟨rfl,rfl,Xk⟩)
  ·have hE:=hB.trans (Z6p hgr (by assumption) X2)
   have kx:=Zg.take X2
   have hxv:L'1.vars.length=L2.vars.length:=by rw [(A4 X2).2.1]
   refine Zs 0 2 [14,15] (de (V9 (ak (Yf 2 (ic [0,0,0,0,0,0,0] (RB c wa2 wb2 wc2 wd2 we2 wf2 L'1 ln mm (hlk:=(by first|exact kx.len|exact Zg.len)) (hlb:=om) (hm:=om)) ?_)))))
   rintro _ _ (⟨wa3,wb3,wc3,wd3,we3,wf3,L'2,rfl,rfl,XU⟩|⟨rfl,rfl,Wo⟩)
   ·exact Zp (r1 [0,0,0,0,0,0,0] (.inl ⟨wa3,wb3,wc3,wd3,we3,wf3,L'2,rfl,rfl,(by first|exact hE|(rw [hE];exact XU)|(rw [hB,EQ hgr (by assumption)];exact XU))⟩))
   exact Zp (r1 [] (.inr ⟨rfl,rfl,(by first|exact hE|(rw [hE];exact Wo)|(rw [hB,EQ hgr (by assumption)];exact Wo))⟩))
  have hE:=hB.trans (Z6o hgr (by assumption) Xk)
  exact Zs 0 2 [14,15] (de (Vo (ar (Zp (r1 [] (.inr ⟨rfl,rfl,(by first|exact hE|(rw [hE];exact Xk)|(rw [hB,EQ hgr (by assumption)];exact Xk))⟩))))))
 have Vd:¬(xr≠0):=Yb YB Ze
 refine Zs 0 6 [10,11,12,13,14,15] (de (V9 (ak (Yf 2 (ic [2,2,2,2,2,2,2] (RB c ka kb kc kd ke kf L2 ln mm (hlk:=(by first|exact kx.len|exact Zg.len)) (hlb:=om) (hm:=om)) ?_)))))
 rintro _ _ (⟨wa4,wb4,wc4,wd4,we4,wf4,L'3,rfl,rfl,VK⟩|⟨rfl,rfl,Tn⟩)
 ·exact Zp (r1 [0,0,0,0,0,0,0] (.inl ⟨wa4,wb4,wc4,wd4,we4,wf4,L'3,rfl,rfl,(by first|exact hE|(rw [hE];exact VK)|(rw [hB,EQ hgr (by assumption)];exact VK))⟩))
 exact Zp (r1 [] (.inr ⟨rfl,rfl,(by first|exact hE|(rw [hE];exact Tn)|(rw [hB,EQ hgr (by assumption)];exact Tn))⟩))
theorem Zcg (n:ZG) (ln:LI) (hn:Xw n) (hln:ln.length<=4294967296) (m:Nat):∀(b2:Z8) (c:Nat) (ra:Hd) (rb:Hd) (rc:Hd) (rd:Hd) (re:Hd) (rf:Hd) (M:ZL) (mm:Nat) (p:Int),(b2.sz<m+1)->(XJ n.decls M p)->(0<=W6 n M.vars b2)->(mm<=M.vars.length)->(M.vars.length+4*b2.sz<=1000000000)->(0<=p/\p+4*b2.sz<=999999990)->Zm 227 [.p c 0,YF n,Yl b2,.i mm] [.obj c [.h ra,.h rb,.h rc,.h rd,.h re,.h rf,Z4 ln],rV ra M.vars,rV rb M.own,rV rc M.par,rV rd M.con,rV re M.fst,rV rf M.tok] (fun r h=>(∃(wa:Hd) (wb:Hd) (wc:Hd) (wd:Hd) (we:Hd) (wf:Hd) (M':ZL),r=.b true/\h=[.obj c [.h wa,.h wb,.h wc,.h wd,.h we,.h wf,Z4 ln],rV wa M'.vars,rV wb M'.own,rV wc M'.par,rV wd M'.con,rV we M'.fst,rV wf M'.tok]/\U7 n ln M mm b2=some M')∨(r=.b false/\h=[]/\U7 n ln M mm b2=none)):=by
 induction m with
 | zero=>intro b c ga gb gc gd ge gf L mm q h;have:=b.sz_pos;omega
 | succ m ih=>
  intro b c ga gb gc gd ge gf L mm q h1 hk ht hm hb hp
  exact Zcf c ga gb gc gd ge gf n b L ln q mm hn hk ht hm hb hp hln fun s c ga gb gc gd ge gf L q h2 hk ht hb hp=>RE c ga gb gc gd ge gf n s L ln q hn hk ht hb hp hln
   fun b2 c ga gb gc gd ge gf L mm q h3 hk ht hm hb hp=>ih b2 c ga gb gc gd ge gf L mm q om hk ht hm hb hp
theorem Zcm (n:ZG) (ln:LI) (hn:Xw n) (hln:ln.length<=4294967296) (m:Nat):∀(s2:Z5) (c:Nat) (ra:Hd) (rb:Hd) (rc:Hd) (rd:Hd) (re:Hd) (rf:Hd) (M:ZL) (p:Int),(s2.sz<m+1)->(XJ n.decls M p)->(0<=YZ n M.vars s2)->(M.vars.length+4*s2.sz<=1000000000)->(0<=p/\p+4*s2.sz<=999999990)->Zm 144 [.p c 0,YF n,X4 s2] [.obj c [.h ra,.h rb,.h rc,.h rd,.h re,.h rf,Z4 ln],rV ra M.vars,rV rb M.own,rV rc M.par,rV rd M.con,rV re M.fst,rV rf M.tok] (fun r h=>(∃(wa:Hd) (wb:Hd) (wc:Hd) (wd:Hd) (we:Hd) (wf:Hd) (M':ZL),r=.b true/\h=[.obj c [.h wa,.h wb,.h wc,.h wd,.h we,.h wf,Z4 ln],rV wa M'.vars,rV wb M'.own,rV wc M'.par,rV wd M'.con,rV we M'.fst,rV wf M'.tok]/\QT n ln M s2=some M')∨(r=.b false/\h=[]/\QT n ln M s2=none)):=by
 intro s c ga gb gc gd ge gf L q h2 hk ht hb hp
 exact RE c ga gb gc gd ge gf n s L ln q hn hk ht hb hp hln fun b2 c ga gb gc gd ge gf L mm q h3 hk ht hm hb hp=>Zcg n ln hn hln m b2 c ga gb gc gd ge gf L mm q om hk ht hm hb hp
theorem Zcl (c:Nat) (ra:Hd) (rb:Hd) (rc:Hd) (rd:Hd) (re:Hd) (rf:Hd) (n:ZG) (s2:Z5) (M:ZL) (ln:LI) (p:Int) (hn:Xw n) (hln:ln.length<=4294967296) (hk:XJ n.decls M p) (ht:0<=YZ n M.vars s2) (hb:M.vars.length+4*s2.sz<=1000000000) (hp:0<=p/\p+4*s2.sz<=999999990):Zm 144 [.p c 0,YF n,X4 s2] [.obj c [.h ra,.h rb,.h rc,.h rd,.h re,.h rf,Z4 ln],rV ra M.vars,rV rb M.own,rV rc M.par,rV rd M.con,rV re M.fst,rV rf M.tok] (fun r h=>(∃(wa:Hd) (wb:Hd) (wc:Hd) (wd:Hd) (we:Hd) (wf:Hd) (M':ZL),r=.b true/\h=[.obj c [.h wa,.h wb,.h wc,.h wd,.h we,.h wf,Z4 ln],rV wa M'.vars,rV wb M'.own,rV wc M'.par,rV wd M'.con,rV we M'.fst,rV wf M'.tok]/\QT n ln M s2=some M')∨(r=.b false/\h=[]/\QT n ln M s2=none)):=Zcm n ln hn hln s2.sz s2 c ra rb rc rd re rf M p om hk ht hb hp
theorem Zgn (rt:YE) (hp:rt.params.length<=1000000:=by exact ob) (hl:rt.lent.length<=4294967296:=by exact ob):Zm 143 [Af rt] [] (fun r h=>∃(c:Nat) (wa:Hd) (wb:Hd) (wc:Hd) (wd:Hd) (we:Hd) (wf:Hd),r=.p c 0/\h=[.obj c [.h wa,.h wb,.h wc,.h wd,.h we,.h wf,Z4 rt.lent],rV wa ((KQ rt).vars),rV wb ((KQ rt).own),rV wc ((KQ rt).par),rV wd ((KQ rt).con),rV we ((KQ rt).fst),rV wf ((KQ rt).tok)]):=by
 refine ZE 45 Tryz.func143 (ar (iA (JV rt) fun b1=>Z1 (Zl 2 [0] (ic [] (WX rt.lent) ?_))))
 rintro _ _ ⟨v1,rfl,rfl⟩
 refine ZQ 1 [(8,.agg [nl,nl,nl,nl,nl,nl,Z4 rt.lent])] (iA [nl,nl,nl,nl,nl,nl,Z4 rt.lent] fun b2=>?_)
 refine Xb (Z2h 0 b2 [nl,nl,nl,nl,nl,nl,Z4 rt.lent] [.h hN,.h hN,.h hN,.h hN,.h hN,.h hN,Z4 rt.lent] (.cons (Zd.hd (v:=hN)) (.cons (Zd.hd (v:=hN)) (.cons (Zd.hd (v:=hN)) (.cons (Zd.hd (v:=hN)) (.cons (Zd.hd (v:=hN)) (.cons (Zd.hd (v:=hN)) (.cons (lr _) .nil)))))))) (Xb (Eu) (Xb (Eu) (Xb (Eu) (Xb (Eu) (Xb (Eu) (Xb (Eu) (Z1 (Y6 (ab 0 (Y2 (fun fz gz m F h=>∃(k:Nat) (L2:ZL) (ka:Hd) (kb:Hd) (kc:Hd) (kd:Hd) (ke:Hd) (kf:Hd),(k<=rt.params.length)/\(Tv L2)/\(L2.vars.length=k)/\(Bp rt.lent (rt.params.drop k) k L2=KQ rt)/\F=sF [1,3] fz [(4,.i k)]/\h=[.obj b2 [.h ka,.h kb,.h kc,.h kd,.h ke,.h kf,Z4 rt.lent],Zf gz 8,rV ka L2.vars,rV kb L2.own,rV kc L2.par,rV kd L2.con,rV ke L2.fst,rV kf L2.tok]/\m=rt.params.length-k) _ _ _ ⟨0,(ZL.mk [] [] [] [] [] []),hN,hN,hN,hN,hN,hN,ob,⟨rfl,rfl,rfl,rfl,rfl⟩,rfl,rfl,rfl,rfl,rfl⟩ (wk [6,7,0,0,0,0,0,0] (Yc fl) (e:=(rc (rc (rv (xs:=[]) ob (rv (xs:=[]) ob (rv (xs:=[]) ob (rv (xs:=[]) ob (rv (xs:=[]) ob (rv (xs:=[]) ob rz)))))))))) ?_))))))))))
 rintro m F h ⟨k,L2,ka,kb,kc,kd,ke,kf,Yj,Zg,Zz,YN,rfl,rfl,rfl⟩
 refine Ym 3 [1] (iw (Ye rt.params) (Y3 ((k:Int)<(rt.params.length:Int)) (fun Za=>?_) (fun Za=>?_)))
 ·refine ak (aq (ab 1 (Zl 3 [1] ?_)))
  obtain ⟨x1,Z3⟩:=Zt rt.params k om
  refine Zo (Zk none (k:Int) 1 (Y8 Z3)) (Xx [1,3,4] [(29,.b ((x1 != 0)&&(!(decide ((k:Int)∈rt.lent)))))] (fun gz=>gz) ?_ ?_)
  ·refine Z0 3 (ib (b:=(x1 != 0)) 23 (fun Ze=>?_) (fun Ze=>?_))
   ·exact ZB 3 [1] (Zu [] (UT rt.lent (k:Int)) (Z1 (Zw 8 (Zq (!(decide ((k:Int)∈rt.lent))) Ze fl))))
   exact Z1 (Zw 8 (Zq false Ze fl))
  refine ac ((x1 != 0)&&(!(decide ((k:Int)∈rt.lent)))) (p:=(x1≠0)/\(¬((k:Int)∈rt.lent))) (YI YB (Ys dq)) (fun Zj=>?_) (fun Zj=>?_)
  ·refine az (ZB 4 [1] (Zo (Zk none (k:Int) 1 (Y8 Z3)) (Z0 1 (ic [0,1,1,1,1,1,1] (KN b2 ka kb kc kd ke kf L2 rt.lent x1 1 (-1) (hlk:=Zg)) ?_))))
   rintro _ _ ⟨wa1,wb1,wc1,wd1,we1,wf1,rfl⟩
   exact ie (az (Z0 1 (ZD k (Z1 (ZI ⟨k+1,(L2.grow x1 1 (-1)),wa1,wb1,wc1,wd1,we1,wf1,ob,(Tv.grow Zg),(by simp [ZL.grow];omega),(by rw [Yi Z3,Bp] at YN;first|(rw [Zh Zj] at YN;exact YN)|(rw [Zb Zj] at YN;exact YN)),rfl,rfl,rfl⟩ (wk [0,6,0,0,0,0,0,0] (ZK k fl)))))))
  refine az (ZB 4 [1] (Zo (Zk none (k:Int) 1 (Y8 Z3)) (Z0 1 (ic [0,1,1,1,1,1,1] (KN b2 ka kb kc kd ke kf L2 rt.lent x1 0 (-1) (hlk:=Zg)) ?_))))
  rintro _ _ ⟨wa2,wb2,wc2,wd2,we2,wf2,rfl⟩
  exact ie (az (Z0 1 (ZD k (Z1 (ZI ⟨k+1,(L2.grow x1 0 (-1)),wa2,wb2,wc2,wd2,we2,wf2,ob,(Tv.grow Zg),(by simp [ZL.grow];omega),(by rw [Yi Z3,Bp] at YN;first|(rw [Zh Zj] at YN;exact YN)|(rw [Zb Zj] at YN;exact YN)),rfl,rfl,rfl⟩ (wk [0,6,0,0,0,0,0,0] (ZK k fl)))))))
 refine ax 0 (Y0 ?_)
 have hNl:L2=KQ rt:=by rw [<-YN,Xn om];rfl
 exact ZT (r1 [0,1,1,1,1,1,1] ⟨b2,ka,kb,kc,kd,ke,kf,rfl,rfl⟩ (eq:=(rc (rv (xs:=L2.vars) (by rw [hNl]) (rv (xs:=L2.own) (by rw [hNl]) (rv (xs:=L2.par) (by rw [hNl]) (rv (xs:=L2.con) (by rw [hNl]) (rv (xs:=L2.fst) (by rw [hNl]) (rv (xs:=L2.tok) (by rw [hNl]) rz)))))))))
end Go.Abs
