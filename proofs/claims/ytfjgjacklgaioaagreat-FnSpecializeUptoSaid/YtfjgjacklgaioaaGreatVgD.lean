/-
  A part of the proofs of several laws (see the last file): no condition.
-/
import Derived.Test.YtfjgjacklgaioaaGreatVgC
set_option linter.all false
set_option linter.unusedVariables false
set_option linter.unusedSimpArgs false
set_option linter.unusedSectionVars false
set_option maxRecDepth 10000
set_option maxHeartbeats 4000000
namespace Go.Abs
open Go.Proofs
theorem Pi (rd:Nat) (bs:LI) (p:Nat) (g:Wh) (gb:Nat) (rs:List Func) (vs:LI) (t:Int) (b:Nat) (ZP:∀z∈bs,0<=z/\z<=255) (hp:p+40000<=1000000000:=by exact ob) (hg:GP g:=by exact ob) (WC:g.funcs <+: rs:=by exact ob) (hv:vs.length+3*b<=900:=by exact ob) (hb:b<=20:=by exact ob):Zi 241 [.p rd 0,.agg (WG g gb),Z4 vs,.i t,.i b] [YF rd bs p,W2 gb rs] (fun r h=>∃(e:Z2) (p2:Nat),r=Y7 e/\h=[YF rd bs p2,W2 gb rs]/\GE g vs.length 30 e/\p<=p2/\p2<=p+40000):=by
 have Dp:=FI hb
 refine ZE 34 Tryz.func241 (ar (iA (WG g gb) fun b1=>iA [.i 0,.i 0,nl] fun b2=>ie (Zv 5 [1] (ic [2,2] (KA rd bs p g gb rs vs t b (ZP:=ob)) ?_))))
 rintro _ _ ⟨e1,p21,rfl,rfl,ZY⟩
 have Xr:=ZY.1
 refine iA [.i 0,.i 0,nl] fun b3=>?_
 refine ZA 0 b3 (X4 e1) (ie (aq (ab 0 (Y3 (fun fz gz m F h=>∃(bq:Nat) (eQ:Z2) (pq:Nat),(GE g vs.length (bS bq) eQ)/\(bq<=b)/\(p<=pq/\pq+1900*bq<=p+1900*(b+1))/\F=sF [0,2,3,6,10,11] fz [(4,.i bq)]/\h=[.obj b3 (X4 eQ),YF rd bs pq,Ze gz 2,Ze gz 3,Ze gz 4]/\m=bq+1) _ _ _ ⟨b,e1,p21,Xr,ob,ob,rfl,rfl,rfl⟩ (ZF 5 fl) ?_))))
 rintro m F h ⟨bq,eQ,pq,Ye,Zk,Zx,rfl,rfl,rfl⟩
 refine Yi 1 [0] (ic [] (Pp eQ (hz:=(by have h1:=Ye.2;have h2:=(FI (b:=bq) om).1;omega))) ?_)
 rintro _ _ ⟨w1,rfl,rfl,Yf⟩
 have Ez:=Yf
 have hq20:=FI (b:=bq) om
 have hq21:=FI (b:=bq / 2) om
 have Xv:=Ye.2
 refine Xx [0,2,3,4,6,10,11] [(24,.b ((decide (w1<0))&&(decide ((bq:Int)>2))))] (fun gz=>gz) ?_ ?_
 ·refine Z1 2 (ib (b:=(decide (w1<0))) 21 (fun Zb=>?_) (fun Zb=>?_))
  ·exact Z0 (ZF 5 (Zu (decide ((bq:Int)>2)) Zb fl))
  exact Z0 (ZF 5 (Zu false Zb fl))
 refine ac ((decide (w1<0))&&(decide ((bq:Int)>2))) (p:=(w1<0)/\((bq:Int)>2)) (YG dq dq) (fun Za=>?_) (fun Za=>?_)
 ·refine ak (ab 1 (Y1 1 (Zq (CF bq 2 om om) (Z0 (az (ZL 5 [4] (ic [1,1] (KA rd bs pq g gb rs vs t (bq / 2) (ZP:=ob)) ?_)))))))
  rintro _ _ ⟨e2,p22,rfl,rfl,Xk⟩
  have Xr:=Xk.1
  exact ZA 2 b3 (X4 e2) (ie (ZK ⟨(bq / 2),e2,p22,Xr,ob,ob,rfl,rfl,rfl⟩ (ZF 5 (fc (x:=.i (bq / 2:Nat)) li fl))))
 exact ax 0 (Zv 1 [0] (ZA 3 b2 (X4 eQ) (ie (ZB (r3 [2,2] [Y7 eQ] [0] [(b2,b2)] ⟨eQ,pq,rfl,rfl,⟨⟨Ye.1,by omega⟩,by omega⟩⟩ (lr _))))))
theorem Z9r (rd:Nat) (bs:LI) (p:Nat) (t:Int) (ZP:∀z∈bs,0<=z/\z<=255) (hp:p+14<=1000000000:=by exact ob):Zi 274 [.p rd 0,.i t] [YF rd bs p] (fun r h=>∃(e:Z2) (p2:Nat),r=Y7 e/\h=[YF rd bs p2]/\(∀g:Wh,SE g 9 e)/\p<=p2/\p2<=p+14):=by
 refine ZE 45 Tryz.func274 (ar (iA [.i 0,.i 0,nl] fun b1=>ie (ar (iL (Yv []) 0 3 fun v1=>ZT 0 [(10,XJ [])] (Zw [] (W8 6 0 []) (iA [.i 0,.i 0,nl] fun b2=>ZA 0 b2 (X4 (Z2.mk 6 0 [])) (ie (Xa (YE (t==3) Zr (fun Za=>?_) (fun Za=>?_))))))))))
 ·refine ar (iL (Yv []) 0 3 fun v2=>ZT 0 [(14,XJ [])] (Zw [] (W8 6 2 []) (iA [.i 0,.i 0,nl] fun b3=>?_)))
  refine ZA 0 b3 (X4 (Z2.mk 6 2 [])) (ie (aD 9 (ZI 6 9 [0,1,4] [0,0] (Jq (fun fz gz F h=>∃(k1:Int) (b4:Nat),(Pk 9 k1)/\F=sF [0,4,6] fz [(7,.p b4 0)]/\h=[.obj b4 (X4 (Z2.mk 6 3 [Z2.mk 6 2 [],Z2.mk 0 k1 [],Z2.mk 6 2 []])),.obj rd [Ur bs,.i (p+1:Nat)],Ze gz 0,Ze gz 1,Ze gz 2,Ze gz 3,Ze gz 4]) ?_ ?_))))
  ·refine VN 2 7 ?_ ?_
   ·refine dc 2 [5] [0,0] [b3,b3] (WH rd bs p 9 (ZP:=ob)) ?_
    rintro _ _ ⟨k1,rfl,rfl,ZY⟩
    have qhp1:=ZY.lt om
    refine VN 3 7 ?_ ?_
    ·refine Yz 3 [] [1,1] [b3,b3] (AU k1) (VN 5 7 ?_ ?_)
     ·refine WU 5 [] [] [Y7 (Z2.mk 6 2 []),Y7 (Z2.mk 0 k1 []),Y7 (Z2.mk 6 2 [])] (Yv [Z2.mk 6 2 [],Z2.mk 0 k1 [],Z2.mk 6 2 []]) (XZ [Z2.mk 6 2 [],Z2.mk 0 k1 [],Z2.mk 6 2 []]).symm 3 3 fun v3=>YA 3 3 [] [(21,XJ [Z2.mk 6 2 [],Z2.mk 0 k1 [],Z2.mk 6 2 []])] (VN 6 7 ?_ ?_)
      ·exact Yz 6 [] [] [] (W8 6 3 [Z2.mk 6 2 [],Z2.mk 0 k1 [],Z2.mk 6 2 []]) (Z9 7 (dA 7 [] [] [.i 0,.i 0,nl] fun b4=>Z9 8 (YM 8 0 [] [] b4 (X4 (Z2.mk 6 3 [Z2.mk 6 2 [],Z2.mk 0 k1 [],Z2.mk 6 2 []])) (de (ZU ⟨k1,b4,(by assumption),rfl,rfl⟩ (wk [0,1,1,1,1,1,1] fl))))))
      exact dA 7 [] [] [.i 0,.i 0,nl] fun b5=>Z9 6 (Yz 6 [] [] [] (W8 6 3 [Z2.mk 6 2 [],Z2.mk 0 k1 [],Z2.mk 6 2 []]) (Z9 8 (YM 8 0 [] [] b5 (X4 (Z2.mk 6 3 [Z2.mk 6 2 [],Z2.mk 0 k1 [],Z2.mk 6 2 []])) (de (ZU ⟨k1,b5,(by assumption),rfl,rfl⟩ (wk [0,1,1,1,1,1,1] fl))))))
     exact dA 7 [1,1] [b3,b3] [.i 0,.i 0,nl] fun b6=>Z9 5 (WU 5 [] [] [Y7 (Z2.mk 6 2 []),Y7 (Z2.mk 0 k1 []),Y7 (Z2.mk 6 2 [])] (Yv [Z2.mk 6 2 [],Z2.mk 0 k1 [],Z2.mk 6 2 []]) (XZ [Z2.mk 6 2 [],Z2.mk 0 k1 [],Z2.mk 6 2 []]).symm 3 3 fun v4=>YA 2 2 [] [(21,XJ [Z2.mk 6 2 [],Z2.mk 0 k1 [],Z2.mk 6 2 []])] (Z9 6 (Yz 6 [] [] [] (W8 6 3 [Z2.mk 6 2 [],Z2.mk 0 k1 [],Z2.mk 6 2 []]) (Z9 8 (YM 8 1 [] [] b6 (X4 (Z2.mk 6 3 [Z2.mk 6 2 [],Z2.mk 0 k1 [],Z2.mk 6 2 []])) (de (ZU ⟨k1,b6,(by assumption),rfl,rfl⟩ (wk [0,1,1,1,1,1,1] fl))))))))
    exact dA 7 [1,1] [b3,b3] [.i 0,.i 0,nl] fun b7=>Z9 3 (Yz 3 [] [2,2] [b3,b3] (AU k1) (Z9 5 (WU 5 [] [] [Y7 (Z2.mk 6 2 []),Y7 (Z2.mk 0 k1 []),Y7 (Z2.mk 6 2 [])] (Yv [Z2.mk 6 2 [],Z2.mk 0 k1 [],Z2.mk 6 2 []]) (XZ [Z2.mk 6 2 [],Z2.mk 0 k1 [],Z2.mk 6 2 []]).symm 3 3 fun v5=>YA 2 2 [] [(21,XJ [Z2.mk 6 2 [],Z2.mk 0 k1 [],Z2.mk 6 2 []])] (Z9 6 (Yz 6 [] [] [] (W8 6 3 [Z2.mk 6 2 [],Z2.mk 0 k1 [],Z2.mk 6 2 []]) (Z9 8 (YM 8 1 [] [] b7 (X4 (Z2.mk 6 3 [Z2.mk 6 2 [],Z2.mk 0 k1 [],Z2.mk 6 2 []])) (de (ZU ⟨k1,b7,(by assumption),rfl,rfl⟩ (wk [0,1,1,1,1,1,1] fl))))))))))
   refine dA 7 [0,0] [b3,b3] [.i 0,.i 0,nl] fun b8=>Z9 2 (dc 2 [6] [1,1] [b3,b3] (WH rd bs p 9 (ZP:=ob)) ?_)
   rintro _ _ ⟨k2,rfl,rfl,Yf⟩
   have qhp2:=Yf.lt om
   exact Z9 3 (Yz 3 [] [2,2] [b3,b3] (AU k2) (Z9 5 (WU 5 [] [] [Y7 (Z2.mk 6 2 []),Y7 (Z2.mk 0 k2 []),Y7 (Z2.mk 6 2 [])] (Yv [Z2.mk 6 2 [],Z2.mk 0 k2 [],Z2.mk 6 2 []]) (XZ [Z2.mk 6 2 [],Z2.mk 0 k2 [],Z2.mk 6 2 []]).symm 3 3 fun v6=>YA 2 2 [] [(21,XJ [Z2.mk 6 2 [],Z2.mk 0 k2 [],Z2.mk 6 2 []])] (Z9 6 (Yz 6 [] [] [] (W8 6 3 [Z2.mk 6 2 [],Z2.mk 0 k2 [],Z2.mk 6 2 []]) (Z9 8 (YM 8 2 [] [] b8 (X4 (Z2.mk 6 3 [Z2.mk 6 2 [],Z2.mk 0 k2 [],Z2.mk 6 2 []])) (de (ZU ⟨k2,b8,(by assumption),rfl,rfl⟩ (wk [0,1,1,1,1,1,1] fl))))))))))
  rintro F h ⟨k1,b4,ZY,rfl,rfl⟩
  have qhp1:=ZY.lt om
  refine aD 8 (ZI 5 8 [0,1,4] [0,2] (Z9 2 (dc 2 [1] [1,0] [b3,b4] (WH rd bs (p+1) 9 (ZP:=ob)) ?_)))
  rintro _ _ ⟨k3,rfl,rfl,YJ⟩
  have qhp3:=YJ.lt om
  exact Z9 3 (Yz 3 [] [2,1] [b3,b4] (AU k3) (Z9 5 (WU 5 [] [] [Y7 (Z2.mk 6 3 [Z2.mk 6 2 [],Z2.mk 0 k1 [],Z2.mk 6 2 []]),Y7 (Z2.mk 0 k3 []),Y7 (Z2.mk 6 2 [])] (Yv [Z2.mk 6 3 [Z2.mk 6 2 [],Z2.mk 0 k1 [],Z2.mk 6 2 []],Z2.mk 0 k3 [],Z2.mk 6 2 []]) (XZ [Z2.mk 6 3 [Z2.mk 6 2 [],Z2.mk 0 k1 [],Z2.mk 6 2 []],Z2.mk 0 k3 [],Z2.mk 6 2 []]).symm 3 3 fun v7=>YA 2 2 [] [(28,XJ [Z2.mk 6 3 [Z2.mk 6 2 [],Z2.mk 0 k1 [],Z2.mk 6 2 []],Z2.mk 0 k3 [],Z2.mk 6 2 []])] (Z9 6 (Yz 6 [] [] [] (W8 6 3 [Z2.mk 6 3 [Z2.mk 6 2 [],Z2.mk 0 k1 [],Z2.mk 6 2 []],Z2.mk 0 k3 [],Z2.mk 6 2 []]) (Z9 7 (YM 7 7 [] [] b1 (X4 (Z2.mk 6 3 [Z2.mk 6 3 [Z2.mk 6 2 [],Z2.mk 0 k1 [],Z2.mk 6 2 []],Z2.mk 0 k3 [],Z2.mk 6 2 []])) (de (ZB (r3 [2] [Y7 (Z2.mk 6 3 [Z2.mk 6 3 [Z2.mk 6 2 [],Z2.mk 0 k1 [],Z2.mk 6 2 []],Z2.mk 0 k3 [],Z2.mk 6 2 []])] [0] [(b1,b1)] ⟨(Z2.mk 6 3 [Z2.mk 6 3 [Z2.mk 6 2 [],Z2.mk 0 k1 [],Z2.mk 6 2 []],Z2.mk 0 k3 [],Z2.mk 6 2 []]),(p+1)+1,rfl,rfl,⟨fun g=>SE.three (s1:=4) (s2:=1) (s3:=1) om om (SE.three (s1:=1) (s2:=1) (s3:=1) om om (SE.nil om om om) (SE.int om om) (SE.nil om om om) om) (SE.int om om) (SE.nil om om om) om,by omega⟩⟩ (lr _)))))))))))
 refine ak (Zv 1 [0] (iA [.i 0,.i 0,nl] fun b9=>ZA 0 b9 (X4 (Z2.mk 6 0 [])) (ie (YP 1 (ic [4] (WH rd bs p 3 (ZP:=ob)) ?_)))))
 rintro _ _ ⟨k4,rfl,rfl,YT⟩
 have qhp4:=YT.lt om
 refine ia ((1+k4)) ((1)+(k4)) (Z0 (ab 0 (Y3 (fun fz gz m F h=>∃(j:Int) (eQ:Z2) (pq:Nat),(0<=j/\j<=3)/\(∀g:Wh,SE g (7-2*j.toNat) eQ)/\(p+1<=pq/\pq+4*j.toNat<=p+13)/\F=sF [0,4,8] fz [(9,.i j)]/\h=[YF rd bs pq,.obj b9 (X4 eQ),Ze gz 4]/\m=j.toNat) _ _ _ ⟨(1+k4),(Z2.mk 6 0 []),p+1,ob,(fun g=>SE.nil om om om),ob,rfl,rfl,rfl⟩ (wk [0,0,2] fl) ?_)))
 rintro m F h ⟨j,eQ,pq,Ye,Zk,Zx,rfl,rfl,rfl⟩
 refine Xa (Y9 (j>0) (fun Zg=>?_) (fun Zg=>?_))
 ·refine ak (aq (ab 1 (aE 7 (ZI 5 7 [0,3] [1] (Z9 1 (dc 1 [0] [0] [b9] (Pr rd bs pq (ZP:=ob)) ?_))))))
  rintro _ _ ⟨z1,rfl,rfl,Xk⟩
  have hz:=Xk
  exact Z9 2 (Yz 2 [] [1] [b9] (AU z1) (Z9 4 (WU 4 [] [] [Y7 (Z2.mk 0 z1 []),Y7 eQ] (Yv [Z2.mk 0 z1 [],eQ]) (XZ [Z2.mk 0 z1 [],eQ]).symm 2 3 fun v8=>YA 2 2 [] [(42,XJ [Z2.mk 0 z1 [],eQ])] (Z9 5 (Yz 5 [] [] [] (W8 6 1 [Z2.mk 0 z1 [],eQ]) (Z9 6 (YM 6 2 [] [] b9 (X4 (Z2.mk 6 1 [Z2.mk 0 z1 [],eQ])) (de (az (Z1 1 (ia ((j-1)) ((j)-(1)) (Z0 (ZK ⟨(j-1),(Z2.mk 6 1 [Z2.mk 0 z1 [],eQ]),pq+4,ob,(fun g=>SE.two om om (SE.int (q:=1) om om) (Zk g) om),ob,rfl,rfl,rfl⟩ (wk [2,0,1] fl))))))))))))))
 exact ax 0 (Zv 1 [1] (ZA 2 b1 (X4 eQ) (ie (ZB (r3 [1] [Y7 eQ] [0] [(b1,b1)] ⟨eQ,pq,rfl,rfl,⟨fun g=>(⟨(Zk g).1,by have:=(Zk g).2;omega⟩:SE g 9 _),by omega⟩⟩ (lr _))))))
theorem Z9u (rd:Nat) (bs:LI) (p:Nat) (g:Wh) (gb:Nat) (rs:List Func) (ZP:∀z∈bs,0<=z/\z<=255) (hp:p+1600<=1000000000:=by exact ob) (hg:GP g:=by exact ob) (WC:g.funcs <+: rs:=by exact ob):Zi 237 [.p rd 0,.agg (WG g gb)] [YF rd bs p,W2 gb rs] (fun r h=>∃(e:Z2) (p2:Nat),r=Y7 e/\h=[YF rd bs p2,W2 gb rs]/\GE g 0 200 e/\p<=p2/\p2<=p+1600):=by
 have hbv:=E5
 refine ZE 27 Tryz.func237 (ar (iA (WG g gb) fun b1=>iA [.i 0,.i 0,nl] fun b2=>ie (Y1 1 (iL (Z8 [1,1,3]) 3 1 fun v1=>ZT 0 [(8,Z4 [1,1,3])] (ic [3] (Uq rd bs p [1,1,3] (ZP:=ob)) ?_)))))
 rintro _ _ ⟨z1,rfl,rfl,ZY⟩
 have hz:=BN (a:=1) (b:=3) ZY (by decide)
 refine Z0 (Zv 3 [3] (iL (Z8 [z1]) 1 1 fun v2=>ZT 0 [(13,Z4 [z1])] (ic [1,4] (KA rd bs (p+1) g gb rs [z1] 0 16 (ZP:=ob) (hv:=(by simp))) ?_)))
 rintro _ _ ⟨e1,p21,rfl,rfl,Yf⟩
 have Xr:=Yf.1
 have KC:=Yf.2
 rw [hbv.2.2.2.1] at Xr
 refine iA [.i 0,.i 0,nl] fun b3=>ZA 0 b3 (X4 e1) (ie (YP 1 (ic [1] (WH rd bs p21 3 (ZP:=ob)) ?_)))
 rintro _ _ ⟨k1,rfl,rfl,YJ⟩
 have qhp3:=YJ.lt om
 refine Z0 (Wm (fun fz gz F h=>∃(eQ:Z2),(GE g 1 151 eQ)/\F=sF [0,4,5,6] fz []/\h=[Ze gz 0,.obj b3 (X4 eQ),Ze gz 2,Ze gz 5]) ?_ ?_)
 ·refine ac (k1==0) Zr (fun Za=>?_) (fun Za=>?_)
  ·exact az (ZL 1 [1] (TN [Y7 e1] (Yv [e1]) (XZ [e1]).symm 1 3 fun v3=>ZT 0 [(19,XJ [e1])] (Zw [] (W8 5 0 [e1]) (ZA 2 b3 (X4 (Z2.mk 5 0 [e1])) (ie (ZU ⟨(Z2.mk 5 0 [e1]),(GE.one om om Xr om),rfl,rfl⟩ (wk [2,0,1,3] fl)))))))
  exact ak (ZU ⟨e1,(GE.le Xr om),rfl,rfl⟩ (wk [0,0,0,2] fl))
 rintro F h ⟨eQ,B2,rfl,rfl⟩
 refine aD 7 (ZI 4 7 [0,1,3] [1] (Z9 2 (dc 2 [0] [0] [b3] (Z9r rd bs (p21+1) z1 (ZP:=ob)) ?_)))
 rintro _ _ ⟨e2,p22,rfl,rfl,YT⟩
 have hli:=YT.1
 exact Z9 4 (WU 4 [] [] [Y7 e2,Y7 eQ] (Yv [e2,eQ]) (XZ [e2,eQ]).symm 2 3 fun v4=>YA 2 2 [] [(25,XJ [e2,eQ])] (Z9 5 (Yz 5 [] [] [] (W8 13 0 [e2,eQ]) (Z9 6 (YM 6 4 [] [] b2 (X4 (Z2.mk 13 0 [e2,eQ])) (de (ZB (r3 [2,3] [Y7 (Z2.mk 13 0 [e2,eQ])] [0] [(b2,b2)] ⟨(Z2.mk 13 0 [e2,eQ]),p22,rfl,rfl,⟨GE.letS ((hli g).ge (X6 _)) B2 om,by omega⟩⟩ (lr _)))))))))
theorem Za1 (rd:Nat) (bs:LI) (p:Nat) (g:Wh) (gb:Nat) (rs:List Func) (f:Func) (i:Int) (w:Int) (ZP:∀z∈bs,0<=z/\z<=255) (hp:p+1000<=1000000000:=by exact ob) (hg:GP g:=by exact ob) (WC:g.funcs <+: rs:=by exact ob) (hi:0<=i:=by exact ob) (hf:g.funcs[i.toNat]? = some f:=by exact ob) (hw:0<=w/\w<f.params.length:=by exact ob):Zi 238 [.p rd 0,.agg (WG g gb),.i i,.i w] [YF rd bs p,W2 gb rs] (fun r h=>∃(e:Z2) (p2:Nat),r=Y7 e/\h=[YF rd bs p2,W2 gb rs]/\GE g f.params.length 200 e/\p<=p2/\p2<=p+1000):=by
 obtain ⟨hil,_⟩:=Xs.1 hf
 have hgl:=hg.len
 have hso:=(hg.sigs f (Y4 hf)).bd
 have hbv:=E5
 refine ZE 136 Tryz.func238 (ar (iA (WG g gb) fun b1=>iA [.i 0,.i 0,nl] fun b2=>ie (Zv 3 [1] (Zq (Wv gb g.funcs.length 4 i.toNat 5 i) (Z1 1 (Vk (VB 3 gb 4 4 5 (i.toNat * 5+0) (Zh (Xy rs)) [Z4 f.params] 31 (Z4 f.params) (T4 WC hf 0 rfl (Vo rfl))) (Z0 (Y1 1 (iw (Yc f.params) (Z0 (Y1 1 (iL (Z8 [0,1]) 2 1 fun v1=>ZT 0 [(26,Z4 [0,1])] (ic [] (KN f.params [0,1]) ?_)))))))))))))
 rintro _ _ ⟨v2,rfl,rfl⟩
 refine Z0 (ar (iL (Yv []) 0 3 fun v3=>?_))
 refine Z0 (Yo (ab 0 (Y3 (fun fz gz m F h=>∃(k:Nat) (ys:List Z2) (u:Value) (pq:Nat),(k<=f.params.length)/\(ys.length=k)/\(∀e∈ys,GE g (f.params.length+2) 3 e)/\(p<=pq/\pq<=p+k)/\F=sF [0,2,3,5,8,9,10] fz [(11,Z4 (f.params++[0,1])),(12,Ki ys u),(13,.i k)]/\h=[Ze gz 3,Ze gz 4,YF rd bs pq,Ze gz 6,.tail u 3]/\m=f.params.length-k) _ _ _ ⟨0,[],v3,p,ob,ob,(fun e he=>by cases he),ob,rfl,rfl,rfl⟩ (wk [3,3,3,3,0] (fc (x:=ZQ (f.params++[0,1]) v2) (Zc.forget _ _) (fr (Ya fl)))) ?_)))
 rintro m F h ⟨k,ys,u,pq,Ye,Zk,Zx,Yy,rfl,rfl,rfl⟩
 refine Xa (Y9 ((k:Int)<(f.params.length:Int)) (fun Za=>?_) (fun Za=>?_))
 ·refine ak (aq (ab 1 (ar (YE ((k:Int)==w) Zr (fun Zg=>?_) (fun Zg=>?_)))))
  ·exact az (Z1 2 (ia (((f.params.length+1:Nat):Int)) (((f.params.length:Int))+(1)) (Zw [] (QP ((f.params.length+1:Nat):Int)) (TN [Y7 (Z2.mk 12 ((f.params.length+1:Nat):Int) [])] (Yv [(Z2.mk 12 ((f.params.length+1:Nat):Int) [])]) (XZ [(Z2.mk 12 ((f.params.length+1:Nat):Int) [])]).symm 1 3 fun v4=>ZT 0 [(41,XJ [(Z2.mk 12 ((f.params.length+1:Nat):Int) [])])] (ip 5 (Yv (ys++[(Z2.mk 12 ((f.params.length+1:Nat):Int) [])])) (Yv ys) (Yv [(Z2.mk 12 ((f.params.length+1:Nat):Int) [])]) u none 3 (TJ _) (TJ _) (Am _) (by simp<;>omega) (by simp [Al,Yv]) fun v5=>Z0 (az (Z1 1 (ZJ k (Z0 (ZK ⟨k+1,(ys++[(Z2.mk 12 ((f.params.length+1:Nat):Int) [])]),v5,pq,ob,ob,(XW Zx (GE.var om om om)),ob,rfl,rfl,rfl⟩ (wk [2,2,2,2,0] (fw (ZO k fl)))))))))))))
  refine aq (Wm (fun fz gz F h=>∃(wb:Bool) (p5:Nat),(pq<=p5/\p5<=pq+1)/\F=sF [0,2,3,5,8,9,10,11,12,13] fz [(52,.b wb)]/\h=[Ze gz 0,Ze gz 1,YF rd bs p5,Ze gz 3,Ze gz 4]) ?_ ?_)
  ·refine az (Z1 2 ?_)
   obtain ⟨x1,Z3⟩:=Zt f.params k om
   refine Zq (Zm none (k:Int) 1 (Y2 Z3)) (Z1 3 (ib (b:=(x1==0)) 48 (fun Zb=>?_) (fun Zb=>?_)))
   ·refine Z1 1 (ic [2] (WH rd bs pq 2 (ZP:=ob)) ?_)
    rintro _ _ ⟨k1,rfl,rfl,Yf⟩
    have qhp2:=Yf.lt om
    exact Z0 (ZU ⟨(k1==0),pq+1,om,rfl,rfl⟩ (wk [1,1,0,0,0] fl))
   exact Z0 (ZU ⟨false,pq,ob,rfl,rfl⟩ (ZF 5 fl))
  rintro F h ⟨wb,p5,kR10_0,rfl,rfl⟩
  refine ac wb Iff.rfl (fun ZH=>?_) (fun ZH=>?_)
  ·exact az (Z1 2 (Zw [] (QP (k:Int)) (Z1 1 (Zw [] (QP (f.params.length:Int)) (TN [Y7 (Z2.mk 12 (k:Int) []),Y7 (Z2.mk 12 (f.params.length:Int) [])] (Yv [(Z2.mk 12 (k:Int) []),(Z2.mk 12 (f.params.length:Int) [])]) (XZ [(Z2.mk 12 (k:Int) []),(Z2.mk 12 (f.params.length:Int) [])]).symm 2 3 fun v6=>ZT 0 [(58,XJ [(Z2.mk 12 (k:Int) []),(Z2.mk 12 (f.params.length:Int) [])])] (Zw [] (W8 1 0 [(Z2.mk 12 (k:Int) []),(Z2.mk 12 (f.params.length:Int) [])]) (TN [Y7 (Z2.mk 1 0 [(Z2.mk 12 (k:Int) []),(Z2.mk 12 (f.params.length:Int) [])])] (Yv [(Z2.mk 1 0 [(Z2.mk 12 (k:Int) []),(Z2.mk 12 (f.params.length:Int) [])])]) (XZ [(Z2.mk 1 0 [(Z2.mk 12 (k:Int) []),(Z2.mk 12 (f.params.length:Int) [])])]).symm 1 3 fun v7=>ZT 0 [(60,XJ [(Z2.mk 1 0 [(Z2.mk 12 (k:Int) []),(Z2.mk 12 (f.params.length:Int) [])])])] (ip 6 (Yv (ys++[(Z2.mk 1 0 [(Z2.mk 12 (k:Int) []),(Z2.mk 12 (f.params.length:Int) [])])])) (Yv ys) (Yv [(Z2.mk 1 0 [(Z2.mk 12 (k:Int) []),(Z2.mk 12 (f.params.length:Int) [])])]) u none 3 (TJ _) (TJ _) (Am _) (by simp<;>omega) (by simp [Al,Yv]) fun v8=>Z0 (az (Z1 1 (ZJ k (Z0 (ZK ⟨k+1,(ys++[(Z2.mk 1 0 [(Z2.mk 12 (k:Int) []),(Z2.mk 12 (f.params.length:Int) [])])]),v8,p5,ob,ob,(XW Zx (GE.two (s1:=1) (s2:=1) om om (GE.var om om om) (GE.var om om om) om)),ob,rfl,rfl,rfl⟩ (wk [3,3,3,3,0] (fw (ZO k fl))))))))))))))))
  exact az (Z1 2 (Zw [] (QP (k:Int)) (TN [Y7 (Z2.mk 12 (k:Int) [])] (Yv [(Z2.mk 12 (k:Int) [])]) (XZ [(Z2.mk 12 (k:Int) [])]).symm 1 3 fun v9=>ZT 0 [(65,XJ [(Z2.mk 12 (k:Int) [])])] (ip 5 (Yv (ys++[(Z2.mk 12 (k:Int) [])])) (Yv ys) (Yv [(Z2.mk 12 (k:Int) [])]) u none 3 (TJ _) (TJ _) (Am _) (by simp<;>omega) (by simp [Al,Yv]) fun v10=>Z0 (az (Z1 1 (ZJ k (Z0 (ZK ⟨k+1,(ys++[(Z2.mk 12 (k:Int) [])]),v10,p5,ob,ob,(XW Zx (GE.var om om om)),ob,rfl,rfl,rfl⟩ (wk [2,2,2,2,0] (fw (ZO k fl))))))))))))
 refine ax 0 (ar (ZT 2 [(68,XJ ys)] (Zw [] (W8 9 i ys) (iA [.i 0,.i 0,nl] fun b3=>ZA 0 b3 (X4 (Z2.mk 9 i ys)) (ie (Zv 1 [0] (iA [.i 0,.i 0,nl] fun b4=>?_)))))))
 refine ZA 0 b4 (X4 (Z2.mk 9 i ys)) (ie (aq (aq (Wm (fun fz gz F h=>∃(wb:Bool) (p5:Nat),(pq<=p5/\p5<=pq+1)/\F=sF [0,2,3,5,8,9,10,11,14,15] fz [(82,.b wb)]/\h=[Ze gz 0,Ze gz 1,Ze gz 2,Ze gz 3,YF rd bs p5,Ze gz 5]) ?_ ?_))))
 ·refine az (ZL 3 [3] (Zq (Wv gb g.funcs.length 4 i.toNat 5 i) (Z1 1 (Vk (VB 5 gb 4 4 5 (i.toNat * 5+1) (Zh (Xy rs)) [.i f.result] 3 (.i f.result) (T4 WC hf 1 rfl (Vo rfl))) (Z1 2 (ib (b:=(f.result==1)) 78 (fun Zz=>?_) (fun Zz=>?_)))))))
  ·refine Z1 1 (ic [4] (WH rd bs pq 5 (ZP:=ob)) ?_)
   rintro _ _ ⟨k2,rfl,rfl,Xk⟩
   have qhp5:=Xk.lt om
   exact Z0 (ZU ⟨(decide (k2>0)),pq+1,ob,rfl,rfl⟩ (wk [1,1,1,1,0,0] fl))
  exact Z0 (ZU ⟨false,pq,ob,rfl,rfl⟩ (ZF 6 fl))
 rintro F h ⟨wb,p5,kR15_0,rfl,rfl⟩
 refine Wm (fun fz gz F h=>∃(eQ:Z2) (p6:Nat),(GE g (f.params.length+2) 41 eQ)/\(p5<=p6/\p6<=p5+302)/\F=sF [0,2,3,5,8,9,15] fz []/\h=[.obj b4 (X4 eQ),Ze gz 2,Ze gz 3,YF rd bs p6,Ze gz 5]) ?_ ?_
 ·refine ac wb Iff.rfl (fun Yj=>?_) (fun Yj=>?_)
  ·refine Zv 3 [3] (ic [4,4] (KA rd bs p5 g gb rs (f.params++[0,1]) 0 4 (ZP:=ob) (hv:=(by first|omega|(simp only [Yq,X5,XP];omega)))) ?_)
   rintro _ _ ⟨e1,p21,rfl,rfl,WB⟩
   have Xr:=WB.1
   have KC:=WB.2
   try rw [Yq] at Xr
   rw [hbv.2.1] at Xr
   refine iA [.i 0,.i 0,nl] fun b5=>?_
   refine ZA 0 b5 (X4 e1) (ie (aq (aq (Wm (fun fz gz F h=>∃(wc:Bool),(True)/\F=sF [0,2,3,5,8,9,10,14,15,16] fz [(94,.b wc)]/\h=gz) ?_ ?_))))
   ·refine az (Z1 3 (ib (b:=(decide ((f.params.length:Int)>1))) 89 (fun Yp=>?_) (fun Yp=>?_)))
    ·refine Z1 1 ?_
     obtain ⟨x2,Zs⟩:=Zt f.params 0 om
     exact Zq (Zm none 0 1 (Y2 Zs)) (Z0 (ZU ⟨(x2==2),ob,rfl,rfl⟩ (ZF 7 fl)))
    exact Z0 (ZU ⟨false,ob,rfl,rfl⟩ (ZF 7 fl))
   rintro F h ⟨wc,kR17_0,rfl,rfl⟩
   refine Wm (fun fz gz F h=>∃(eA:Z2),(GE g (f.params.length+2) 30 eA)/\F=sF [0,2,3,5,8,9,14,15,16] fz []/\h=[.obj b5 (X4 eA),Ze gz 1,Ze gz 2,Ze gz 3,Ze gz 4,Ze gz 5,Ze gz 6]) ?_ ?_
   ·refine ac wc Iff.rfl (fun Xh=>?_) (fun Xh=>?_)
    ·exact az (Zw [] (QP 0) (Z1 1 (Zw [] (QP (f.params.length:Int)) (TN [Y7 (Z2.mk 12 0 []),Y7 (Z2.mk 12 (f.params.length:Int) [])] (Yv [Z2.mk 12 0 [],(Z2.mk 12 (f.params.length:Int) [])]) (XZ [Z2.mk 12 0 [],(Z2.mk 12 (f.params.length:Int) [])]).symm 2 3 fun v11=>ZT 0 [(98,XJ [Z2.mk 12 0 [],(Z2.mk 12 (f.params.length:Int) [])])] (Zw [] (W8 11 0 [Z2.mk 12 0 [],(Z2.mk 12 (f.params.length:Int) [])]) (ZA 1 b5 (X4 (Z2.mk 11 0 [Z2.mk 12 0 [],(Z2.mk 12 (f.params.length:Int) [])])) (ie (ZU ⟨(Z2.mk 11 0 [Z2.mk 12 0 [],(Z2.mk 12 (f.params.length:Int) [])]),(GE.two (s1:=1) (s2:=1) om om (GE.var om om om) (GE.var om om om) om),rfl,rfl⟩ (wk [0,1,1,1,1,1,1] fl)))))))))
    exact ak (ZU ⟨e1,Xr,rfl,rfl⟩ (ZF 7 fl))
   rintro F h ⟨eA,Zcs,rfl,rfl⟩
   exact az (ZL 2 [0,4] (TN [Y7 eA,Y7 (Z2.mk 9 i ys)] (Yv [eA,Z2.mk 9 i ys]) (XZ [eA,Z2.mk 9 i ys]).symm 2 3 fun v12=>ZT 0 [(102,XJ [eA,Z2.mk 9 i ys])] (Zw [] (W8 6 1 [eA,Z2.mk 9 i ys]) (ZA 4 b4 (X4 (Z2.mk 6 1 [eA,Z2.mk 9 i ys])) (ie (ZU ⟨(Z2.mk 6 1 [eA,Z2.mk 9 i ys]),p21,(GE.two (s1:=30) (s2:=10) om om Zcs (GE.node (L:=f.params.length) (s:=3) (q:=10) om (fun _=>by omega) om Zx om om om) om),ob,rfl,rfl⟩ (wk [0,5,5,2,2] fl)))))))
  refine Zv 3 [3] (Zq (Wv gb g.funcs.length 4 i.toNat 5 i) (Z1 1 (Vk (VB 5 gb 4 4 5 (i.toNat * 5+1) (Zh (Xy rs)) [.i f.result] 3 (.i f.result) (T4 WC hf 1 rfl (Vo rfl))) (YE (f.result==0) Zr (fun Xn=>?_) (fun Xn=>?_)))))
  ·refine aE 11 (ZI 6 11 [0,3,4,5,7] [3,1] (Z9 1 (dL 1 [1,3] [b3,b1] (Z8 [1,2]) 2 1 fun v13=>YA 5 5 [] [(112,Z4 [1,2])] (Z9 2 (dc 2 [5] [1,3] [b3,b1] (Uq rd bs p5 [1,2] (ZP:=ob)) ?_)))))
   rintro _ _ ⟨z1,rfl,rfl,UR⟩
   have hz:=BN (a:=1) (b:=2) UR (by decide)
   refine Z9 6 (dc 6 [0,5] [1] [b3] (KA rd bs (p5+1) g gb rs (f.params++[0,1]) 0 4 (ZP:=ob) (hv:=(by first|omega|(simp only [Yq,X5,XP];omega)))) ?_)
   rintro _ _ ⟨e2,p22,rfl,rfl,T8⟩
   have Xr:=T8.1
   have KC:=T8.2
   try rw [Yq] at Xr
   rw [hbv.2.1] at Xr
   exact Z9 8 (WU 8 [] [] [Y7 e2,Y7 (Z2.mk 9 i ys)] (Yv [e2,Z2.mk 9 i ys]) (XZ [e2,Z2.mk 9 i ys]).symm 2 3 fun v14=>YA 2 2 [] [(119,XJ [e2,Z2.mk 9 i ys])] (Z9 9 (Yz 9 [] [] [] (W8 z1 0 [e2,Z2.mk 9 i ys]) (Z9 10 (YM 10 4 [] [] b4 (X4 (Z2.mk z1 0 [e2,Z2.mk 9 i ys])) (de (ZU ⟨(Z2.mk z1 0 [e2,Z2.mk 9 i ys]),p22,(GE.two (s1:=30) (s2:=10) om om Xr (GE.node (L:=f.params.length) (s:=3) (q:=10) om (fun _=>by omega) om Zx om om om) om),ob,rfl,rfl⟩ (wk [0,5,5,1,1] fl))))))))
  exact ak (ZU ⟨(Z2.mk 9 i ys),p5,(GE.le (GE.node (L:=f.params.length) (s:=3) (q:=10) om (fun _=>by omega) om Zx om om om) om),ob,rfl,rfl⟩ (wk [0,1,1,1,1] fl))
 rintro F h ⟨eQ,p6,ED,Zlz,rfl,rfl⟩
 refine aD 16 (ZI 9 16 [0,2,3,4,5,6,7] [2,2] (dx 8 (Wv gb g.funcs.length 4 i.toNat 5 i) (Zj 7 8 [9] (Uo 10 (VB 4 gb 4 4 5 (i.toNat * 5+1) (Zh (Xy rs)) [.i f.result] 3 (.i f.result) (T4 WC hf 1 rfl (Vo rfl))) (ZI 5 6 [12] [0] (Z9 1 (Yz 1 [] [0,4,2,2] [b4,gb,b1,b1] (QP w) (Z9 11 (dc 11 [3,3] [0] [b4] (KA rd bs p6 g gb rs f.params f.result 4 (ZP:=ob) (hv:=(by first|omega|(simp only [Yq,X5,XP];omega)))) ?_)))))))))
 rintro _ _ ⟨e3,p23,rfl,rfl,T9⟩
 have Xr:=T9.1
 have KC:=T9.2
 try rw [Yq] at Xr
 rw [hbv.2.1] at Xr
 exact Z9 13 (WU 13 [] [] [Y7 (Z2.mk 12 w []),Y7 e3,Y7 eQ] (Yv [Z2.mk 12 w [],e3,eQ]) (XZ [Z2.mk 12 w [],e3,eQ]).symm 3 3 fun v15=>YA 2 2 [] [(134,XJ [Z2.mk 12 w [],e3,eQ])] (Z9 14 (Yz 14 [] [] [] (W8 8 1 [Z2.mk 12 w [],e3,eQ]) (Z9 15 (YM 15 4 [] [] b2 (X4 (Z2.mk 8 1 [Z2.mk 12 w [],e3,eQ])) (de (ZB (r3 [2,2] [Y7 (Z2.mk 8 1 [Z2.mk 12 w [],e3,eQ])] [0] [(b2,b2)] ⟨(Z2.mk 8 1 [Z2.mk 12 w [],e3,eQ]),p23,rfl,rfl,⟨GE.matchL hg (s1:=1) (s2:=30) (s3:=41) (GE.var om om om) Xr ED om,by omega⟩⟩ (lr _)))))))))
theorem Za2 (rd:Nat) (bs:LI) (p:Nat) (g:Wh) (gb:Nat) (rs:List Func) (f:Func) (i:Int) (ZP:∀z∈bs,0<=z/\z<=255) (hp:p+1000<=1000000000:=by exact ob) (hg:GP g:=by exact ob) (WC:g.funcs <+: rs:=by exact ob) (hi:0<=i:=by exact ob) (hf:g.funcs[i.toNat]? = some f:=by exact ob) (h0:0<f.params.length:=by exact ob):Zi 239 [.p rd 0,.agg (WG g gb),.i i] [YF rd bs p,W2 gb rs] (fun r h=>∃(e:Z2) (p2:Nat),r=Y7 e/\h=[YF rd bs p2,W2 gb rs]/\GE g f.params.length 200 e/\p<=p2/\p2<=p+1000):=by
 obtain ⟨hil,_⟩:=Xs.1 hf
 have hgl:=hg.len
 have hso:=(hg.sigs f (Y4 hf)).bd
 have hbv:=E5
 refine ZE 96 Tryz.func239 (ar (iA (WG g gb) fun b1=>iA [.i 0,.i 0,nl] fun b2=>ie (Zv 3 [1] (Zq (Wv gb g.funcs.length 4 i.toNat 5 i) (Z1 1 (Vk (VB 3 gb 4 4 5 (i.toNat * 5+0) (Zh (Xy rs)) [Z4 f.params] 31 (Z4 f.params) (T4 WC hf 0 rfl (Vo rfl))) (Z0 (Y1 1 (iw (Yc f.params) (Z0 (Y1 1 (Zw [] (QP (f.params.length:Int)) (TN [Y7 (Z2.mk 12 (f.params.length:Int) [])] (Yv [(Z2.mk 12 (f.params.length:Int) [])]) (XZ [(Z2.mk 12 (f.params.length:Int) [])]).symm 1 3 fun v1=>Z0 (Y1 1 (ia (((f.params.length+2:Nat):Int)) (((f.params.length:Int))+(2)) (Zw [] (QP ((f.params.length+2:Nat):Int)) (TN [Y7 (Z2.mk 12 ((f.params.length+2:Nat):Int) [])] (Yv [(Z2.mk 12 ((f.params.length+2:Nat):Int) [])]) (XZ [(Z2.mk 12 ((f.params.length+2:Nat):Int) [])]).symm 1 3 fun v2=>?_)))))))))))))))))
 refine Z0 (Yo (ab 0 (Y3 (fun fz gz m F h=>∃(k:Nat) (ys:List Z2) (u:Value) (zs:List Z2) (w:Value),(1<=k/\k<=f.params.length)/\(ys.length=k)/\(zs.length=k)/\(∀e∈ys,GE g (f.params.length+3) 1 e)/\(∀e∈zs,GE g (f.params.length+3) 1 e)/\F=sF [0,2,4,6,7,8] fz [(9,Ki ys u),(10,Ki zs w),(11,.i k)]/\h=[Ze gz 2,Ze gz 3,Ze gz 4,Ze gz 5,.tail u 3,.tail w 3]/\m=f.params.length-k) _ _ _ ⟨1,[(Z2.mk 12 (f.params.length:Int) [])],v1,[(Z2.mk 12 ((f.params.length+2:Nat):Int) [])],v2,ob,ob,ob,(I5 (GE.var om om om)),(I5 (GE.var om om om)),rfl,rfl,rfl⟩ (wk [2,2,2,2,1,0] (fw (fc (x:=.i 1) li fl))) ?_)))
 rintro m F h ⟨k,ys,u,zs,w,Ye,Zk,Zx,Yy,XY,rfl,rfl,rfl⟩
 refine Xa (Y9 ((k:Int)<(f.params.length:Int)) (fun Za=>?_) (fun Za=>?_))
 ·exact ak (aq (ab 1 (Y1 2 (Zw [] (QP (k:Int)) (TN [Y7 (Z2.mk 12 (k:Int) [])] (Yv [(Z2.mk 12 (k:Int) [])]) (XZ [(Z2.mk 12 (k:Int) [])]).symm 1 3 fun v3=>ZT 0 [(38,XJ [(Z2.mk 12 (k:Int) [])])] (ip 5 (Yv (ys++[(Z2.mk 12 (k:Int) [])])) (Yv ys) (Yv [(Z2.mk 12 (k:Int) [])]) u none 3 (TJ _) (TJ _) (Am _) (by simp<;>omega) (by simp [Al,Yv]) fun v4=>Z0 (az (Z1 2 (Zw [] (QP (k:Int)) (TN [Y7 (Z2.mk 12 (k:Int) [])] (Yv [(Z2.mk 12 (k:Int) [])]) (XZ [(Z2.mk 12 (k:Int) [])]).symm 1 3 fun v5=>ZT 0 [(43,XJ [(Z2.mk 12 (k:Int) [])])] (ip 7 (Yv (zs++[(Z2.mk 12 (k:Int) [])])) (Yv zs) (Yv [(Z2.mk 12 (k:Int) [])]) w none 3 (TJ _) (TJ _) (Am _) (by simp<;>omega) (by simp [Al,Yv]) fun v6=>Z0 (az (Z1 1 (ZJ k (Z0 (ZK ⟨k+1,(ys++[(Z2.mk 12 (k:Int) [])]),v4,(zs++[(Z2.mk 12 (k:Int) [])]),v6,ob,ob,ob,(XW Yy (GE.var om om om)),(XW XY (GE.var om om om)),rfl,rfl,rfl⟩ (wk [4,4,4,4,2,0] (fw (ZO k fl)))))))))))))))))))
 refine ax 0 (ar (ZT 2 [(46,XJ ys)] (Zw [] (W8 9 i ys) (iA [.i 0,.i 0,nl] fun b3=>ZA 0 b3 (X4 (Z2.mk 9 i ys)) (ie (ar (ZT 2 [(49,XJ zs)] (Zw [] (W8 9 i zs) (iA [.i 0,.i 0,nl] fun b4=>?_)))))))))
 refine ZA 0 b4 (X4 (Z2.mk 9 i zs)) (ie (aD 14 (ZI 9 14 [0,1,2,3,7] [1,3,0] (Jq (fun fz gz F h=>∃(e1:Z2) (p21:Nat) (b5:Nat),(GE g (f.params++[3,0,3]).length (bS 4) e1/\p<=p21/\p21<=p+bC 4)/\F=sF [0,2,4,6,7,8,12] fz [(14,.p b5 0)]/\h=[.obj b5 (X4 (Z2.mk 1 0 [Z2.mk 9 i ys,Z2.mk 1 0 [e1,Z2.mk 9 i zs]])),YF rd bs p21,Ze gz 5,Ze gz 0,Ze gz 1,Ze gz 2,Ze gz 3,Ze gz 6,Ze gz 7]) ?_ ?_))))
 ·refine VN 4 12 ?_ ?_
  ·refine dL 4 [0,3,1] [b4,b1,b3] (Z8 [3,0,3]) 3 1 fun v7=>YA 8 8 [] [(55,Z4 [3,0,3])] (VN 5 12 ?_ ?_)
   ·refine dc 5 [] [0,3,1] [b4,b1,b3] (KN f.params [3,0,3]) ?_
    rintro _ _ ⟨v8,rfl,rfl⟩
    refine YA 7 7 [] [(56,Z4 (f.params++[3,0,3]))] (VN 6 12 ?_ ?_)
    ·refine dc 6 [6,6] [0,1] [b4,b3] (KA rd bs p g gb rs (f.params++[3,0,3]) 0 4 (ZP:=ob) (hv:=(by first|omega|(simp only [Yq,X5,XP];omega)))) ?_
     rintro _ _ ⟨e1,p21,rfl,rfl,ZY⟩
     have Xr:=ZY.1
     have KC:=ZY.2
     try rw [Yq] at Xr
     rw [hbv.2.1] at Xr
     refine VN 8 12 ?_ ?_
     ·refine WU 8 [3] [b3] [Y7 e1,Y7 (Z2.mk 9 i zs)] (Yv [e1,Z2.mk 9 i zs]) (XZ [e1,Z2.mk 9 i zs]).symm 2 3 fun v9=>YA 5 5 [] [(59,XJ [e1,Z2.mk 9 i zs])] (VN 9 12 ?_ ?_)
      ·refine Yz 9 [] [3] [b3] (W8 1 0 [e1,Z2.mk 9 i zs]) (VN 10 12 ?_ ?_)
       ·refine WU 10 [] [] [Y7 (Z2.mk 9 i ys),Y7 (Z2.mk 1 0 [e1,Z2.mk 9 i zs])] (Yv [Z2.mk 9 i ys,Z2.mk 1 0 [e1,Z2.mk 9 i zs]]) (XZ [Z2.mk 9 i ys,Z2.mk 1 0 [e1,Z2.mk 9 i zs]]).symm 2 3 fun v10=>YA 3 3 [] [(61,XJ [Z2.mk 9 i ys,Z2.mk 1 0 [e1,Z2.mk 9 i zs]])] (VN 11 12 ?_ ?_)
        ·exact Yz 11 [] [] [] (W8 1 0 [Z2.mk 9 i ys,Z2.mk 1 0 [e1,Z2.mk 9 i zs]]) (Z9 12 (dA 12 [] [] [.i 0,.i 0,nl] fun b5=>Z9 13 (YM 13 0 [] [] b5 (X4 (Z2.mk 1 0 [Z2.mk 9 i ys,Z2.mk 1 0 [e1,Z2.mk 9 i zs]])) (de (ZU ⟨e1,p21,b5,(by assumption),rfl,rfl⟩ (wk [0,2,2,4,4,4,4,4,4] fl))))))
        exact dA 12 [] [] [.i 0,.i 0,nl] fun b6=>Z9 11 (Yz 11 [] [] [] (W8 1 0 [Z2.mk 9 i ys,Z2.mk 1 0 [e1,Z2.mk 9 i zs]]) (Z9 13 (YM 13 0 [] [] b6 (X4 (Z2.mk 1 0 [Z2.mk 9 i ys,Z2.mk 1 0 [e1,Z2.mk 9 i zs]])) (de (ZU ⟨e1,p21,b6,(by assumption),rfl,rfl⟩ (wk [0,2,2,4,4,4,4,4,4] fl))))))
       exact dA 12 [3] [b3] [.i 0,.i 0,nl] fun b7=>Z9 10 (WU 10 [] [] [Y7 (Z2.mk 9 i ys),Y7 (Z2.mk 1 0 [e1,Z2.mk 9 i zs])] (Yv [Z2.mk 9 i ys,Z2.mk 1 0 [e1,Z2.mk 9 i zs]]) (XZ [Z2.mk 9 i ys,Z2.mk 1 0 [e1,Z2.mk 9 i zs]]).symm 2 3 fun v11=>YA 2 2 [] [(61,XJ [Z2.mk 9 i ys,Z2.mk 1 0 [e1,Z2.mk 9 i zs]])] (Z9 11 (Yz 11 [] [] [] (W8 1 0 [Z2.mk 9 i ys,Z2.mk 1 0 [e1,Z2.mk 9 i zs]]) (Z9 13 (YM 13 1 [] [] b7 (X4 (Z2.mk 1 0 [Z2.mk 9 i ys,Z2.mk 1 0 [e1,Z2.mk 9 i zs]])) (de (ZU ⟨e1,p21,b7,(by assumption),rfl,rfl⟩ (wk [0,2,2,4,4,4,4,4,4] fl))))))))
      exact dA 12 [3] [b3] [.i 0,.i 0,nl] fun b8=>Z9 9 (Yz 9 [] [4] [b3] (W8 1 0 [e1,Z2.mk 9 i zs]) (Z9 10 (WU 10 [] [] [Y7 (Z2.mk 9 i ys),Y7 (Z2.mk 1 0 [e1,Z2.mk 9 i zs])] (Yv [Z2.mk 9 i ys,Z2.mk 1 0 [e1,Z2.mk 9 i zs]]) (XZ [Z2.mk 9 i ys,Z2.mk 1 0 [e1,Z2.mk 9 i zs]]).symm 2 3 fun v12=>YA 2 2 [] [(61,XJ [Z2.mk 9 i ys,Z2.mk 1 0 [e1,Z2.mk 9 i zs]])] (Z9 11 (Yz 11 [] [] [] (W8 1 0 [Z2.mk 9 i ys,Z2.mk 1 0 [e1,Z2.mk 9 i zs]]) (Z9 13 (YM 13 1 [] [] b8 (X4 (Z2.mk 1 0 [Z2.mk 9 i ys,Z2.mk 1 0 [e1,Z2.mk 9 i zs]])) (de (ZU ⟨e1,p21,b8,(by assumption),rfl,rfl⟩ (wk [0,2,2,4,4,4,4,4,4] fl))))))))))
     exact dA 12 [2,3] [b4,b3] [.i 0,.i 0,nl] fun b9=>Z9 8 (WU 8 [4] [b3] [Y7 e1,Y7 (Z2.mk 9 i zs)] (Yv [e1,Z2.mk 9 i zs]) (XZ [e1,Z2.mk 9 i zs]).symm 2 3 fun v13=>YA 4 4 [] [(59,XJ [e1,Z2.mk 9 i zs])] (Z9 9 (Yz 9 [] [4] [b3] (W8 1 0 [e1,Z2.mk 9 i zs]) (Z9 10 (WU 10 [] [] [Y7 (Z2.mk 9 i ys),Y7 (Z2.mk 1 0 [e1,Z2.mk 9 i zs])] (Yv [Z2.mk 9 i ys,Z2.mk 1 0 [e1,Z2.mk 9 i zs]]) (XZ [Z2.mk 9 i ys,Z2.mk 1 0 [e1,Z2.mk 9 i zs]]).symm 2 3 fun v14=>YA 2 2 [] [(61,XJ [Z2.mk 9 i ys,Z2.mk 1 0 [e1,Z2.mk 9 i zs]])] (Z9 11 (Yz 11 [] [] [] (W8 1 0 [Z2.mk 9 i ys,Z2.mk 1 0 [e1,Z2.mk 9 i zs]]) (Z9 13 (YM 13 2 [] [] b9 (X4 (Z2.mk 1 0 [Z2.mk 9 i ys,Z2.mk 1 0 [e1,Z2.mk 9 i zs]])) (de (ZU ⟨e1,p21,b9,(by assumption),rfl,rfl⟩ (wk [0,2,2,4,4,4,4,4,4] fl))))))))))))
    refine dA 12 [0,3,1] [b4,b1,b3] [.i 0,.i 0,nl] fun b10=>Z9 6 (dc 6 [7,7] [1,2] [b4,b3] (KA rd bs p g gb rs (f.params++[3,0,3]) 0 4 (ZP:=ob) (hv:=(by first|omega|(simp only [Yq,X5,XP];omega)))) ?_)
    rintro _ _ ⟨e2,p22,rfl,rfl,Yf⟩
    have Xr:=Yf.1
    have KC:=Yf.2
    try rw [Yq] at Xr
    rw [hbv.2.1] at Xr
    exact Z9 8 (WU 8 [4] [b3] [Y7 e2,Y7 (Z2.mk 9 i zs)] (Yv [e2,Z2.mk 9 i zs]) (XZ [e2,Z2.mk 9 i zs]).symm 2 3 fun v15=>YA 4 4 [] [(59,XJ [e2,Z2.mk 9 i zs])] (Z9 9 (Yz 9 [] [4] [b3] (W8 1 0 [e2,Z2.mk 9 i zs]) (Z9 10 (WU 10 [] [] [Y7 (Z2.mk 9 i ys),Y7 (Z2.mk 1 0 [e2,Z2.mk 9 i zs])] (Yv [Z2.mk 9 i ys,Z2.mk 1 0 [e2,Z2.mk 9 i zs]]) (XZ [Z2.mk 9 i ys,Z2.mk 1 0 [e2,Z2.mk 9 i zs]]).symm 2 3 fun v16=>YA 2 2 [] [(61,XJ [Z2.mk 9 i ys,Z2.mk 1 0 [e2,Z2.mk 9 i zs]])] (Z9 11 (Yz 11 [] [] [] (W8 1 0 [Z2.mk 9 i ys,Z2.mk 1 0 [e2,Z2.mk 9 i zs]]) (Z9 13 (YM 13 4 [] [] b10 (X4 (Z2.mk 1 0 [Z2.mk 9 i ys,Z2.mk 1 0 [e2,Z2.mk 9 i zs]])) (de (ZU ⟨e2,p22,b10,(by assumption),rfl,rfl⟩ (wk [0,2,2,4,4,4,4,4,4] fl))))))))))))
   refine dA 12 [0,3,1] [b4,b1,b3] [.i 0,.i 0,nl] fun b11=>Z9 5 (dc 5 [] [1,4,2] [b4,b1,b3] (KN f.params [3,0,3]) ?_)
   rintro _ _ ⟨v17,rfl,rfl⟩
   refine YA 6 6 [] [(56,Z4 (f.params++[3,0,3]))] (Z9 6 (dc 6 [7,7] [1,2] [b4,b3] (KA rd bs p g gb rs (f.params++[3,0,3]) 0 4 (ZP:=ob) (hv:=(by first|omega|(simp only [Yq,X5,XP];omega)))) ?_))
   rintro _ _ ⟨e3,p23,rfl,rfl,YJ⟩
   have Xr:=YJ.1
   have KC:=YJ.2
   try rw [Yq] at Xr
   rw [hbv.2.1] at Xr
   exact Z9 8 (WU 8 [4] [b3] [Y7 e3,Y7 (Z2.mk 9 i zs)] (Yv [e3,Z2.mk 9 i zs]) (XZ [e3,Z2.mk 9 i zs]).symm 2 3 fun v18=>YA 4 4 [] [(59,XJ [e3,Z2.mk 9 i zs])] (Z9 9 (Yz 9 [] [4] [b3] (W8 1 0 [e3,Z2.mk 9 i zs]) (Z9 10 (WU 10 [] [] [Y7 (Z2.mk 9 i ys),Y7 (Z2.mk 1 0 [e3,Z2.mk 9 i zs])] (Yv [Z2.mk 9 i ys,Z2.mk 1 0 [e3,Z2.mk 9 i zs]]) (XZ [Z2.mk 9 i ys,Z2.mk 1 0 [e3,Z2.mk 9 i zs]]).symm 2 3 fun v19=>YA 2 2 [] [(61,XJ [Z2.mk 9 i ys,Z2.mk 1 0 [e3,Z2.mk 9 i zs]])] (Z9 11 (Yz 11 [] [] [] (W8 1 0 [Z2.mk 9 i ys,Z2.mk 1 0 [e3,Z2.mk 9 i zs]]) (Z9 13 (YM 13 5 [] [] b11 (X4 (Z2.mk 1 0 [Z2.mk 9 i ys,Z2.mk 1 0 [e3,Z2.mk 9 i zs]])) (de (ZU ⟨e3,p23,b11,(by assumption),rfl,rfl⟩ (wk [0,2,2,4,4,4,4,4,4] fl))))))))))))
  refine dA 12 [0,3,1] [b4,b1,b3] [.i 0,.i 0,nl] fun b12=>Z9 4 (dL 4 [1,4,2] [b4,b1,b3] (Z8 [3,0,3]) 3 1 fun v20=>YA 7 7 [] [(55,Z4 [3,0,3])] (Z9 5 (dc 5 [] [1,4,2] [b4,b1,b3] (KN f.params [3,0,3]) ?_)))
  rintro _ _ ⟨v21,rfl,rfl⟩
  refine YA 6 6 [] [(56,Z4 (f.params++[3,0,3]))] (Z9 6 (dc 6 [7,7] [1,2] [b4,b3] (KA rd bs p g gb rs (f.params++[3,0,3]) 0 4 (ZP:=ob) (hv:=(by first|omega|(simp only [Yq,X5,XP];omega)))) ?_))
  rintro _ _ ⟨e4,p24,rfl,rfl,YT⟩
  have Xr:=YT.1
  have KC:=YT.2
  try rw [Yq] at Xr
  rw [hbv.2.1] at Xr
  exact Z9 8 (WU 8 [4] [b3] [Y7 e4,Y7 (Z2.mk 9 i zs)] (Yv [e4,Z2.mk 9 i zs]) (XZ [e4,Z2.mk 9 i zs]).symm 2 3 fun v22=>YA 4 4 [] [(59,XJ [e4,Z2.mk 9 i zs])] (Z9 9 (Yz 9 [] [4] [b3] (W8 1 0 [e4,Z2.mk 9 i zs]) (Z9 10 (WU 10 [] [] [Y7 (Z2.mk 9 i ys),Y7 (Z2.mk 1 0 [e4,Z2.mk 9 i zs])] (Yv [Z2.mk 9 i ys,Z2.mk 1 0 [e4,Z2.mk 9 i zs]]) (XZ [Z2.mk 9 i ys,Z2.mk 1 0 [e4,Z2.mk 9 i zs]]).symm 2 3 fun v23=>YA 2 2 [] [(61,XJ [Z2.mk 9 i ys,Z2.mk 1 0 [e4,Z2.mk 9 i zs]])] (Z9 11 (Yz 11 [] [] [] (W8 1 0 [Z2.mk 9 i ys,Z2.mk 1 0 [e4,Z2.mk 9 i zs]]) (Z9 13 (YM 13 6 [] [] b12 (X4 (Z2.mk 1 0 [Z2.mk 9 i ys,Z2.mk 1 0 [e4,Z2.mk 9 i zs]])) (de (ZU ⟨e4,p24,b12,(by assumption),rfl,rfl⟩ (wk [0,2,2,4,4,4,4,4,4] fl))))))))))))
 rintro F h ⟨e1,p21,b5,ZY,rfl,rfl⟩
 have Xr:=ZY.1
 have KC:=ZY.2
 try rw [Yq] at Xr
 rw [hbv.2.1] at Xr
 refine Yi 3 [6] (Zq (Wv gb g.funcs.length 4 i.toNat 5 i) (Z1 1 (Vk (VB 2 gb 4 4 5 (i.toNat * 5+1) (Zh (Xy rs)) [.i f.result] 3 (.i f.result) (T4 WC hf 1 rfl (Vo rfl))) (Z0 (Wm (fun fz gz F h=>∃(eQ:Z2) (p6:Nat),(GE g (f.params.length+3) 52 eQ)/\(p<=p6/\p6<=p+650)/\F=sF [0,2,4,6,7,14] fz []/\h=[.obj b5 (X4 eQ),YF rd bs p6,Ze gz 2,Ze gz 5,Ze gz 6]) ?_ ?_)))))
 ·refine ac (f.result==3) Zr (fun Zg=>?_) (fun Zg=>?_)
  ·refine aE 13 (ZI 8 13 [0,1,2,3,7] [4,6] (da 8 (((f.params.length+2:Nat):Int)) (((f.params.length:Int))+(2)) (Z9 4 (dL 4 [6,4] [b1,b3] (Z8 [3,0,3]) 3 1 fun v24=>YA 6 6 [] [(74,Z4 [3,0,3])] (Z9 5 (dc 5 [] [6,4] [b1,b3] (KN f.params [3,0,3]) ?_))))))
   rintro _ _ ⟨v25,rfl,rfl⟩
   refine YA 5 5 [] [(75,Z4 (f.params++[3,0,3]))] (Z9 6 (dc 6 [3,3] [2] [b3] (KA rd bs p21 g gb rs (f.params++[3,0,3]) 0 4 (ZP:=ob) (hv:=(by first|omega|(simp only [Yq,X5,XP];omega)))) ?_))
   rintro _ _ ⟨e5,p25,rfl,rfl,Xk⟩
   have Xr:=Xk.1
   have KC:=Xk.2
   try rw [Yq] at Xr
   rw [hbv.2.1] at Xr
   exact Z9 9 (Yz 9 [] [4] [b3] (QP ((f.params.length+2:Nat):Int)) (Z9 10 (WU 10 [] [] [Y7 (Z2.mk 9 i ys),Y7 e5,Y7 (Z2.mk 12 ((f.params.length+2:Nat):Int) [])] (Yv [Z2.mk 9 i ys,e5,(Z2.mk 12 ((f.params.length+2:Nat):Int) [])]) (XZ [Z2.mk 9 i ys,e5,(Z2.mk 12 ((f.params.length+2:Nat):Int) [])]).symm 3 3 fun v26=>YA 2 2 [] [(80,XJ [Z2.mk 9 i ys,e5,(Z2.mk 12 ((f.params.length+2:Nat):Int) [])])] (Z9 11 (Yz 11 [] [] [] (W8 6 3 [Z2.mk 9 i ys,e5,(Z2.mk 12 ((f.params.length+2:Nat):Int) [])]) (Z9 12 (YM 12 5 [] [] b5 (X4 (Z2.mk 6 3 [Z2.mk 9 i ys,e5,(Z2.mk 12 ((f.params.length+2:Nat):Int) [])])) (de (ZU ⟨(Z2.mk 6 3 [Z2.mk 9 i ys,e5,(Z2.mk 12 ((f.params.length+2:Nat):Int) [])]),p25,(GE.three (s1:=10) (s2:=30) (s3:=1) om om (GE.node (L:=f.params.length) (s:=1) (q:=10) om (fun _=>by omega) om Yy om om om) Xr (GE.var om om om) om),ob,rfl,rfl⟩ (wk [0,1,1,5,5] fl))))))))))
  exact ak (ZU ⟨(Z2.mk 1 0 [Z2.mk 9 i ys,Z2.mk 1 0 [e1,Z2.mk 9 i zs]]),p21,(GE.two (s1:=10) (s2:=41) om om (GE.node (L:=f.params.length) (s:=1) (q:=10) om (fun _=>by omega) om Yy om om om) (GE.two (s1:=30) (s2:=10) om om Xr (GE.node (L:=f.params.length) (s:=1) (q:=10) om (fun _=>by omega) om XY om om om) om) om),ob,rfl,rfl⟩ (wk [0,0,0,2,2] fl))
 rintro F h ⟨eQ,p6,KF,GS,rfl,rfl⟩
 refine aD 15 (ZI 9 15 [1,2,3,4,5,6] [4,4] (dx 7 (Wv gb g.funcs.length 4 i.toNat 5 i) (Zj 7 8 [8] (Uo 9 (VB 2 gb 4 4 5 (i.toNat * 5+1) (Zh (Xy rs)) [.i f.result] 3 (.i f.result) (T4 WC hf 1 rfl (Vo rfl))) (ZI 5 6 [11] [0] (Z9 0 (Yz 0 [] [0,2,4,4] [b5,gb,b1,b1] (QP 0) (Z9 10 (dc 10 [1,1] [0] [b5] (KA rd bs p6 g gb rs f.params f.result 4 (ZP:=ob) (hv:=(by first|omega|(simp only [Yq,X5,XP];omega)))) ?_)))))))))
 rintro _ _ ⟨e6,p26,rfl,rfl,W4⟩
 have Xr:=W4.1
 have KC:=W4.2
 try rw [Yq] at Xr
 rw [hbv.2.1] at Xr
 exact Z9 12 (WU 12 [] [] [Y7 (Z2.mk 12 0 []),Y7 e6,Y7 eQ] (Yv [Z2.mk 12 0 [],e6,eQ]) (XZ [Z2.mk 12 0 [],e6,eQ]).symm 3 3 fun v27=>YA 2 2 [] [(94,XJ [Z2.mk 12 0 [],e6,eQ])] (Z9 13 (Yz 13 [] [] [] (W8 8 3 [Z2.mk 12 0 [],e6,eQ]) (Z9 14 (YM 14 4 [] [] b2 (X4 (Z2.mk 8 3 [Z2.mk 12 0 [],e6,eQ])) (de (ZB (r3 [2,2] [Y7 (Z2.mk 8 3 [Z2.mk 12 0 [],e6,eQ])] [0] [(b2,b2)] ⟨(Z2.mk 8 3 [Z2.mk 12 0 [],e6,eQ]),p26,rfl,rfl,⟨GE.matchT hg (s1:=1) (s2:=30) (s3:=52) (GE.var om om om) Xr KF om,by omega⟩⟩ (lr _)))))))))
theorem Z99 (rd:Nat) (bs:LI) (p:Nat) (g:Wh) (gb:Nat) (rs:List Func) (f:Func) (i:Int) (ZP:∀z∈bs,0<=z/\z<=255) (hp:p+1000<=1000000000:=by exact ob) (hg:GP g:=by exact ob) (WC:g.funcs <+: rs:=by exact ob) (hi:0<=i:=by exact ob) (hf:g.funcs[i.toNat]? = some f:=by exact ob) (h0:0<f.params.length:=by exact ob):Zi 240 [.p rd 0,.agg (WG g gb),.i i] [YF rd bs p,W2 gb rs] (fun r h=>∃(e:Z2) (p2:Nat),r=Y7 e/\h=[YF rd bs p2,W2 gb rs]/\GE g f.params.length 200 e/\p<=p2/\p2<=p+1000):=by
 obtain ⟨hil,_⟩:=Xs.1 hf
 have hgl:=hg.len
 have hso:=(hg.sigs f (Y4 hf)).bd
 have hbv:=E5
 refine ZE 75 Tryz.func240 (ar (iA (WG g gb) fun b1=>iA [.i 0,.i 0,nl] fun b2=>ie (Zv 3 [1] (Zq (Wv gb g.funcs.length 4 i.toNat 5 i) (Z1 1 (Vk (VB 3 gb 4 4 5 (i.toNat * 5+0) (Zh (Xy rs)) [Z4 f.params] 31 (Z4 f.params) (T4 WC hf 0 rfl (Vo rfl))) (Z0 (ar (Zw [] (QP 0) (Zw [] (AU 1) (TN [Y7 (Z2.mk 12 0 []),Y7 (Z2.mk 0 1 [])] (Yv [Z2.mk 12 0 [],Z2.mk 0 1 []]) (XZ [Z2.mk 12 0 [],Z2.mk 0 1 []]).symm 2 3 fun v1=>ZT 0 [(20,XJ [Z2.mk 12 0 [],Z2.mk 0 1 []])] (Zw [] (W8 2 0 [Z2.mk 12 0 [],Z2.mk 0 1 []]) (TN [Y7 (Z2.mk 2 0 [Z2.mk 12 0 [],Z2.mk 0 1 []])] (Yv [Z2.mk 2 0 [Z2.mk 12 0 [],Z2.mk 0 1 []]]) (XZ [Z2.mk 2 0 [Z2.mk 12 0 [],Z2.mk 0 1 []]]).symm 1 3 fun v2=>?_)))))))))))))
 refine Z0 (Yo (ab 0 (Y3 (fun fz gz m F h=>∃(k:Nat) (ys:List Z2) (u:Value) (pq:Nat),(1<=k/\k<=f.params.length)/\(ys.length=k)/\(∀e∈ys,GE g f.params.length 4 e)/\(p<=pq/\pq<=p+30*k)/\F=sF [0,2,4,6,7] fz [(8,Ki ys u),(9,.i k)]/\h=[Ze gz 2,Ze gz 3,YF rd bs pq,Ze gz 5,.tail u 3]/\m=f.params.length-k) _ _ _ ⟨1,[Z2.mk 2 0 [Z2.mk 12 0 [],Z2.mk 0 1 []]],v2,p,ob,ob,(I5 (GE.two (s1:=1) (s2:=1) om om (GE.var om om om) (GE.int om om) om)),ob,rfl,rfl,rfl⟩ (wk [2,2,2,2,0] (fr (fc (x:=.i 1) li fl))) ?_)))
 rintro m F h ⟨k,ys,u,pq,Ye,Zk,Zx,Yy,rfl,rfl,rfl⟩
 refine YP 2 (iw (Yc f.params) (Y9 ((k:Int)<(f.params.length:Int)) (fun Za=>?_) (fun Za=>?_)))
 ·refine ak (aq (ab 1 (aE 12 (ZI 6 12 [0,1,2,3,4,5] [1] ?_))))
  obtain ⟨x1,Z3⟩:=Zt f.params k om
  refine dx 6 (Zm none (k:Int) 1 (Y2 Z3)) (Zj 4 5 [7] (Z9 8 (dc 8 [2,2] [] [] (Dl rd bs pq g gb rs f.params x1 (ZP:=ob)) ?_)))
  rintro _ _ ⟨e1,p21,rfl,rfl,ZY⟩
  have hle:=ZY.1
  exact Z9 9 (WU 9 [] [] [Y7 e1] (Yv [e1]) (XZ [e1]).symm 1 3 fun v3=>YA 2 2 [] [(38,XJ [e1])] (Z9 10 (dp 10 5 [] [] (Yv (ys++[e1])) (Yv ys) (Yv [e1]) u none 3 (TJ _) (TJ _) (Am _) (by simp<;>omega) (by simp [Al,Yv]) fun v4=>Zj 0 1 [11] (de (az (Z1 1 (ZJ k (Z0 (ZK ⟨k+1,(ys++[e1]),v4,p21,ob,ob,(XW Zx hle),ob,rfl,rfl,rfl⟩ (wk [4,4,2,2,0] (fr (ZO k fl))))))))))))
 refine ax 0 (ar (ZT 2 [(41,XJ ys)] (Zw [] (W8 9 i ys) (iA [.i 0,.i 0,nl] fun b3=>?_))))
 refine ZA 0 b3 (X4 (Z2.mk 9 i ys)) (ie (Yi 3 [2] (Zq (Wv gb g.funcs.length 4 i.toNat 5 i) (Z1 1 (Vk (VB 4 gb 4 4 5 (i.toNat * 5+1) (Zh (Xy rs)) [.i f.result] 3 (.i f.result) (T4 WC hf 1 rfl (Vo rfl))) (Z0 (Wm (fun fz gz F h=>∃(eQ:Z2) (p6:Nat),(GE g f.params.length 34 eQ)/\(p<=p6/\p6<=p+350)/\F=sF [0,2,4,6,7,10] fz []/\h=[.obj b3 (X4 eQ),Ze gz 1,Ze gz 2,YF rd bs p6,Ze gz 4]) ?_ ?_)))))))
 ·refine ac (f.result==1) Zr (fun Zg=>?_) (fun Zg=>?_)
  ·refine aE 8 (ZI 4 8 [0,1,2,4] [2,0] (Z9 3 (dc 3 [3,3] [0] [b3] (KA rd bs pq g gb rs f.params 0 3 (ZP:=ob)) ?_)))
   rintro _ _ ⟨e2,p22,rfl,rfl,Yf⟩
   have Xr:=Yf.1
   have KC:=Yf.2
   try rw [Yq] at Xr
   first|rw [hbv.2.1] at Xr|rw [hbv.1] at Xr
   exact Z9 5 (WU 5 [] [] [Y7 e2,Y7 (Z2.mk 9 i ys)] (Yv [e2,Z2.mk 9 i ys]) (XZ [e2,Z2.mk 9 i ys]).symm 2 3 fun v5=>YA 2 2 [] [(55,XJ [e2,Z2.mk 9 i ys])] (Z9 6 (Yz 6 [] [] [] (W8 6 1 [e2,Z2.mk 9 i ys]) (Z9 7 (YM 7 3 [] [] b3 (X4 (Z2.mk 6 1 [e2,Z2.mk 9 i ys])) (de (ZU ⟨(Z2.mk 6 1 [e2,Z2.mk 9 i ys]),p22,(GE.two (s1:=20) (s2:=13) om om Xr (GE.node (L:=f.params.length) (s:=4) (q:=13) om (fun _=>by omega) om Zx om om om) om),ob,rfl,rfl⟩ (wk [0,3,3,1,1] fl))))))))
  exact ak (ZU ⟨(Z2.mk 9 i ys),pq,(GE.le (GE.node (L:=f.params.length) (s:=4) (q:=13) om (fun _=>by omega) om Zx om om om) om),ob,rfl,rfl⟩ (ZF 5 fl))
 rintro F h ⟨eQ,p6,KF,GS,rfl,rfl⟩
 refine ar (Zw [] (AU 0) (Zw [] (QP 0) (TN [Y7 (Z2.mk 0 0 []),Y7 (Z2.mk 12 0 [])] (Yv [Z2.mk 0 0 [],Z2.mk 12 0 []]) (XZ [Z2.mk 0 0 [],Z2.mk 12 0 []]).symm 2 3 fun v6=>ZT 0 [(59,XJ [Z2.mk 0 0 [],Z2.mk 12 0 []])] (Zw [] (W8 4 0 [Z2.mk 0 0 [],Z2.mk 12 0 []]) (iA [.i 0,.i 0,nl] fun b4=>ZA 0 b4 (X4 (Z2.mk 4 0 [Z2.mk 0 0 [],Z2.mk 12 0 []])) (ie (aD 15 (ZI 7 15 [0,1,2,3,4,5,6,7] [0,2,4,4] (dx 8 (Wv gb g.funcs.length 4 i.toNat 5 i) (Zj 5 6 [9] (Uo 10 (VB 6 gb 4 4 5 (i.toNat * 5+1) (Zh (Xy rs)) [.i f.result] 3 (.i f.result) (T4 WC hf 1 rfl (Vo rfl))) (Z9 11 (dc 11 [5,5] [1,0] [b3,b4] (KA rd bs p6 g gb rs f.params f.result 4 (ZP:=ob)) ?_)))))))))))))
 rintro _ _ ⟨e3,p23,rfl,rfl,YJ⟩
 have Xr:=YJ.1
 have KC:=YJ.2
 try rw [Yq] at Xr
 first|rw [hbv.2.1] at Xr|rw [hbv.1] at Xr
 exact Z9 12 (WU 12 [] [] [Y7 (Z2.mk 4 0 [Z2.mk 0 0 [],Z2.mk 12 0 []]),Y7 eQ,Y7 e3] (Yv [Z2.mk 4 0 [Z2.mk 0 0 [],Z2.mk 12 0 []],eQ,e3]) (XZ [Z2.mk 4 0 [Z2.mk 0 0 [],Z2.mk 12 0 []],eQ,e3]).symm 3 3 fun v7=>YA 2 2 [] [(73,XJ [Z2.mk 4 0 [Z2.mk 0 0 [],Z2.mk 12 0 []],eQ,e3])] (Z9 13 (Yz 13 [] [] [] (W8 7 0 [Z2.mk 4 0 [Z2.mk 0 0 [],Z2.mk 12 0 []],eQ,e3]) (Z9 14 (YM 14 6 [] [] b2 (X4 (Z2.mk 7 0 [Z2.mk 4 0 [Z2.mk 0 0 [],Z2.mk 12 0 []],eQ,e3])) (de (ZB (r3 [2,2] [Y7 (Z2.mk 7 0 [Z2.mk 4 0 [Z2.mk 0 0 [],Z2.mk 12 0 []],eQ,e3])] [0] [(b2,b2)] ⟨(Z2.mk 7 0 [Z2.mk 4 0 [Z2.mk 0 0 [],Z2.mk 12 0 []],eQ,e3]),p23,rfl,rfl,⟨GE.three (s1:=3) (s2:=34) (s3:=30) om om (GE.two (s1:=1) (s2:=1) om om (GE.int om om) (GE.var om om om) om) KF Xr om,by omega⟩⟩ (lr _)))))))))
theorem Za5 (xs:LI) (t:Int) (hl:xs.length<=1000:=by exact ob):Zi 235 [Z4 xs,.i t] [] (fun r h=>∃(w:Int),r=.i w/\h=[]/\-1<=w/\w<xs.length):=by
 refine ZE 19 Tryz.func235 (Zy (Yo (ab 0 (Y3 (fun fz gz m F h=>∃(k:Nat),(k<=xs.length)/\F=sF [0,1] fz [(5,.i k)]/\h=gz/\m=xs.length-k) _ _ _ ⟨0,ob,rfl,rfl,rfl⟩ (wk [] (Ya fl)) ?_))))
 rintro m F h ⟨k,Ye,rfl,rfl,rfl⟩
 refine YP 2 (iw (Yc xs) (Y9 ((k:Int)<(xs.length:Int)) (fun Za=>?_) (fun Za=>?_)))
 ·refine ak (aq (ab 1 (Y1 2 ?_)))
  obtain ⟨x1,Z3⟩:=Zt xs k om
  refine Zq (Zm none (k:Int) 1 (Y2 Z3)) (YE (x1==t) Zr (fun Zg=>?_) (fun Zg=>?_))
  ·exact ar (Zp (r1 [] ⟨(k:Int),rfl,rfl,ob⟩))
  exact ak (az (Z1 1 (ZJ k (Z0 (ZK ⟨k+1,ob,rfl,rfl,rfl⟩ (wk [] (ZO k fl)))))))
 exact ax 0 (ar (Zp (r1 [] ⟨(-1),rfl,rfl,ob⟩)))
theorem Z8u (rd:Nat) (bs:LI) (p:Nat) (g:Wh) (gb:Nat) (rs:List Func) (f:Func) (i:Int) (ZP:∀z∈bs,0<=z/\z<=255) (hp:p+90000<=1000000000) (hg:GP g) (WC:g.funcs <+: rs) (hi:0<=i) (hf:g.funcs[i.toNat]? = some f) (h0:i=0->f.params.length=0):Zi 200 [.p rd 0,.agg (WG g gb),.i i] [YF rd bs p,W2 gb rs] (fun r h=>∃(e:Z2) (p2:Nat),r=Y7 e/\h=[YF rd bs p2,W2 gb rs]/\GE g f.params.length 30 e/\p<=p2/\p2<=p+90000):=by
 obtain ⟨hil,_⟩:=Xs.1 hf
 have hgl:=hg.len
 have hso:=(hg.sigs f (Y4 hf)).bd
 have hbv:=E5
 refine ZE 121 Tryz.func200 (ar (iA (WG g gb) fun b1=>iA [.i 0,.i 0,nl] fun b2=>ie (Zv 3 [1] (Zq (Wv gb g.funcs.length 4 i.toNat 5 i) (Z1 1 (Vk (VB 3 gb 4 4 5 (i.toNat * 5+0) (Zh (Xy rs)) [Z4 f.params] 31 (Z4 f.params) (T4 WC hf 0 rfl (Vo rfl))) (Z0 (Zv 3 [1] (Zq (Wv gb g.funcs.length 4 i.toNat 5 i) (Z1 1 (Vk (VB 3 gb 4 4 5 (i.toNat * 5+1) (Zh (Xy rs)) [.i f.result] 3 (.i f.result) (T4 WC hf 1 rfl (Vo rfl))) (Z0 (Y1 1 (ic [] (Za5 f.params 1) ?_))))))))))))))
 rintro _ _ ⟨w1,rfl,rfl,ZY⟩
 have hpl:=ZY
 refine Z0 (ar (Zw [] (AU 0) (iA [.i 0,.i 0,nl] fun b3=>ZA 0 b3 (X4 (Z2.mk 0 0 [])) (ie (Y1 1 (ic [3] (WH rd bs p 4 (ZP:=ob)) ?_))))))
 rintro _ _ ⟨k1,rfl,rfl,Yf⟩
 have qhp2:=Yf.lt om
 refine Z0 (aq (aq (Wm (fun fz gz F h=>∃(wb:Bool),(wb=true->i=0)/\F=sF [0,2,4,6,7,8,9,10,11] fz [(34,.b wb)]/\h=gz) ?_ ?_)))
 ·refine az (Z1 3 (ib (b:=(decide (k1<3))) 31 (fun Zb=>?_) (fun Zb=>?_)))
  ·have YJ:k1<3:=(dq).1 Zb
   exact Z0 (ZU ⟨(i==0),(by first|exact (fun h=>Bool.noConfusion h)|(intro h;omega)|(intro h;simp at h;omega)),rfl,rfl⟩ (ZF 5 fl))
  have YT:¬(k1<3):=Y8 dq Zb
  exact Z0 (ZU ⟨false,(by first|exact (fun h=>Bool.noConfusion h)|(intro h;omega)|(intro h;simp at h;omega)),rfl,rfl⟩ (ZF 5 fl))
 rintro F h ⟨wb,kR6_0,rfl,rfl⟩
 refine Wm (fun fz gz F h=>∃(eQ:Z2) (p6:Nat),(GE g f.params.length 200 eQ)/\(p<=p6/\p6<=p+42000)/\F=sF [0,4,6,7,8,10] fz []/\h=[YF rd bs p6,.obj b3 (X4 eQ),Ze gz 2,Ze gz 3,Ze gz 4]) ?_ ?_
 ·refine ac wb Iff.rfl (fun Za=>?_) (fun Za=>?_)
  ·refine az (ZL 2 [3] (ic [0,3] (Z9u rd bs (p+1) g gb rs (ZP:=ob)) ?_))
   rintro _ _ ⟨e1,p21,rfl,rfl,Xk⟩
   have hbd:=Xk.1
   have hbp:=Xk.2
   exact ZA 2 b3 (X4 e1) (ie (ZU ⟨e1,p21,(by rw [h0 (kR6_0 (by assumption))];exact hbd),ob,rfl,rfl⟩ (wk [1,0,1,1,0] fl)))
  refine aq (Wm (fun fz gz F h=>∃(wb:Bool),(wb=true->0<=w1)/\F=sF [0,2,4,6,7,8,9,10,11] fz [(51,.b wb)]/\h=gz) ?_ ?_)
  ·refine az (Z1 3 (ib (b:=(decide (k1<3))) 40 (fun Zz=>?_) (fun Zz=>?_)))
   ·have W4:k1<3:=(dq).1 Zz
    refine Z1 4 (ib (b:=(decide (w1>=0))) 44 (fun Yp=>?_) (fun Yp=>?_))
    ·have WB:w1>=0:=(dq).1 Yp
     refine Z1 3 (ib (b:=(f.result==0)) 47 (fun Xe=>?_) (fun Xe=>?_))
     ·have V1:f.result=0:=(Zr).1 Xe
      exact Z0 (ZU ⟨true,(by first|exact (fun h=>Bool.noConfusion h)|(intro h;omega)|(intro h;simp at h;omega)),rfl,rfl⟩ (ZF 5 fl))
     have Vu:¬(f.result=0):=Y8 Zr Xe
     exact Z0 (ZU ⟨(f.result==1),(by first|exact (fun h=>Bool.noConfusion h)|(intro h;omega)|(intro h;simp at h;omega)),rfl,rfl⟩ (ZF 5 fl))
    have UR:¬(w1>=0):=Y8 dq Yp
    exact Z0 (ZU ⟨false,(by first|exact (fun h=>Bool.noConfusion h)|(intro h;omega)|(intro h;simp at h;omega)),rfl,rfl⟩ (ZF 5 fl))
   have T8:¬(k1<3):=Y8 dq Zz
   exact Z0 (ZU ⟨false,(by first|exact (fun h=>Bool.noConfusion h)|(intro h;omega)|(intro h;simp at h;omega)),rfl,rfl⟩ (ZF 5 fl))
  rintro F h ⟨wb,kR8_0,rfl,rfl⟩
  refine ac wb Iff.rfl (fun Zg=>?_) (fun Zg=>?_)
  ·refine az (ZL 4 [3] (ic [0,3] (Za1 rd bs (p+1) g gb rs _ i w1 (ZP:=ob) (hw:=(by have:=kR8_0 (by assumption);omega))) ?_))
   rintro _ _ ⟨e2,p22,rfl,rfl,T9⟩
   have hbd:=T9.1
   have hbp:=T9.2
   exact ZA 2 b3 (X4 e2) (ie (ZU ⟨e2,p22,(GE.le hbd om),ob,rfl,rfl⟩ (wk [1,0,1,1,0] fl)))
  refine aq (Wm (fun fz gz F h=>∃(wb:Bool),(wb=true->0<f.params.length)/\F=sF [0,2,4,6,7,8,10,11] fz [(77,.b wb)]/\h=gz) ?_ ?_)
  ·refine az (Z1 3 (ib (b:=(decide (k1<3))) 59 (fun Wn=>?_) (fun Wn=>?_)))
   ·have QW:k1<3:=(dq).1 Wn
    refine Z1 1 (iw (Yc f.params) (Z1 3 (ib (b:=(decide ((f.params.length:Int)>0))) 64 (fun WL=>?_) (fun WL=>?_))))
    ·have QX:(f.params.length:Int)>0:=(dq).1 WL
     refine Z1 1 ?_
     obtain ⟨x1,Z3⟩:=Zt f.params 0 om
     refine Zq (Zm none 0 1 (Y2 Z3)) (Z1 4 (ib (b:=(x1==3)) 70 (fun VJ=>?_) (fun VJ=>?_)))
     ·have Jz:x1=3:=(Zr).1 VJ
      refine Z1 3 (ib (b:=(f.result==0)) 73 (fun Vs=>?_) (fun Vs=>?_))
      ·have J8:f.result=0:=(Zr).1 Vs
       exact Z0 (ZU ⟨true,(by first|exact (fun h=>Bool.noConfusion h)|(intro h;omega)|(intro h;simp at h;omega)),rfl,rfl⟩ (ZF 5 fl))
      have BG:¬(f.result=0):=Y8 Zr Vs
      exact Z0 (ZU ⟨(f.result==3),(by first|exact (fun h=>Bool.noConfusion h)|(intro h;omega)|(intro h;simp at h;omega)),rfl,rfl⟩ (ZF 5 fl))
     have A3:¬(x1=3):=Y8 Zr VJ
     exact Z0 (ZU ⟨false,(by first|exact (fun h=>Bool.noConfusion h)|(intro h;omega)|(intro h;simp at h;omega)),rfl,rfl⟩ (ZF 5 fl))
    have PC:¬((f.params.length:Int)>0):=Y8 dq WL
    exact Z0 (ZU ⟨false,(by first|exact (fun h=>Bool.noConfusion h)|(intro h;omega)|(intro h;simp at h;omega)),rfl,rfl⟩ (ZF 5 fl))
   have PD:¬(k1<3):=Y8 dq Wn
   exact Z0 (ZU ⟨false,(by first|exact (fun h=>Bool.noConfusion h)|(intro h;omega)|(intro h;simp at h;omega)),rfl,rfl⟩ (ZF 5 fl))
  rintro F h ⟨wb,kR10_0,rfl,rfl⟩
  refine ac wb Iff.rfl (fun ZH=>?_) (fun ZH=>?_)
  ·refine az (ZL 3 [3] (ic [0,3] (Za2 rd bs (p+1) g gb rs _ i (ZP:=ob) (h0:=(kR10_0 (by assumption)))) ?_))
   rintro _ _ ⟨e3,p23,rfl,rfl,Lo⟩
   have hbd:=Lo.1
   have hbp:=Lo.2
   exact ZA 2 b3 (X4 e3) (ie (ZU ⟨e3,p23,(GE.le hbd om),ob,rfl,rfl⟩ (wk [1,0,1,1,0] fl)))
  refine aq (Wm (fun fz gz F h=>∃(wb:Bool),(wb=true->0<f.params.length)/\F=sF [0,2,4,6,7,8,10] fz [(102,.b wb)]/\h=gz) ?_ ?_)
  ·refine az (Z1 3 (ib (b:=(decide (k1<3))) 84 (fun Vt=>?_) (fun Vt=>?_)))
   ·have Zaq:k1<3:=(dq).1 Vt
    refine Z1 1 (iw (Yc f.params) (Z1 3 (ib (b:=(decide ((f.params.length:Int)>0))) 89 (fun Kf=>?_) (fun Kf=>?_))))
    ·have Zar:(f.params.length:Int)>0:=(dq).1 Kf
     refine Z1 1 ?_
     obtain ⟨x2,Zs⟩:=Zt f.params 0 om
     refine Zq (Zm none 0 1 (Y2 Zs)) (Z1 4 (ib (b:=(x2==0)) 95 (fun AY=>?_) (fun AY=>?_)))
     ·have Zas:x2=0:=(Zr).1 AY
      refine Z1 3 (ib (b:=(f.result==0)) 98 (fun AZ=>?_) (fun AZ=>?_))
      ·have Zat:f.result=0:=(Zr).1 AZ
       exact Z0 (ZU ⟨true,(by first|exact (fun h=>Bool.noConfusion h)|(intro h;omega)|(intro h;simp at h;omega)),rfl,rfl⟩ (ZF 5 fl))
      have Zau:¬(f.result=0):=Y8 Zr AZ
      exact Z0 (ZU ⟨(f.result==1),(by first|exact (fun h=>Bool.noConfusion h)|(intro h;omega)|(intro h;simp at h;omega)),rfl,rfl⟩ (ZF 5 fl))
     have Zav:¬(x2=0):=Y8 Zr AY
     exact Z0 (ZU ⟨false,(by first|exact (fun h=>Bool.noConfusion h)|(intro h;omega)|(intro h;simp at h;omega)),rfl,rfl⟩ (ZF 5 fl))
    have Zaw:¬((f.params.length:Int)>0):=Y8 dq Kf
    exact Z0 (ZU ⟨false,(by first|exact (fun h=>Bool.noConfusion h)|(intro h;omega)|(intro h;simp at h;omega)),rfl,rfl⟩ (ZF 5 fl))
   have Zax:¬(k1<3):=Y8 dq Vt
   exact Z0 (ZU ⟨false,(by first|exact (fun h=>Bool.noConfusion h)|(intro h;omega)|(intro h;simp at h;omega)),rfl,rfl⟩ (ZF 5 fl))
  rintro F h ⟨wb,kR12_0,rfl,rfl⟩
  refine ac wb Iff.rfl (fun Yj=>?_) (fun Yj=>?_)
  ·refine az (ZL 3 [3] (ic [0,3] (Z99 rd bs (p+1) g gb rs _ i (ZP:=ob) (h0:=(kR12_0 (by assumption)))) ?_))
   rintro _ _ ⟨e4,p24,rfl,rfl,Lp⟩
   have hbd:=Lp.1
   have hbp:=Lp.2
   exact ZA 2 b3 (X4 e4) (ie (ZU ⟨e4,p24,(GE.le hbd om),ob,rfl,rfl⟩ (wk [1,0,1,1,0] fl)))
  refine az (ZL 4 [3] (ic [0,3] (Pi rd bs (p+1) g gb rs f.params f.result 18 (ZP:=ob)) ?_))
  rintro _ _ ⟨e5,p25,rfl,rfl,Lq⟩
  have hbd:=Lq.1
  have hbp:=Lq.2
  exact ZA 2 b3 (X4 e5) (ie (ZU ⟨e5,p25,(GE.le hbd om),ob,rfl,rfl⟩ (wk [1,0,1,1,0] fl)))
 rintro F h ⟨eQ,p6,B2,R7,rfl,rfl⟩
 refine Yi 1 [1] (ic [] (Pp eQ (hz:=(by have:=B2.2;omega))) ?_)
 rintro _ _ ⟨w2,rfl,rfl,PE⟩
 have Ez:=PE
 have Xv:=B2.2
 refine Y9 (w2<0) (fun Xh=>?_) (fun Xh=>?_)
 ·refine Zv 4 [3] (ic [0,3] (Pi rd bs p6 g gb rs f.params f.result 12 (ZP:=ob)) ?_)
  rintro _ _ ⟨e6,p26,rfl,rfl,Gy⟩
  have hbd:=Gy.1
  have hbp:=Gy.2
  exact ZA 3 b2 (X4 e6) (ie (ZB (r3 [1,1] [Y7 e6] [0] [(b2,b2)] ⟨e6,p26,rfl,rfl,⟨hbd,by omega⟩⟩ (lr _))))
 exact ak (Zv 1 [1] (ZA 2 b2 (X4 eQ) (ie (ZB (r3 [1,3] [Y7 eQ] [0] [(b2,b2)] ⟨eQ,p6,rfl,rfl,⟨⟨B2.1,by omega⟩,by omega⟩⟩ (lr _))))))
theorem Qt (ps:LI) (rt:Int) :Zi 199 [Z4 ps,.i rt] [] (Yl (E0 (Func.mk ps rt (Z2.mk 0 0 [])))):=by
 exact ZE 8 Tryz.func199 (ar (iA [nl,.i 0,.i 0,.i 0,nl] fun b1=>ie (Y1 3 (ZA 0 b1 [Z4 ps,.i rt,.i 0,.i 0,nl] (ie (ZB (r3 [] [.agg [Z4 ps,.i rt,.i 0,.i 0,nl]] [0] [(b1,b1)] ⟨rfl,rfl⟩ (Zc.agg (.cons (Zc.sl _ (Yu Z8 ob)) (.cons li (.cons li (.cons li (.cons (Zc.sl _ rfl) .nil)))))))))))))
theorem Za0 (rd:Nat) (bs:LI) (p:Nat) (xs:LI) (ZP:∀z∈bs,0<=z/\z<=255) (hp:p+1<=1000000000:=by exact ob) (hx:0<xs.length/\xs.length<=1000000:=by exact ob) (hy:xs.all (fun x=>decide (0<=x))=true:=by exact ob):Zi 153 [.p rd 0,Z4 xs] [YF rd bs p] (fun r h=>∃(nn:Nat),r=.i nn/\h=[.obj rd [Ur bs,.i (p+1:Nat)]]/\(nn:Int)∈xs):=(Uq rd bs p xs ZP hp hx).mono fun r h ⟨z,hr,hh,hz⟩=>by
  have h0:0<=z:=of_decide_eq_true (A9.1 hy z hz)
  exact ⟨z.toNat,by rw [hr,Int.toNat_of_nonneg h0],hh,by rw [Int.toNat_of_nonneg h0];exact hz⟩
theorem Z8v (rd:Nat) (bs:LI) (p:Nat) (g:Wh) (gb:Nat) (rs:List Func) (f:Func) (i:Int) (nl:Nat) (ZP:∀z∈bs,0<=z/\z<=255) (hp:p+90000<=1000000000:=by exact ob) (hg:GP g:=by exact ob) (WC:g.funcs <+: rs:=by exact ob) (hi:0<=i:=by exact ob) (hf:g.funcs[i.toNat]? = some f:=by exact ob) (h0:i=0->f.params.length=0:=by exact ob) (hn:g.funcs.length=nl:=by exact ob):Zi 200 [.p rd 0,.agg [ZM g.decls,.ms gb 0 nl 4],.i i] [YF rd bs p,W2 gb rs] (fun r h=>∃(e:Z2) (p2:Nat),r=Y7 e/\h=[YF rd bs p2,W2 gb rs]/\GE g f.params.length 30 e/\p<=p2/\p2<=p+90000):=(by subst hn;exact Z8u rd bs p g gb rs f i ZP hp hg WC hi hf h0)
theorem Z9f (rd:Nat) (bs:LI) (p:Nat) (ZP:∀z∈bs,0<=z/\z<=255) (hp:p+400000<=1000000000):Zi 145 [.p rd 0] [YF rd bs p] (fun r h=>∃(rs:List Func) (ds:List Zf) (m:Nat) (gb:Nat) (p2:Nat),r=.agg [ZM ds,.ms gb 0 m 4]/\h=[W2 gb rs,YF rd bs p2]/\(GL ds m 0 rs/\GD ds/\1<=m/\m<=4)/\p<=p2/\p2<=p+400000):=by
 refine ZE 110 Tryz.func145 (ar (iA [nl,nl] fun b1=>ie (Y1 1 (ic [1] (Z9d rd bs p (ZP:=ob)) ?_))))
 rintro _ _ ⟨ds1,v1,rfl,rfl,ZY⟩
 have hgd:=ZY
 refine Z1 1 (iA [nl,nl] fun b2=>ZA 0 b2 [Aw ds1 v1,nl] (ie (ar (iL (Z8 [1]) 1 1 fun v2=>ZT 0 [(13,Z4 [1])] (Zw [] (Qt [1] 0) (iL (Z8 [1,1]) 2 1 fun v3=>ZT 0 [(15,Z4 [1,1])] (Zw [] (Qt [1,1] 1) (iL (Z8 [1]) 1 1 fun v4=>ZT 0 [(17,Z4 [1])] (Zw [] (Qt [1] 1) (iL (Z8 [1,0]) 2 1 fun v5=>ZT 0 [(19,Z4 [1,0])] (Zw [] (Qt [1,0] 1) (iL (Z8 [2,1]) 2 1 fun v6=>ZT 0 [(21,Z4 [2,1])] (Zw [] (Qt [2,1] 1) (iL (Z8 [1,1]) 2 1 fun v7=>ZT 0 [(23,Z4 [1,1])] (Zw [] (Qt [1,1] 0) (iL (Xy [Func.mk [1] 0 (Z2.mk 0 0 []),Func.mk [1,1] 1 (Z2.mk 0 0 []),Func.mk [1] 1 (Z2.mk 0 0 []),Func.mk [1,0] 1 (Z2.mk 0 0 []),Func.mk [2,1] 1 (Z2.mk 0 0 []),Func.mk [1,1] 0 (Z2.mk 0 0 [])]) 6 5 fun v8=>Z0 (ar (iL (Z8 [3]) 1 1 fun v9=>ZT 0 [(26,Z4 [3])] (Zw [] (Qt [3] 0) (iL (Z8 [0]) 1 1 fun v10=>ZT 0 [(28,Z4 [0])] (Zw [] (Qt [0] 1) (iL (Z8 [0,1]) 2 1 fun v11=>ZT 0 [(30,Z4 [0,1])] (Zw [] (Qt [0,1] 1) (iL (Z8 [3,0]) 2 1 fun v12=>ZT 0 [(32,Z4 [3,0])] (Zw [] (Qt [3,0] 3) (iL (Z8 [3]) 1 1 fun v13=>ZT 0 [(34,Z4 [3])] (Zw [] (Qt [3] 1) (iL (Z8 [1,3,0]) 3 1 fun v14=>ZT 0 [(36,Z4 [1,3,0])] (Zw [] (Qt [1,3,0] 0) (iL (Xy [Func.mk [3] 0 (Z2.mk 0 0 []),Func.mk [0] 1 (Z2.mk 0 0 []),Func.mk [0,1] 1 (Z2.mk 0 0 []),Func.mk [3,0] 3 (Z2.mk 0 0 []),Func.mk [3] 1 (Z2.mk 0 0 []),Func.mk [1,3,0] 0 (Z2.mk 0 0 [])]) 6 5 fun v15=>Z0 (ar (iL (Z8 [0]) 1 1 fun v16=>ZT 0 [(39,Z4 [0])] (Zw [] (Qt [0] 0) (iL (Z8 [0,0]) 2 1 fun v17=>ZT 0 [(41,Z4 [0,0])] (Zw [] (Qt [0,0] 0) (iL (Z8 [1,0]) 2 1 fun v18=>ZT 0 [(43,Z4 [1,0])] (Zw [] (Qt [1,0] 0) (iL (Z8 [0]) 1 1 fun v19=>ZT 0 [(45,Z4 [0])] (Zw [] (Qt [0] 1) (iL (Xy [Func.mk [0] 0 (Z2.mk 0 0 []),Func.mk [0,0] 0 (Z2.mk 0 0 []),Func.mk [1,0] 0 (Z2.mk 0 0 []),Func.mk [0] 1 (Z2.mk 0 0 [])]) 4 5 fun v20=>Z0 (aD 26 (Zj 23 26 [2,3,4] (dn 5 (.i (([Func.mk [1] 0 (Z2.mk 0 0 []),Func.mk [1,1] 1 (Z2.mk 0 0 []),Func.mk [1] 1 (Z2.mk 0 0 []),Func.mk [1,0] 1 (Z2.mk 0 0 []),Func.mk [2,1] 1 (Z2.mk 0 0 []),Func.mk [1,1] 0 (Z2.mk 0 0 [])].length:Nat):Int)) (.i (((Xy [Func.mk [1] 0 (Z2.mk 0 0 []),Func.mk [1,1] 1 (Z2.mk 0 0 []),Func.mk [1] 1 (Z2.mk 0 0 []),Func.mk [1,0] 1 (Z2.mk 0 0 []),Func.mk [2,1] 1 (Z2.mk 0 0 []),Func.mk [1,1] 0 (Z2.mk 0 0 [])]).length:Nat):Int)) (li (by rw [Dh])) (Zj 19 22 [9,10,11] (dn 12 (.i (([Func.mk [3] 0 (Z2.mk 0 0 []),Func.mk [0] 1 (Z2.mk 0 0 []),Func.mk [0,1] 1 (Z2.mk 0 0 []),Func.mk [3,0] 3 (Z2.mk 0 0 []),Func.mk [3] 1 (Z2.mk 0 0 []),Func.mk [1,3,0] 0 (Z2.mk 0 0 [])].length:Nat):Int)) (.i (((Xy [Func.mk [3] 0 (Z2.mk 0 0 []),Func.mk [0] 1 (Z2.mk 0 0 []),Func.mk [0,1] 1 (Z2.mk 0 0 []),Func.mk [3,0] 3 (Z2.mk 0 0 []),Func.mk [3] 1 (Z2.mk 0 0 []),Func.mk [1,3,0] 0 (Z2.mk 0 0 [])]).length:Nat):Int)) (li (by rw [Dh])) (Zj 15 18 [16,17,18] (dn 19 (.i (([Func.mk [0] 0 (Z2.mk 0 0 []),Func.mk [0,0] 0 (Z2.mk 0 0 []),Func.mk [1,0] 0 (Z2.mk 0 0 []),Func.mk [0] 1 (Z2.mk 0 0 [])].length:Nat):Int)) (.i (((Xy [Func.mk [0] 0 (Z2.mk 0 0 []),Func.mk [0,0] 0 (Z2.mk 0 0 []),Func.mk [1,0] 0 (Z2.mk 0 0 []),Func.mk [0] 1 (Z2.mk 0 0 [])]).length:Nat):Int)) (li (by rw [Dh])) (Z9 0 (dL 0 [] [] (Z8 []) 0 1 fun v21=>YA 13 13 [] [(48,Z4 [])] (Z9 1 (Yz 1 [] [] [] (Qt [] 0) (Z9 6 (dc 6 [22] [] [] (WH rd bs (p+1) (([Func.mk [1] 0 (Z2.mk 0 0 []),Func.mk [1,1] 1 (Z2.mk 0 0 []),Func.mk [1] 1 (Z2.mk 0 0 []),Func.mk [1,0] 1 (Z2.mk 0 0 []),Func.mk [2,1] 1 (Z2.mk 0 0 []),Func.mk [1,1] 0 (Z2.mk 0 0 [])].length:Nat):Int) (ZP:=ob)) ?_)))))))))))))))))))))))))))))))))))))))))))))))))))))
 rintro _ _ ⟨k1,rfl,rfl,Yf⟩
 have qhp2:=Yf.lt (by simp)
 simp only [X5,XP] at qhp2
 obtain ⟨x1,Z3⟩:=Zt [Func.mk [1] 0 (Z2.mk 0 0 []),Func.mk [1,1] 1 (Z2.mk 0 0 []),Func.mk [1] 1 (Z2.mk 0 0 []),Func.mk [1,0] 1 (Z2.mk 0 0 []),Func.mk [2,1] 1 (Z2.mk 0 0 []),Func.mk [1,1] 0 (Z2.mk 0 0 [])] k1.toNat (by simp only [X5,XP];omega)
 refine dx 7 (Zm (some v8) k1 5 (G3 Z3)) (Zj 9 10 [8] (Z9 13 (dc 13 [0] [] [] (WH rd bs ((p+1)+1) (([Func.mk [3] 0 (Z2.mk 0 0 []),Func.mk [0] 1 (Z2.mk 0 0 []),Func.mk [0,1] 1 (Z2.mk 0 0 []),Func.mk [3,0] 3 (Z2.mk 0 0 []),Func.mk [3] 1 (Z2.mk 0 0 []),Func.mk [1,3,0] 0 (Z2.mk 0 0 [])].length:Nat):Int) (ZP:=ob)) ?_)))
 rintro _ _ ⟨k2,rfl,rfl,YJ⟩
 have qhp3:=YJ.lt (by simp)
 simp only [X5,XP] at qhp3
 obtain ⟨x2,Zs⟩:=Zt [Func.mk [3] 0 (Z2.mk 0 0 []),Func.mk [0] 1 (Z2.mk 0 0 []),Func.mk [0,1] 1 (Z2.mk 0 0 []),Func.mk [3,0] 3 (Z2.mk 0 0 []),Func.mk [3] 1 (Z2.mk 0 0 []),Func.mk [1,3,0] 0 (Z2.mk 0 0 [])] k2.toNat (by simp only [X5,XP];omega)
 refine dx 14 (Zm (some v15) k2 5 (G3 Zs)) (Zj 6 7 [15] (Z9 20 (dc 20 [0] [] [] (WH rd bs (((p+1)+1)+1) (([Func.mk [0] 0 (Z2.mk 0 0 []),Func.mk [0,0] 0 (Z2.mk 0 0 []),Func.mk [1,0] 0 (Z2.mk 0 0 []),Func.mk [0] 1 (Z2.mk 0 0 [])].length:Nat):Int) (ZP:=ob)) ?_)))
 rintro _ _ ⟨k3,rfl,rfl,YT⟩
 have qhp4:=YT.lt (by simp)
 simp only [X5,XP] at qhp4
 obtain ⟨x3,YL⟩:=Zt [Func.mk [0] 0 (Z2.mk 0 0 []),Func.mk [0,0] 0 (Z2.mk 0 0 []),Func.mk [1,0] 0 (Z2.mk 0 0 []),Func.mk [0] 1 (Z2.mk 0 0 [])] k3.toNat (by simp only [X5,XP];omega)
 refine dx 21 (Zm (some v20) k3 5 (G3 YL)) (Zj 3 4 [22] (Z9 23 (dKN 23 [] [] (Zh (Xy [Func.mk [] 0 (Z2.mk 0 0 []),x1,x2,x3])) 4 5 fun g1=>Zj 1 2 [24] (Z9 25 (YM 25 22 [] [] b2 [Aw ds1 v1,.ms g1 0 4 4] (de (Y1 1 (iL (Z8 [4,4,3,2,4]) 5 1 fun v22=>ZT 0 [(74,Z4 [4,4,3,2,4])] (ic [3] (Za0 rd bs ((((p+1)+1)+1)+1) [4,4,3,2,4] (ZP:=ob) (hy:=(by decide))) ?_)))))))))
 rintro _ _ ⟨nn1,rfl,rfl,Xk⟩
 have hnn:=Zel (a:=2) (b:=4) Xk (by decide)
 refine Z0 (Zv 3 [2] (Zq (Ly 3 g1 4 4 nn1 5 (Zh (Xy [Func.mk [] 0 (Z2.mk 0 0 []),x1,x2,x3]))) (Z1 1 (ZA 2 b2 [Aw ds1 v1,.ms g1 0 nn1 4] (ie (YP 1 (ia (((nn1:Int)-1)) (((nn1:Int))-(1)) (Z0 (ab 0 (Y3 (fun fz gz m F h=>∃(j:Nat) (rq:List Func) (pq:Nat),(j<=nn1)/\(GL ds1 nn1 j rq)/\(p<=pq/\pq+90000*j<=p+10+90000*nn1)/\F=sF [0,2,3] fz [(8,.i ((j:Int)-1))]/\h=[Ze gz 0,YF rd bs pq,Ze gz 25,Ze gz 24,W2 g1 rq]/\m=j+1) _ _ _ ⟨nn1,[Func.mk [] 0 (Z2.mk 0 0 []),x1,x2,x3],((((p+1)+1)+1)+1)+1,ob,(GL.start (ME Z3 (by decide)) (ME Zs (by decide)) (ME YL (by decide))),ob,rfl,rfl,rfl⟩ (wk [0,0,23,22,1] fl) ?_))))))))))
 rintro m F h ⟨j,rq,pq,Ye,Zk,Zx,rfl,rfl,rfl⟩
 refine Xa (Y9 (((j:Int)-1)>=0) (fun Za=>?_) (fun Za=>?_))
 ·obtain ⟨f1,hf1⟩:=Zt (rq.take nn1) (((j:Int)-1).toNat) (by rw [Zk.len_take om];omega)
  have hfq:rq[j-1]? = some f1:=by have h:=hf1;rw [show ((j:Int)-1).toNat=j-1 by omega,List.getElem?_take_of_lt om] at h;exact h
  refine ak (aq (ab 1 (ar (K6 3 [(88,.agg [ZM ds1,.ms g1 0 nn1 4])] [0] (ic [1,3] (Z8v rd bs pq (Wh.mk ds1 (rq.take nn1)) g1 rq f1 ((j:Int)-1) nn1 (ZP:=ob) (hg:=(Zk.gp hgd om)) (WC:=(List.take_prefix nn1 rq)) (hf:=hf1) (h0:=(fun h=>Zk.zero f1 (by rw [<-hfq,show j-1=0 by omega]))) (hn:=(Zk.len_take om))) ?_)))))
  rintro _ _ ⟨e1,p21,rfl,rfl,W4⟩
  have hbw:eW ds1 nn1 f1.params.length e1/\(e1).sz<=30:=by have h:=W4.1;unfold GE at h;rw [show (Wh.mk ds1 (rq.take nn1)).funcs.length=nn1 from Zk.len_take om] at h;exact h
  exact iA [.i 0,.i 0,nl] fun b3=>ZA 0 b3 (X4 e1) (ie (aE 19 (ZI 13 19 [0,1,2,3,4,5] [3,3] (dx 6 (Wv g1 nn1 4 (((j:Int)-1).toNat) 5 ((j:Int)-1)) (Zj 11 12 [7] (Uo 8 (VB 2 g1 4 4 5 ((((j:Int)-1).toNat)*5+0) (Zh (Xy rq)) [Z4 f1.params] 31 (Z4 f1.params) (T4 (List.take_prefix nn1 rq) hf1 0 rfl (Vo rfl))) (ZI 7 10 [9,10,11] [3] (dx 12 (Wv g1 nn1 4 (((j:Int)-1).toNat) 5 ((j:Int)-1)) (Zj 5 6 [13] (Uo 14 (VB 2 g1 4 4 5 ((((j:Int)-1).toNat)*5+1) (Zh (Xy rq)) [.i f1.result] 3 (.i f1.result) (T4 (List.take_prefix nn1 rq) hf1 1 rfl (Vo rfl))) (ZI 2 4 [15,16] [0] (dx 17 (Wv g1 nn1 4 (((j:Int)-1).toNat) 5 ((j:Int)-1)) (Z9 18 (Cl 18 2 [] [] g1 4 4 5 ((((j:Int)-1).toNat)*5) [Z4 f1.params,.i f1.result,.i e1.op,.i e1.num,XJ e1.kids] (Zh (Xy rq)) (Zh (Xy (rq.set ((j:Int)-1).toNat ⟨f1.params,f1.result,e1⟩))) (by rw [L4,Zk.len];simp only [X5,XP];omega) (Z8f ⟨f1.params,f1.result,e1⟩ (by rw [Zk.len];omega)) (de (az (Z1 1 (ia ((((j:Int)-1)-1)) (((j:Int)-1)-(1)) (Z0 (ZK ⟨(j-1),(rq.set ((j:Int)-1).toNat ⟨f1.params,f1.result,e1⟩),p21,ob,(by rw [show ((j:Int)-1).toNat=j-1 by omega];exact Zk.set om hfq hbw),ob,rfl,rfl,rfl⟩ (wk [3,2,2,2,0] (fc (x:=.i (((j:Int)-1)-1)) li fl))))))))))))))))))))))
 exact ax 0 (Zv 1 [0] (ZA 2 b1 [Aw ds1 v1,.ms g1 0 nn1 4] (ie (ZB (r3 [4,2] [.agg [Aw ds1 v1,.ms g1 0 nn1 4]] [0] [(b1,b1)] ⟨rq,ds1,nn1,g1,pq,rfl,rfl,⟨⟨by rw [show j=0 by omega] at Zk;exact Zk,hgd,by omega,by omega⟩,by omega⟩⟩ (Zc.agg (.cons (Zc.forget _ _) (.cons (lr _) .nil))))))))
theorem Z9e (rd:Nat) (bs:LI) (p:Nat) (ZP:∀z∈bs,0<=z/\z<=255) (hp:p+400000<=1000000000:=by exact ob):Zi 145 [.p rd 0] [YF rd bs p] (fun r h=>∃(g:Wh) (p2:Nat),r=AI g/\h=[YF rd bs p2]/\HV g/\p<=p2/\p2<=p+400000):=(WD.frzP (E:=List Func × List Zf × Nat × Nat) (ds:=fun e=>e.2.1) (rs:=fun e=>e.1) (m:=fun e=>e.2.2.1) (hs:=fun e=>[.obj rd [Ur bs,.i (e.2.2.2:Nat)]]) (Q:=fun e=>(GL e.2.1 e.2.2.1 0 e.1/\GD e.2.1/\1<=e.2.2.1/\e.2.2.1<=4)/\p<=e.2.2.2/\e.2.2.2<=p+400000)
  ((Z9f rd bs p ZP hp).mono fun r h ⟨rs,ds,m,gb,p2,hr,hh,hq⟩=>⟨(rs,ds,m,p2),gb,hr,hh,hq⟩) fun e hq=>⟨hq.1.2.2.2,hq.1.1.len⟩).mono
  fun r h ⟨e,hr,hh,hq⟩=>⟨⟨e.2.1,e.1.take e.2.2.1⟩,e.2.2.2,hr,hh,hq.1.1.done hq.1.2.1 hq.1.2.2,hq.2⟩
theorem Lg (a:Nat) (n:Nat) (ha:a<=1000000:=by exact ob) (hn:n<=1000000:=by exact ob):Zi 198 [.i a,.i n] [] (fun r h=>∃(xs:LI),r=Z4 xs/\h=[]/\xs.length=n/\∀i∈xs,(a:Int)<=i/\i<(a:Int)+n):=by
 refine ZE 20 Tryz.func198 (Zy (ar (iL (Z8 []) 0 1 fun v1=>?_)))
 refine Z0 (Yo (ab 0 (Y3 (fun fz gz m F h=>∃(k:Nat) (ys:LI) (u:Value),(k<=n)/\(ys.length=k)/\(∀i∈ys,(a:Int)<=i/\i<(a:Int)+n)/\F=sF [0,1] fz [(5,ZQ ys u),(6,.i k)]/\h=[.tail u 1]/\m=n-k) _ _ _ ⟨0,[],v1,ob,ob,(fun i hi=>by cases hi),rfl,rfl,rfl⟩ (wk [0] (fr (Ya fl))) ?_)))
 rintro m F h ⟨k,ys,u,Ye,Zk,Zx,rfl,rfl,rfl⟩
 refine Xa (Y9 ((k:Int)<(n:Int)) (fun Za=>?_) (fun Za=>?_))
 ·exact ak (aq (ab 1 (az (Z1 3 (ia (((a+k:Nat):Int)) (((a:Int))+((k:Int))) (iL (Z8 [((a+k:Nat):Int)]) 1 1 fun v2=>ZT 0 [(17,Z4 [((a+k:Nat):Int)])] (ip 1 (Z8 (ys++[((a+k:Nat):Int)])) (Z8 ys) (Z8 [((a+k:Nat):Int)]) u none 1 (YK _) (YK _) (WA _) (by simp<;>omega) (by simp [Wz,Z8]) fun v3=>Z0 (az (Z1 1 (ZJ k (Z0 (ZK ⟨k+1,(ys++[((a+k:Nat):Int)]),v3,ob,ob,(XW Zx om),rfl,rfl,rfl⟩ (wk [0] (fr (ZO k fl)))))))))))))))
 exact ax 0 (ar (Zp (r2 [] [ZQ ys u] ⟨ys,rfl,rfl,⟨by omega,Zx⟩⟩ (Zc.forget _ _))))
theorem Pe (l:Nat) (xs:List Z5) (w:Value) (q:Nat) (s:Z5) (hl:xs.length<=4000000000:=by exact ob) (hq:q<=1000000:=by exact ob):Zi 271 [.p l 0,YD s] [.obj l [X9 xs w,.i q],.tail w 5] (fun r h=>∃(w2:Value),r=.i q/\h=[.obj l [X9 (xs++[s]) w2,.i (((q+1):Nat):Int)],.tail w2 5]):=by
 exact ZE 28 Tryz.func271 (ar (iA (Xz s) fun b1=>Z0 (aD 11 (ZI 5 11 [0,1,2,3,4,5] [1,0] (Z9 6 (WU 6 [1] [l] [YD s] (ZG [s]) (VH [s]).symm 1 5 fun v1=>YA 4 4 [] [(11,Vl [s])] (Z9 7 (dp 7 3 [] [] (ZG (xs++[s])) (ZG xs) (ZG [s]) w none 5 (Xw _) (Xw _) (UO _) (by simp<;>omega) (by simp [V0,ZG]) fun v2=>Zj 1 3 [8,9] (Z9 10 (YM 10 3 [] [] l [X9 (xs++[s]) v2,.i q] (de (Zv 5 [0] (ZJ q (Z1 2 (ZA 0 l [X9 (xs++[s]) v2,.i (q+1:Nat)] (ie (Zv 4 [0] (ia ((((q+1:Nat):Int)-1)) ((((q+1:Nat):Int))-(1)) (Zp (r2 [0,0] [.i (((q+1:Nat):Int)-1)] ⟨v2,rfl,rfl⟩ li))))))))))))))))))))
theorem Po (g:Wh) (e:Z2) (us:LI) (q:Nat) (bb:Nat) (he:eW g.decls g.funcs.length us.length e:=by exact ob) (hu:∀a∈us,0<=a/\a<(q:Int)) (hul:us.length+4*e.sz<=100000:=by exact ob) (hql:q+6*e.sz<=100000:=by exact ob) (hb:e.sz<bb:=by exact ob) (ih:∀(l:Nat) (e2:Z2) (us2:LI) (xs2:List Z5) (w2:Value) (q2:Nat),(eW g.decls g.funcs.length us2.length e2)->(∀a∈us2,0<=a/\a<(q2:Int))->(us2.length+4*e2.sz<=100000)->(xs2.length+6*e2.sz<=100000)->(q2+6*e2.sz<=100000)->(e2.sz<bb)->Zi 234 [.p l 0,AI g,Y7 e2,Z4 us2] [.obj l [X9 xs2 w2,.i q2],.tail w2 5] (fun r h=>∃(ys:List Z5) (v:Int) (w2:Value),r=.i v/\h=[.obj l [X9 (xs2++ys) w2,.i (((q2+Xq ys):Nat):Int)],.tail w2 5]/\LW g.decls g.funcs.length q2 e2 ys v)):Zi 197 [AI g,Y7 e,Z4 us,.i q] [] (fun r h=>∃(b:Z7),r=ZZ b/\h=[]/\LB g.decls g.funcs.length q e b):=by
 refine ZE 26 Tryz.func197 (ar (iA (LH g) fun b1=>iA (X4 e) fun b2=>iA [nl,.i 0] fun b3=>ie (ar (iL (ZG []) 0 5 fun v1=>Z1 2 (iA [X9 [] v1,.i q] fun b4=>Z0 (Zv 4 [4,3] (ic [0,0] (ih b4 e us [] v1 q he hu ob ob ob ob) ?_)))))))
 rintro _ _ ⟨ys1,v2,w21,rfl,rfl,ZY⟩
 have hlw:=ZY
 exact Z0 (Zv 6 [0] (ZA 2 b3 [X9 ([]++ys1) w21,.i v2] (ie (ZB (r3 [] [.agg [X9 ([]++ys1) w21,.i v2]] [0] [(b3,b3)] ⟨(Z7.mk ([]++ys1) v2),rfl,rfl,(by rw [Bl];exact hlw.block)⟩ (Zc.agg (.cons (Zc.forget _ _) (.cons (lr _) .nil))))))))
theorem Z9t (l:Nat) (g:Wh) (e:Z2) (us:LI) (xs:List Z5) (w:Value) (q:Nat) (hd:GD g.decls) (he:eW g.decls g.funcs.length us.length e) (hu:∀a∈us,0<=a/\a<(q:Int)) (hul:us.length+4*e.sz<=100000) (hxl:xs.length+6*e.sz<=100000) (hql:q+6*e.sz<=100000) (ih:∀(l:Nat) (e2:Z2) (us2:LI) (xs2:List Z5) (w2:Value) (q2:Nat),(eW g.decls g.funcs.length us2.length e2)->(∀a∈us2,0<=a/\a<(q2:Int))->(us2.length+4*e2.sz<=100000)->(xs2.length+6*e2.sz<=100000)->(q2+6*e2.sz<=100000)->(e2.sz<e.sz)->Zi 234 [.p l 0,AI g,Y7 e2,Z4 us2] [.obj l [X9 xs2 w2,.i q2],.tail w2 5] (fun r h=>∃(ys:List Z5) (v:Int) (w2:Value),r=.i v/\h=[.obj l [X9 (xs2++ys) w2,.i (((q2+Xq ys):Nat):Int)],.tail w2 5]/\LW g.decls g.funcs.length q2 e2 ys v)):Zi 234 [.p l 0,AI g,Y7 e,Z4 us] [.obj l [X9 xs w,.i q],.tail w 5] (fun r h=>∃(ys:List Z5) (v:Int) (w2:Value),r=.i v/\h=[.obj l [X9 (xs++ys) w2,.i (((q+Xq ys):Nat):Int)],.tail w2 5]/\LW g.decls g.funcs.length q e ys v):=by
 have XC:=hd.ok
 obtain ⟨ho,h12,h13,h7,h8,h9,hnum,hkl,hks⟩:=(Z7p e).1 he
 have hez:=e.sz_eq
 refine ZE 148 Tryz.func234 (ar (iA (LH g) fun b1=>iA (X4 e) fun b2=>Z0 (Xa (VY [0] (ab 0 (ar (YE (e.op==12) Zr (fun Za=>?_) (fun Za=>?_))))))))
 ·refine Zv 3 [0] ?_
  obtain ⟨x1,Z3⟩:=Zt us e.num.toNat (by have:=h12 om;omega)
  have huv:=hu _ (Y4 Z3)
  exact Zq (Zm none e.num 1 (Y2 Z3)) (Zp (r1 [2,2] ⟨[],x1,w,rfl,rfl,(LW.var huv)⟩ (eq:=(ro (ls:=[X9 xs w,.i q]) (by simp [Xq]) (rc rz)))))
 refine ar (YE (e.op==13) Zr (fun Zg=>?_) (fun Zg=>?_))
 ·refine aD 9 (ZI 5 9 [0,1,2,3] [1,0] ?_)
  obtain ⟨x2,Zs⟩:=Zt e.kids 0 (by have:=h13 om;omega)
  have hekx2:=Di hks Zs
  have hszx2:=Ct Zs
  have htzx2:=BC Zs
  rw [Vy] at hekx2
  rw [Z0k om] at hekx2
  refine dx 4 (Zm none 0 3 (Dg Zs)) (Zj 2 4 [5,6] (Z9 7 (dc 7 [2,2] [] [] (ih l x2 us xs w q (by first|assumption|(rw [Yq];assumption)) (by first|assumption|exact Fs hu hlwhp1.v|exact HG hu) (by first|omega|(simp only [Yq,X5,XP];omega)) (by first|omega|(simp only [Yq,X5,XP];omega)) ob ob) ?_)))
  rintro _ _ ⟨ys1,v1,w21,rfl,rfl,ZY⟩
  have hlwhp1:=ZY
  have hldhp1:=ZY.dn
  refine Zj 0 1 [8] (de (aD 12 (ZI 8 12 [0,1,2,3] [3,2] ?_)))
  obtain ⟨x3,YL⟩:=Zt e.kids 1 (by have:=h13 om;omega)
  have hz2:=OP Zs YL
  have hz3:=x2.sz_eq
  have hekx3:=Di hks YL
  have hszx3:=Ct YL
  have htzx3:=BC YL
  rw [Vy] at hekx3
  rw [Z0k om] at hekx3
  refine dx 4 (Zm none 1 3 (Dg YL)) (Zj 4 7 [5,6,7] (Z9 8 (dL 8 [1,2] [b2,b1] (Z8 [v1]) 1 1 fun v2=>YA 3 3 [] [(45,Z4 [v1])] (Z9 9 (dc 9 [] [1,2] [b2,b1] (KN us [v1]) ?_)))))
  rintro _ _ ⟨v3,rfl,rfl⟩
  refine YA 2 2 [] [(46,Z4 (us++[v1]))] (Z9 10 (dc 10 [2,2] [] [] (ih l x3 (us++[v1]) (xs++ys1) w21 (q+Xq ys1) (by first|assumption|(rw [Yq];assumption)) (by first|assumption|exact Fs hu hlwhp1.v|exact HG hu) (by first|omega|(simp only [Yq,X5,XP];omega)) (by first|omega|(simp only [Yq,X5,XP];omega)) ob ob) ?_))
  rintro _ _ ⟨ys2,v4,w22,rfl,rfl,Yf⟩
  have hlwhp2:=Yf
  have hldhp2:=Yf.dn
  exact Zj 0 1 [11] (de (ZB (r1 [0,0] ⟨(ys1++ys2),v4,w22,rfl,rfl,(LW.let_ hlwhp1 hlwhp2 (by have:=OP Zs YL;omega))⟩ (eq:=(ro (ls:=[X9 ((xs++ys1)++ys2) w22,.i ((((q+Xq ys1)+Xq ys2):Nat):Int)]) (by rw [AO,<-Bm,UC]) (rc rz))))))
 refine Yo (Wm (fun fz gz F h=>F=sF [0,3,5,6] fz [(48,.b ((e.op==7)||(e.op==8)))]/\h=gz) ?_ ?_)
 ·refine ac (e.op==7) Zr (fun ZH=>?_) (fun ZH=>?_)
  ·exact ak (ZU ⟨rfl,rfl⟩ (ZF 4 (fc (x:=.b (e.op==7)) (lb (by first|rfl|(rw [Zd ZH])|(rw [Z6 ZH])|(simp [ZH];done)|(rw [XM];simp [ZH];done)|omega)) fl)))
  exact T6 (ZU ⟨rfl,rfl⟩ (ZF 4 (fc (x:=.b (e.op==8)) (lb (by first|rfl|(rw [Zd ZH])|(rw [Z6 ZH])|(simp [ZH];done)|(rw [XM];simp [ZH];done)|omega)) fl)))
 rintro F h ⟨rfl,rfl⟩
 refine ac ((e.op==7)||(e.op==8)) (p:=(e.op=7)∨(e.op=8)) (Yh Zr Zr) (fun Yj=>?_) (fun Yj=>?_)
 ·refine aD 9 (ZI 5 9 [0,1,2,3] [1,0] ?_)
  obtain ⟨x4,WS⟩:=Zt e.kids 0 om
  have hekx4:=Di hks WS
  have hszx4:=Ct WS
  have htzx4:=BC WS
  rw [Vy] at hekx4
  rw [Zh1 om] at hekx4
  refine dx 4 (Zm none 0 3 (Dg WS)) (Zj 2 4 [5,6] (Z9 7 (dc 7 [2,2] [] [] (ih l x4 us xs w q (by first|assumption|(rw [Yq];assumption)) (by first|assumption|exact Fs hu hlwhp1.v|exact HG hu) (by first|omega|(simp only [Yq,X5,XP];omega)) (by first|omega|(simp only [Yq,X5,XP];omega)) ob ob) ?_)))
  rintro _ _ ⟨ys3,v5,w23,rfl,rfl,YJ⟩
  have hlwhp3:=YJ
  have hldhp3:=YJ.dn
  refine Zj 0 1 [8] (de (ar (iL (YR []) 0 2 fun v6=>Z0 (Zv 4 [4,3] (ic [] (Ba g.decls e.num) ?_)))))
  rintro _ _ ⟨v7,rfl,rfl⟩
  refine Z0 (Yo (ab 1 (Y3 (fun fz gz m F h=>∃(k:Nat) (cs:List Z7) (u:Value),(1<=k/\k<=e.kids.length)/\(cs.length+1=k)/\(Qs g.decls g.funcs.length (QE g.decls e.op e.num (q+Xq ys3)) 0 cs)/\(Xl cs+6*x4.sz<=cs.length+6*XI (e.kids.take k))/\(Jb WZ cs)/\F=sF [0,3,5,6,10] fz [(11,Q4 cs u),(12,Z4 (ZV g.decls e.num)),(13,.i k)]/\h=[Ze gz 2,Ze gz 4,Ze gz 5,.tail u 2,Ze gz 3]/\m=e.kids.length-k) _ _ _ ⟨1,[],v6,ob,ob,True.intro,(by have h:XI (e.kids.take 1)=XI (e.kids.take 0)+x4.sz:=BC WS;simp only [Xl,XP];omega),True.intro,rfl,rfl,rfl⟩ (wk [2,3,3,1,1] (fr (fc (x:=ZQ (ZV g.decls e.num) v7) (Zc.forget _ _) (fc (x:=.i 1) li fl)))) ?_)))
  rintro m F h ⟨k,cs,u,Ye,Zk,Zx,Yy,XY,rfl,rfl,rfl⟩
  refine Yi 3 [1] (iw (IF e.kids) (Y9 ((k:Int)<(e.kids.length:Int)) (fun Xh=>?_) (fun Xh=>?_)))
  ·refine ak (aq (ab 2 (Zy (Xa (VY [1] (Wm (fun fz gz F h=>∃(mf:Nat),(QE g.decls e.op e.num (q+Xq ys3) cs.length=(q+Xq ys3)+mf)/\(mf<=3)/\(QF g.decls e.op e.num us.length k=us.length+mf)/\F=sF [0,3,5,6,10,11,12,13] fz [(14,.i mf)]/\h=gz) ?_ ?_))))))
   ·refine ac (e.op==8) Zr (fun Xn=>?_) (fun Xn=>?_)
    ·refine aE 10 (ZI 6 10 [0,1,2,3] [2] (da 4 (((k-1:Nat):Int)) (((k:Int))-(1)) ?_))
     obtain ⟨x5,Ui⟩:=Zt (ZV g.decls e.num) (k-1) (by have:=h8 om;omega)
     exact dx 5 (Zm none ((k-1:Nat):Int) 1 (Y2 Ui)) (Zj 3 4 [6] (Z9 7 (Yz 7 [] [] [] (JE g.decls x5) (dn 8 (.i (((ZX g.decls x5).length:Nat):Int)) (.i (((Z8 (ZX g.decls x5)).length:Nat):Int)) (li (by rw [Yc])) (Zj 0 1 [9] (de (ZU ⟨(ZX g.decls x5).length,(Mz om (by rw [show cs.length=k-1 by omega];exact Ui)),(by have:=UF XC x5;omega),(Zh2 om (show k=(k-1)+1 by omega) Ui),rfl,rfl⟩ (ZF 5 (fc (x:=.i (((ZX g.decls x5).length:Nat):Int)) (li (by first|rfl|(rw [Zd Xn])|(rw [Z6 Xn])|(simp [Xn];done)|(rw [XM];simp [Xn];done)|omega)) fl)))))))))
    exact ak (ZU ⟨0,(MA om),om,(Z0l om),rfl,rfl⟩ (ZF 5 (fc (x:=.i 0) (li (by first|rfl|(rw [Zd Xn])|(rw [Z6 Xn])|(simp [Xn];done)|(rw [XM];simp [Xn];done)|omega)) fl)))
   rintro F h ⟨mf,Zct,Zm0,Zcu,rfl,rfl⟩
   refine aE 25 (ZI 20 25 [0,1,2,3,4] [2,1] ?_)
   obtain ⟨x6,CC⟩:=Zt e.kids k om
   have hekx6:=Di hks CC
   have hszx6:=Ct CC
   have htzx6:=BC CC
   rw [Vy] at hekx6
   rw [Zcu] at hekx6
   have htk:=AS (xs:=e.kids) (k+1)
   have hbl:=Ic cs
   refine dx 5 (Zm none (k:Int) 3 (Dg CC)) (ZI 7 19 [6,7,8,9,10,11,12,15,16,17,18,19] [0,0] (da 20 ((((q+Xq ys3)+mf:Nat):Int)) (((((q+Xq ys3):Nat):Int))+((mf:Int))) (Z9 13 (dc 13 [] [0,1,2] [l,b2,b1] (Lg (q+Xq ys3) mf) ?_))))
   rintro _ _ ⟨xs1,rfl,rfl,YT⟩
   have hnx:=YT
   refine Z9 14 (dc 14 [] [0,1,2] [l,b2,b1] (KN us xs1) ?_)
   rintro _ _ ⟨v8,rfl,rfl⟩
   refine YA 4 4 [] [(98,Z4 (us++xs1))] (Z9 21 (dc 21 [] [] [] (Po g x6 (us++xs1) ((q+Xq ys3)+mf) e.sz (he:=(by rw [Yq,hnx.1];exact hekx6)) (hu:=(Zkt hu hnx.2)) (hul:=(by rw [Yq,hnx.1];omega)) (hql:=om) (ih:=ih)) ?_))
   rintro _ _ ⟨b3,rfl,rfl,Xk⟩
   have hlb:=Xk
   exact Z9 22 (WU 22 [] [] [ZZ b3] (YR [b3]) (TW [b3]).symm 1 2 fun v9=>YA 2 2 [] [(106,XO [b3])] (Z9 23 (dp 23 5 [] [] (YR (cs++[b3])) (YR cs) (YR [b3]) u none 2 (Kd _) (Kd _) (Iy _) (by simp<;>omega) (by simp [BA,YR]) fun v10=>Zj 0 1 [24] (de (az (Z1 1 (ZJ k (Z0 (ZK ⟨k+1,(cs++[b3]),v10,ob,ob,(OR Zx (by rw [Zct];exact hlb.1)),(by have:=hlb.2;rw [E7,Yq];simp only [Xl,X5,XP];omega),(Sk XY hlb.op),rfl,rfl,rfl⟩ (wk [3,3,3,0,2] (fw (ZO k fl))))))))))))
  refine ax 1 (Zv 6 [1,1] (iL (Z8 [v5]) 1 1 fun v11=>ZT 2 [(116,.agg [.i e.op,.i e.num,.i 0,Z4 [v5],XO cs])] (ic [1,4] (Pe l (xs++ys3) w23 (q+Xq ys3) (Z5.mk e.op e.num 0 [v5] cs) (hl:=(by first|(have h1:=JH zs;have h2:=AS (xs:=e.kids) k;have h3:=Bz zs;(try simp only [Yq]);omega)|((try simp only [Yq]);omega))) (hq:=(by first|(have h1:=JH zs;have h2:=AS (xs:=e.kids) k;have h3:=Bz zs;(try simp only [Yq]);omega)|((try simp only [Yq]);omega)))) ?_)))
  rintro _ _ ⟨w24,rfl,rfl⟩
  refine Z0 ?_
  have hcb:YC e.op=false:=by simp [YC];omega
  exact ZB (r1 [0,0] ⟨(ys3++[Z5.mk e.op e.num 0 [v5] cs]),(((q+Xq ys3):Nat):Int),w24,rfl,rfl,(LW.branch (s0:=x4.sz) (sr:=XI (e.kids.take k)-x4.sz) om (fun h=>by have:=h7 h;omega) (fun h=>by have:=h8 h;omega) hnum hlwhp3.fs hlwhp3.v Zx om hlwhp3.sz (by have:=Ic cs;omega) (by have:=AS (xs:=e.kids) k;omega) hlwhp3.op XY)⟩ (eq:=(ro (ls:=[X9 ((xs++ys3)++[(Z5.mk e.op e.num 0 [v5] cs)]) w24,.i ((((q+Xq ys3)+1):Nat):Int)]) (by rw [Ee (s:=Z5.mk e.op e.num 0 [v5] cs) hcb,<-Bm,UC]) (rc rz))))
 refine ak (ar (iL (Z8 []) 0 1 fun v12=>?_))
 refine Z0 (Yo (ab 3 (Y3 (fun fz gz m F h=>∃(k:Nat) (asl:LI) (u:Value) (zs:List Z5) (w3:Value),(k<=e.kids.length)/\(asl.length=k)/\(TY g.decls g.funcs.length q zs)/\(∀a∈asl,0<=a/\a<((q+Xq zs:Nat):Int))/\(Yk zs<=6*XI (e.kids.take k))/\(K4 WZ zs)/\F=sF [0,3,5,6] fz [(15,ZQ asl u),(16,.i k)]/\h=[Ze gz 1,Ze gz 2,.obj l [X9 (xs++zs) w3,.i (((q+Xq zs):Nat):Int)],.tail u 1,.tail w3 5]/\m=e.kids.length-k) _ _ _ ⟨0,[],v12,[],w,ob,ob,True.intro,(fun a ha=>by cases ha),(by simp [Yk]),True.intro,rfl,rfl,rfl⟩ (wk [1,1,1,0,0] (fr (Ya fl)) (e:=(rc (rc (ro (ls:=[X9 xs w,.i q]) (by simp [Xq]) (rc (rc rz))))))) ?_)))
 rintro m F h ⟨k,asl,u,zs,w3,Um,Wa,W6,JU,Zlj,NW,rfl,rfl,rfl⟩
 refine Yi 3 [0] (iw (IF e.kids) (Y9 ((k:Int)<(e.kids.length:Int)) (fun U2=>?_) (fun U2=>?_)))
 ·refine ak (aq (ab 4 (aD 10 (ZI 5 10 [0,1,2,3,4] [1,0] ?_))))
  obtain ⟨x7,Gz⟩:=Zt e.kids k om
  have hzl:=JH zs
  have hzd:=Bz zs
  have htk:=AS (xs:=e.kids) (k+1)
  have hekx7:=Di hks Gz
  have hszx7:=Ct Gz
  have htzx7:=BC Gz
  rw [Vy] at hekx7
  rw [Z0l om] at hekx7
  refine dx 5 (Zm none (k:Int) 3 (Dg Gz)) (Zj 2 4 [6,7] (Z9 8 (dc 8 [2,3] [] [] (ih l x7 us (xs++zs) w3 (q+Xq zs) (by first|assumption|(rw [Yq];assumption)) (by first|assumption|exact Fs hu hlwhp1.v|exact HG hu) (by first|omega|(simp only [Yq,X5,XP];omega)) (by first|omega|(simp only [Yq,X5,XP];omega)) ob ob) ?_)))
  rintro _ _ ⟨ys4,v13,w25,rfl,rfl,W4⟩
  have hlwhp6:=W4
  have hldhp6:=W4.dn
  exact Zj 0 1 [9] (de (az (Z1 2 (iL (Z8 [v13]) 1 1 fun v14=>ZT 0 [(137,Z4 [v13])] (ip 5 (Z8 (asl++[v13])) (Z8 asl) (Z8 [v13]) u none 1 (YK _) (YK _) (WA _) (by simp<;>omega) (by simp [Wz,Z8]) fun v15=>Z0 (az (Z1 1 (ZJ k (Z0 (ZK ⟨k+1,(asl++[v13]),v15,(zs++ys4),w25,ob,ob,(Em.2 ⟨W6,hlwhp6.fs⟩),(by rw [AO,<-Bm];exact Fs JU hlwhp6.v),(by have:=hlwhp6.sz;rw [Qk];omega),(M4.2 ⟨NW,hlwhp6.op⟩),rfl,rfl,rfl⟩ (wk [4,4,2,0,1] (fr (ZO k fl)) (e:=(rc (rc (ro (ls:=[X9 ((xs++zs)++ys4) w25,.i ((((q+Xq zs)+Xq ys4):Nat):Int)]) (by rw [AO,<-Bm,UC]) (rc (rc rz)))))))))))))))))
 refine ax 3 (Zv 6 [0,0] (iL (YR []) 0 2 fun v16=>ZT 1 [(146,.agg [.i e.op,.i e.num,.i 0,Z4 asl,XO []])] (ic [3,4] (Pe l (xs++zs) w3 (q+Xq zs) (Z5.mk e.op e.num 0 asl []) (hl:=(by first|(have h1:=JH zs;have h2:=AS (xs:=e.kids) k;have h3:=Bz zs;(try simp only [Yq]);omega)|((try simp only [Yq]);omega))) (hq:=(by first|(have h1:=JH zs;have h2:=AS (xs:=e.kids) k;have h3:=Bz zs;(try simp only [Yq]);omega)|((try simp only [Yq]);omega)))) ?_)))
 rintro _ _ ⟨w26,rfl,rfl⟩
 refine Z0 ?_
 have hcb:YC e.op=false:=by simp [YC];omega
 exact ZB (r1 [0,0] ⟨(zs++[Z5.mk e.op e.num 0 asl []]),(((q+Xq zs):Nat):Int),w26,rfl,rfl,(LW.node om h9 hnum W6 JU om (by have:=AS (xs:=e.kids) k;omega) NW)⟩ (eq:=(ro (ls:=[X9 ((xs++zs)++[(Z5.mk e.op e.num 0 asl [])]) w26,.i ((((q+Xq zs)+1):Nat):Int)]) (by rw [Ee (s:=Z5.mk e.op e.num 0 asl []) hcb,<-Bm,<-UC]) (rc rz))))
theorem Z9s (l:Nat) (g:Wh) (e:Z2) (us:LI) (xs:List Z5) (w:Value) (q:Nat) (hd:GD g.decls) (he:eW g.decls g.funcs.length us.length e) (hu:∀a∈us,0<=a/\a<(q:Int)) (hul:us.length+4*e.sz<=100000) (hxl:xs.length+6*e.sz<=100000) (hql:q+6*e.sz<=100000):Zi 234 [.p l 0,AI g,Y7 e,Z4 us] [.obj l [X9 xs w,.i q],.tail w 5] (fun r h=>∃(ys:List Z5) (v:Int) (w2:Value),r=.i v/\h=[.obj l [X9 (xs++ys) w2,.i (((q+Xq ys):Nat):Int)],.tail w2 5]/\LW g.decls g.funcs.length q e ys v):=by
 have key:∀k:Nat,∀(l:Nat) (e2:Z2) (us2:LI) (xs2:List Z5) (w2:Value) (q2:Nat),(eW g.decls g.funcs.length us2.length e2)->(∀a∈us2,0<=a/\a<(q2:Int))->(us2.length+4*e2.sz<=100000)->(xs2.length+6*e2.sz<=100000)->(q2+6*e2.sz<=100000)->(e2.sz<k)->Zi 234 [.p l 0,AI g,Y7 e2,Z4 us2] [.obj l [X9 xs2 w2,.i q2],.tail w2 5] (fun r h=>∃(ys:List Z5) (v:Int) (w2:Value),r=.i v/\h=[.obj l [X9 (xs2++ys) w2,.i (((q2+Xq ys):Nat):Int)],.tail w2 5]/\LW g.decls g.funcs.length q2 e2 ys v):=by
  intro k
  induction k with
  | zero=>intro l e2 us2 xs2 w2 q2 h1 h2 h3 h4 h5 h6;omega
  | succ k ih=>intro l e2 us2 xs2 w2 q2 h1 h2 h3 h4 h5 h6;exact Z9t l g e2 us2 xs2 w2 q2 hd h1 h2 h3 h4 h5 fun l e3 us3 xs3 w3 q3 a1 a2 a3 a4 a5 a6=>ih l e3 us3 xs3 w3 q3 a1 a2 a3 a4 a5 om
 exact key (e.sz+1) l e us xs w q he hu hul hxl hql om
theorem Lf (g:Wh) (e:Z2) (us:LI) (q:Nat) (hd:GD g.decls:=by exact ob) (he:eW g.decls g.funcs.length us.length e:=by exact ob) (hu:∀a∈us,0<=a/\a<(q:Int)) (hul:us.length+4*e.sz<=100000:=by exact ob) (hql:q+6*e.sz<=100000:=by exact ob):Zi 197 [AI g,Y7 e,Z4 us,.i q] [] (fun r h=>∃(b:Z7),r=ZZ b/\h=[]/\LB g.decls g.funcs.length q e b):=(Po g e us q (e.sz+1) he hu hul hql om (fun l e2 us2 xs2 w2 q2 h1 h2 h3 h4 h5 _=>Z9s l g e2 us2 xs2 w2 q2 hd h1 h2 h3 h4 h5))
theorem Fd (ds:List Zf) (hd:Wp ds:=by exact ob):Zi 81 [ZM ds] [] (Yl (ZM ds)):=by
 have hdl:=hd.len
 refine ZE 55 Tryz.func81 (Zy (ar (iL (YB []) 0 3 fun v1=>?_)))
 refine Z0 (Yo (ab 0 (Y3 (fun fz gz m F h=>∃(k:Nat) (v:Value),(k<=ds.length)/\F=sF [0] fz [(3,Aw (ds.take k) v),(4,.i k)]/\h=[.tail v 3]/\m=ds.length-k) _ _ _ ⟨0,v1,ob,rfl,rfl,rfl⟩ (wk [0] (fc (x:=Aw [] v1) (Zc.slh _ (Yu YB rfl)) (Ya fl))) ?_)))
 rintro m F h ⟨k,v,Ye,rfl,rfl,rfl⟩
 refine YP 2 (iw (Up ds) (Y9 ((k:Int)<(ds.length:Int)) (fun Za=>?_) (fun Za=>?_)))
 ·obtain ⟨xd,hxd⟩:=Zt ds k om
  have hcl:=hd.cons_at hxd
  refine ak (aq (ab 1 (ar (iL (XV []) 0 1 fun v2=>?_))))
  refine Z0 (Yo (ab 2 (Y3 (fun fz gz m F h=>∃(j:Nat) (u:Value),(j<=xd.cons.length)/\F=sF [0,3,4] fz [(5,H9 (xd.cons.take j) u),(6,.i j)]/\h=[.tail u 1,Ze gz 1]/\m=xd.cons.length-j) _ _ _ ⟨0,v2,ob,rfl,rfl,rfl⟩ (wk [0,0] (fc (x:=H9 [] v2) (Zc.slh _ (Yu XV rfl)) (Ya fl))) ?_)))
  rintro m F h ⟨j,u,Um,rfl,rfl,rfl⟩
  refine YP 3 (Zq (Zm none (k:Int) 3 (WV hxd)) (Z1 2 (iw (Uw xd.cons) (Y9 ((j:Int)<(xd.cons.length:Int)) (fun Zg=>?_) (fun Zg=>?_)))))
  ·refine ak (aq (ab 3 (az (Z1 3 (Zq (Zm none (k:Int) 3 (WV hxd)) (Z1 3 ?_))))))
   obtain ⟨x1,Z3⟩:=Zt xd.cons j om
   have hfl:=hd.fields_at hxd Z3
   refine Zq (Zm none (j:Int) 1 (AP Z3)) (Z1 2 (ic [] (Tc x1.fields) ?_))
   rintro _ _ ⟨v3,rfl,rfl⟩
   exact ZT 1 [(36,D0 x1)] (iL (XV [x1]) 1 1 fun v4=>ZT 0 [(37,Ja [x1])] (ip 2 (XV (xd.cons.take (j+1))) (XV (xd.cons.take j)) (XV [x1]) u none 1 (Ef _) (Ef _) (Z79 _) (by simp<;>omega) (by rw [V4 Z3];simp [XV]) fun v5=>Z0 (az (Z1 1 (ZJ j (Z0 (ZK ⟨j+1,v5,ob,rfl,rfl,rfl⟩ (wk [0,2] (fr (ZO j fl))))))))))
  exact ax 2 (aE 16 (Zj 13 16 [0,1,2] (dx 3 (Zm none (k:Int) 3 (WV hxd)) (Zj 8 12 [4,5,6,7] (dx 8 (Zm none (k:Int) 3 (WV hxd)) (YA 3 7 [9,10,11,12] [(51,.agg [.i xd.frm,.i xd.to_,Ja (xd.cons.take j)])] (Z9 13 (dL 13 [] [] (YB [Zf.mk xd.frm xd.to_ (xd.cons.take j)]) 1 3 fun v6=>YA 2 2 [] [(52,ZM [Zf.mk xd.frm xd.to_ (xd.cons.take j)])] (Z9 14 (dp 14 2 [] [] (YB (ds.take (k+1))) (YB (ds.take k)) (YB [Zf.mk xd.frm xd.to_ (xd.cons.take j)]) v none 3 (J5 _) (J5 _) (G0 _) (by simp<;>omega) (by rw [V4 hxd];simp [YB,Vx (show xd.cons.length<=j by omega)]) fun v7=>Zj 0 1 [15] (de (az (Z1 1 (ZJ k (Z0 (ZK ⟨k+1,v7,ob,rfl,rfl,rfl⟩ (wk [0] (fr (ZO k fl)))))))))))))))))))
 exact ax 0 (ar (Zp (ZW (Aw (ds.take k) v) (Zc.sl _ (Yu YB (by rw [Vx om]))))))
theorem Z9z (g:Wh) (hg:HV g:=by exact ob):Zi 144 [AI g] [] (fun r h=>∃(n:Zl),r=Yr n/\h=[]/\FO n 181 WZ):=by
 have hgl:=hg.gp.len
 have XC:=hg.gp.decls.ok
 refine ZE 49 Tryz.func144 (ar (iA (LH g) fun b1=>iA [nl,nl] fun b2=>ie (Zv 2 [1] (Zw [] (Fd g.decls) (iL (YX []) 0 5 fun v1=>Z1 1 (iA [nl,nl] fun b3=>?_))))))
 refine ZA 0 b3 [ZM g.decls,VD [] v1] (ie (Yo (ab 0 (Y3 (fun fz gz m F h=>∃(k:Nat) (rs:List Yb) (u:Value),(k<=g.funcs.length)/\(rs.length=k)/\(∀r∈rs,RN g.decls g.funcs.length r)/\F=sF [1,2,3] fz [(4,.i k)]/\h=[.obj b3 [ZM g.decls,VD rs u],Ze gz 2,Ze gz 3,.tail u 5]/\m=g.funcs.length-k) _ _ _ ⟨0,[],v1,ob,ob,(fun r hr=>by cases hr),rfl,rfl,rfl⟩ (wk [0,1,1,0] (Ya fl)) ?_))))
 rintro m F h ⟨k,rs,u,Ye,Zk,Zx,rfl,rfl,rfl⟩
 refine Yi 3 [2] (iw (Dh g.funcs) (Y9 ((k:Int)<(g.funcs.length:Int)) (fun Za=>?_) (fun Za=>?_)))
 ·refine ak (aq (ab 1 (Zv 3 [2] ?_)))
  obtain ⟨x1,Z3⟩:=Zt g.funcs k om
  have hso:=(hg.gp.sigs _ (Y4 Z3)).bd
  have hsi:=hg.gp.sigs _ (Y4 Z3)
  have hbo:=hg.body _ (Y4 Z3)
  refine Zq (Zm none (k:Int) 5 (G3 Z3)) (Z1 1 (iA [nl,.i 0,.i 0,.i 0,nl] fun b4=>?_))
  refine ZA 0 b4 (GW x1) (ie (Zv 2 [0] (iw (Yc x1.params) (Z0 (aD 9 (ZI 4 9 [0,1,2,3,5] [3,0] (Jq (fun fz gz F h=>∃(b5:Z7) (b6:Nat) (xs1:LI),(xs1.length=x1.params.length/\∀i∈xs1,(0:Int)<=i/\i<(0:Int)+x1.params.length)/\(LB g.decls g.funcs.length x1.params.length x1.body b5)/\F=sF [1,2,3,4,5] fz [(7,.p b6 0)]/\h=[.obj b6 (Xu b5),Ze gz 0,Ze gz 1,Ze gz 2,Ze gz 3,Ze gz 4]) ?_ ?_)))))))
  ·refine VN 4 7 ?_ ?_
   ·refine dc 4 [] [0,3] [b4,b1] (Lg 0 x1.params.length) ?_
    rintro _ _ ⟨xs1,rfl,rfl,ZY⟩
    have hnx:=ZY
    refine VN 6 7 ?_ ?_
    ·refine dc 6 [] [] [] (Lf g x1.body xs1 x1.params.length (hd:=hg.gp.decls) (he:=(by rw [hnx.1];exact hbo.1)) (hu:=(fun a ha=>by have:=hnx.2 a ha;omega))) ?_
     rintro _ _ ⟨b5,rfl,rfl,Yf⟩
     have hlb:=Yf
     exact Z9 7 (dA 7 [] [] [nl,.i 0] fun b6=>Z9 8 (YM 8 0 [] [] b6 (Xu b5) (de (ZU ⟨_,b6,_,(by assumption),(by assumption),rfl,rfl⟩ (ZF 6 fl)))))
    refine dA 7 [0,3] [b4,b1] [nl,.i 0] fun b7=>Z9 6 (dc 6 [] [] [] (Lf g x1.body xs1 x1.params.length (hd:=hg.gp.decls) (he:=(by rw [hnx.1];exact hbo.1)) (hu:=(fun a ha=>by have:=hnx.2 a ha;omega))) ?_)
    rintro _ _ ⟨b8,rfl,rfl,YJ⟩
    have hlb:=YJ
    exact Z9 8 (YM 8 0 [] [] b7 (Xu b8) (de (ZU ⟨_,b7,_,(by assumption),(by assumption),rfl,rfl⟩ (ZF 6 fl))))
   refine dA 7 [0,3] [b4,b1] [nl,.i 0] fun b9=>Z9 4 (dc 4 [] [1,4] [b4,b1] (Lg 0 x1.params.length) ?_)
   rintro _ _ ⟨xs2,rfl,rfl,YT⟩
   have hnx:=YT
   refine Z9 6 (dc 6 [] [] [] (Lf g x1.body xs2 x1.params.length (hd:=hg.gp.decls) (he:=(by rw [hnx.1];exact hbo.1)) (hu:=(fun a ha=>by have:=hnx.2 a ha;omega))) ?_)
   rintro _ _ ⟨b10,rfl,rfl,Xk⟩
   have hlb:=Xk
   exact Z9 8 (YM 8 0 [] [] b9 (Xu b10) (de (ZU ⟨_,b9,_,(by assumption),(by assumption),rfl,rfl⟩ (ZF 6 fl))))
  rintro F h ⟨b5,b6,xs1,ZY,Yf,rfl,rfl⟩
  have hnx:=ZY
  have hlb:=Yf
  refine aE 14 (ZI 7 14 [0,1,2,3,6,7,8] [2,1,1,0] (VN 4 5 ?_ ?_))
  ·refine dc 4 [] [0,1,2] [b6,b4,b3] (Tc x1.params) ?_
   rintro _ _ ⟨v2,rfl,rfl⟩
   exact Z9 5 (dL 5 [0,1,2] [b6,b4,b3] (Z8 []) 0 1 fun v3=>YA 4 5 [9] [(44,.agg [Z4 x1.params,Z4 [],.i x1.result,Vl b5.steps,.i b5.result])] (Z9 10 (dL 10 [2] [b3] (YX [Yb.mk x1.params [] x1.result (Z7.mk b5.steps b5.result)]) 1 5 fun v4=>YA 3 3 [] [(45,Kh [Yb.mk x1.params [] x1.result (Z7.mk b5.steps b5.result)])] (Z9 11 (dp 11 8 [] [] (YX (rs++[Yb.mk x1.params [] x1.result (Z7.mk b5.steps b5.result)])) (YX rs) (YX [Yb.mk x1.params [] x1.result (Z7.mk b5.steps b5.result)]) u none 5 (TX _) (TX _) (Cq _) (by simp<;>omega) (by simp [Cp,YX]) fun v5=>Zj 1 2 [12] (Z9 13 (YM 13 6 [] [] b3 [ZM g.decls,VD (rs++[Yb.mk x1.params [] x1.result (Z7.mk b5.steps b5.result)]) v5] (de (az (Z1 1 (ZJ k (Z0 (ZK ⟨k+1,(rs++[Yb.mk x1.params [] x1.result (Z7.mk b5.steps b5.result)]),v5,ob,ob,(XW Zx (RN.of hsi hlb hbo.2)),rfl,rfl,rfl⟩ (wk [0,6,6,0] (ZO k fl)))))))))))))))
  refine dL 5 [0,1,1,2] [b6,b4,b4,b3] (Z8 []) 0 1 fun v6=>Z9 4 (dc 4 [] [0,1,2] [b6,b4,b3] (Tc x1.params) ?_)
  rintro _ _ ⟨v7,rfl,rfl⟩
  exact YA 4 5 [9] [(44,.agg [Z4 x1.params,Z4 [],.i x1.result,Vl b5.steps,.i b5.result])] (Z9 10 (dL 10 [2] [b3] (YX [Yb.mk x1.params [] x1.result (Z7.mk b5.steps b5.result)]) 1 5 fun v8=>YA 3 3 [] [(45,Kh [Yb.mk x1.params [] x1.result (Z7.mk b5.steps b5.result)])] (Z9 11 (dp 11 8 [] [] (YX (rs++[Yb.mk x1.params [] x1.result (Z7.mk b5.steps b5.result)])) (YX rs) (YX [Yb.mk x1.params [] x1.result (Z7.mk b5.steps b5.result)]) u none 5 (TX _) (TX _) (Cq _) (by simp<;>omega) (by simp [Cp,YX]) fun v9=>Zj 1 2 [12] (Z9 13 (YM 13 6 [] [] b3 [ZM g.decls,VD (rs++[Yb.mk x1.params [] x1.result (Z7.mk b5.steps b5.result)]) v9] (de (az (Z1 1 (ZJ k (Z0 (ZK ⟨k+1,(rs++[Yb.mk x1.params [] x1.result (Z7.mk b5.steps b5.result)]),v9,ob,ob,(XW Zx (RN.of hsi hlb hbo.2)),rfl,rfl,rfl⟩ (wk [0,6,6,0] (ZO k fl))))))))))))))
 exact ax 0 (Zv 1 [0] (ZA 1 b2 [ZM g.decls,VD rs u] (ie (ZB (r3 [] [.agg [ZM g.decls,VD rs u]] [0] [(b2,b2)] ⟨(Zl.mk g.decls rs),rfl,rfl,(RN.all hg.gp.decls (by show 1<=rs.length/\rs.length<=4;omega) (by show ∀r∈rs,RN g.decls rs.length r;rw [show rs.length=g.funcs.length by omega];exact Zx) om)⟩ (Zc.agg (.cons (lr _) (.cons (Zc.forget _ _) .nil))))))))
theorem Z1n (n:Zl) (hz:V7 n:=by exact ob):Zi 108 [Yr n] [] (Yl (.b (XK n))):=by
 have hzl:=hz.len
 refine ZE 35 Tryz.func108 (ar (iA (YV n) fun b1=>Z0 (Yi 1 [0] (Zw [] (Zj4 n (hz:=hz.decls) (hr:=(fun r hr=>⟨hz.params r hr,hz.lent r hr⟩))) (YE (!VC n) (p:=¬(VC n=true)) (Ym Iff.rfl) (fun Za=>?_) (fun Za=>?_))))))
 ·exact ar (Zp (ZW (.b false) (lb (by first|rfl|omega|grind [XK]))))
 have hok:=LY hz (by simpa using Za)
 refine ak (Yo (ab 0 (Y3 (fun fz gz m F h=>∃(k:Nat),(k<=n.routines.length)/\(QD n (n.routines.drop k)=QD n n.routines)/\F=sF [1] fz [(3,.i k)]/\h=gz/\m=n.routines.length-k) _ _ _ ⟨0,ob,ob,rfl,rfl,rfl⟩ (wk [0] (Ya fl)) ?_)))
 rintro m F h ⟨k,Ye,Zk,rfl,rfl,rfl⟩
 refine Yi 3 [0] (iw (Ug n.routines) (Y9 ((k:Int)<(n.routines.length:Int)) (fun Zg=>?_) (fun Zg=>?_)))
 ·refine ak (aq (ab 1 (Zv 3 [0] ?_)))
  obtain ⟨x1,Z3⟩:=Zt n.routines k om
  have ZP:=hz.body _ (Y4 Z3)
  have hps:=hok.params_at Z3
  refine Zq (Zm none (k:Int) 5 (WW Z3)) (Z1 1 (iA [nl,nl,.i 0,nl,.i 0] fun b2=>ZA 0 b2 (Tt x1) (ie (aD 15 (ZI 13 15 [0,1] [0] (Z9 2 (Yz 2 [] [] [] (Z1l x1.body) (Aj [1,3] [(34,.b ((decide ((UV x1.body)<0))||((YS n x1.params x1.body) != x1.result)))] (fun gz=>gz) ?_ ?_))))))))
  ·refine Zj 10 12 [3,4] (db (b:=(decide ((UV x1.body)<0))) 24 (fun Zb=>?_) (fun Zb=>?_))
   ·exact Zj 0 10 [5,6,7,8,9,10,11,12,13,14] (de (wk [0,0] (Zu true Zb fl)))
   exact ZI 3 10 [5,6,7,8,9,11,12] [1,0,0,0] (Z9 10 (Yz 10 [] [0] [b2] (Z1e n x1.params x1.body ob ob) (Zj 0 2 [13,14] (de (wk [0,0] (Zu ((YS n x1.params x1.body) != x1.result) Zb fl))))))
  refine ac ((decide ((UV x1.body)<0))||((YS n x1.params x1.body) != x1.result)) (p:=((UV x1.body)<0)∨((YS n x1.params x1.body)≠x1.result)) (Yh dq Y6) (fun ZH=>?_) (fun ZH=>?_)
  ·refine Zy ?_
   rw [Y5 Z3] at Zk
   exact ZB (ZW (.b false) (lb (by clear Z3;first|rfl|omega|grind [QD,XK])))
  refine ak (az (Z1 1 (ZJ k (Z0 ?_))))
  have hdr:=Y5 Z3
  exact ZK ⟨k+1,ob,(by rw [hdr] at Zk;clear hdr Z3;grind [QD]),rfl,rfl,rfl⟩ (wk [1] (ZO k fl))
 refine ax 0 (Zy ?_)
 try rw [Xm (xs:=n.routines) (k:=k) om] at Zk
 exact ZB (ZW (.b true) (lb (by first|rfl|omega|grind [QD,XK])))
theorem Zio (op:Int) :Zi 172 [.i op] [] (Yl (.b (YC op))):=by
 exact ZE 5 Tryz.func172 (Zy (Y1 1 (Zw [] (TR op 14 17) (Zp (ZW (.b (decide (14<=op/\op<=17))) (lb (by first|rfl|omega|grind [YC])))))))
theorem Z1f (op:Int) :Zi 232 [.i op] [] (Yl (.b (Tk op))):=by
 refine ZE 17 Tryz.func232 (Zy (ar (XA 6 [0] [(8,.b ((op==6)||(op==9)))] (fun gz=>gz) ?_ (fun hj1=>?_))))
 ·refine XA 10 [0] [(12,.b (((op==6)||(op==9))||(op==10)))] (fun gz=>gz) ?_ (fun hj2=>?_)
  ·refine XA 14 [] [(16,.b ((((op==6)||(op==9))||(op==10))||(op==11)))] (fun gz=>gz) ?_ (fun hj3=>?_)
   ·exact Zp (ZW (.b ((((op==6)||(op==9))||(op==10))||(op==11))) (lb (by first|rfl|omega|grind [Tk])))
   refine Z1 1 (ib (b:=(((op==6)||(op==9))||(op==10))) 13 (fun Zb=>?_) (fun Zb=>?_))
   ·exact Z1 3 (Yn (wk [] (Zu true Zb fl)) hj3)
   exact Z1 3 (Yn (wk [] (Zu (op==11) Zb fl)) hj3)
  refine Z1 1 (ib (b:=((op==6)||(op==9))) 9 (fun Zz=>?_) (fun Zz=>?_))
  ·exact Z1 3 (Yn (wk [] (Zu true Zz fl)) hj2)
  exact Z1 3 (Yn (wk [] (Zu (op==10) Zz fl)) hj2)
 refine Z1 3 (ib (b:=(op==6)) 5 (fun Yp=>?_) (fun Yp=>?_))
 ·exact Z1 3 (Yn (wk [] (Zu true Yp fl)) hj1)
 exact Z1 3 (Yn (wk [] (Zu (op==9) Yp fl)) hj1)
theorem Ff (n:Zl) (s:Z5) (i:Nat) (hn:X3 n:=by exact ob) (hnum:s.op=9->0<=s.num/\s.num<n.routines.length:=by exact ob):Zi 233 [Yr n,YD s,.i i] [] (Yl (.b (WJ n s.op s.num i))):=by
 refine ZE 21 Tryz.func233 (ar (iA (YV n) fun b1=>iA (Xz s) fun b2=>Z0 (Zv 4 [0] (ib (b:=(s.op==9)) 10 (fun Zb=>?_) (fun Zb=>?_)))))
 ·have ZY:s.op=9:=(Zr).1 Zb
  refine ZL 4 [1,0] ?_
  obtain ⟨x1,Z3⟩:=Zt n.routines s.num.toNat om
  have hlt:=hn.lent_at Z3
  have hlr:=Zdr (n:=n) ZY Z3
  exact Zq (Zm none s.num 5 (WW Z3)) (Z1 3 (Zw [] (Tw x1.lent (i:Int)) (Zp (ZW (.b (decide ((i:Int)∈x1.lent))) (lb (by rw [WJ,hlr]))))))
 have Yf:¬(s.op=9):=Y8 Zr Zb
 exact Zp (ZW (.b false) (lb (by rw [WJ,JA,Z6 Yf];simp)))
theorem Hv (n:Zl) (us:LI) (s:Z5) (i:Nat) (a:Int) (hn:X3 n:=by exact ob) (hnum:s.op=9->0<=s.num/\s.num<n.routines.length:=by exact ob) (ha:s.args[i]? = some a:=by exact ob) (hi:0<=a/\a<us.length:=by exact ob):Zi 257 [Yr n,Z4 us,YD s,.i i] [] (Yl (.b (TH n us s.op s.num a i))):=by
 have hal:=(Xs.1 ha).1
 refine ZE 30 Tryz.func257 (ar (iA (YV n) fun b1=>iA (Xz s) fun b2=>Z0 (Zv 2 [0] (Zw [] (Z1f s.op) (Z1 1 (ib (b:=Tk s.op) 12 (fun Zb=>?_) (fun Zb=>?_)))))))
 ·refine ZL 4 [0] ?_
  obtain ⟨x1,Z3⟩:=Zt s.args i om
  have hxa:x1=a:=by rw [ha] at Z3;exact (UY Z3).symm
  subst hxa
  refine Zq (Zm none (i:Int) 1 (Y2 Z3)) (Z1 1 ?_)
  obtain ⟨x2,Zs⟩:=Zt us x1.toNat om
  have hga:=VQ Zs
  refine Zq (Zm none x1 1 (Y2 Zs)) (Z1 4 (ib (b:=(x2 != 0)) 23 (fun Zz=>?_) (fun Zz=>?_)))
  ·exact ZL 3 [1,0] (Zw [] (Ff n s i) (Zp (ZW (.b (!WJ n s.op s.num i)) (lb (by clear Z3 Zs;first|rfl|(rw [TH];grind))))))
  exact Zp (ZW (.b false) (lb (by clear Z3 Zs;first|rfl|(rw [TH];grind))))
 exact Zp (ZW (.b false) (lb (by  first|rfl|(rw [TH];grind))))
theorem Z1j (xs:LI) (ys:LI) (hl_xs:xs.length<=4294967296:=by exact ob) (hl_ys:ys.length<=4294967296:=by exact ob):Zi 260 [Z4 xs,Z4 ys] [] (Yl (.b (decide (xs=ys)))):=by
 refine ZE 26 Tryz.func260 (Zy (YP 1 (iw (Yc xs) (Z1 1 (iw (Yc ys) (YE ((xs.length:Int) != (ys.length:Int)) Y6 (fun Za=>?_) (fun Za=>?_)))))))
 ·exact ar (Zp (ZW (.b false) (lb (eq_comm.1 (decide_eq_false (fun q=>by rw [q] at Za;exact Za rfl))))))
 refine ak (Yo (ab 0 (Y3 (fun fz gz m F h=>∃(k:Nat),(k<=xs.length)/\(xs.take k=ys.take k)/\F=sF [0,1] fz [(5,.i k)]/\h=gz/\m=xs.length-k) _ _ _ ⟨0,ob,ob,rfl,rfl,rfl⟩ (wk [] (Ya fl)) ?_)))
 rintro m F h ⟨k,Ye,Zk,rfl,rfl,rfl⟩
 refine YP 2 (iw (Yc xs) (Y9 ((k:Int)<(xs.length:Int)) (fun Zg=>?_) (fun Zg=>?_)))
 ·refine ak (aq (ab 1 (aD 9 (Zj 7 9 [0,1] ?_))))
  obtain ⟨x1,Z3⟩:=Zt xs k om
  refine dx 2 (Zm none (k:Int) 1 (Y2 Z3)) (Zj 3 6 [3,4,5] ?_)
  obtain ⟨x2,Zs⟩:=Zt ys k om
  refine dx 6 (Zm none (k:Int) 1 (Y2 Zs)) (Zj 0 2 [7,8] (de (ac (x1 != x2) Y6 (fun ZH=>?_) (fun ZH=>?_))))
  ·exact ar (Zp (ZW (.b false) (lb (eq_comm.1 (decide_eq_false (fun q=>by subst q;rw [Z3] at Zs;cases Zs;exact ZH rfl))))))
  refine ak (az (Z1 1 (ZJ k (Z0 ?_))))
  have hdr:=Y5 Z3
  exact ZK ⟨k+1,ob,(by rw [V4 Z3,V4 Zs,Zk];have hxx:x1=x2:=om;rw [hxx]),rfl,rfl,rfl⟩ (wk [] (ZO k fl))
 exact ax 0 (ar (Zp (ZW (.b true) (lb (eq_comm.1 (decide_eq_true (by rw [Vx om,Vx om] at Zk;exact Zk)))))))
theorem BU (xs:LI) (hlen:xs.length<=4294967296:=by exact ob):Zi 139 [Z4 xs] [] (fun r h=>∃(v:Hd),r=.h v/\h=[rV v xs]):=by
 exact ZE 6 Tryz.func139 (Zy (ar (PG [] 0 fun v1=>Z1 1 (KE 0 v1 [] xs none fun v2=>Zp (r1 [0] ⟨v2,rfl,rfl⟩ (eq:=(rv (xs:=([]++xs)) ob rz)))))))
theorem J9 (b:Nat) (ga:Hd) (gb:Hd) (gc:Hd) (gd:Hd) (ge:Hd) (gf:Hd) (L:Zo) (ln:LI) (t:Int) (o:Int) (p:Int) (hlb:L.vars.length<=1000000000:=by exact ob) (hlk:WK L:=by exact ob):Zi 206 [.p b 0,.i t,.i o,.i p] [.obj b [.h ga,.h gb,.h gc,.h gd,.h ge,.h gf,Z4 ln],rV ga L.vars,rV gb L.own,rV gc L.par,rV gd L.con,rV ge L.fst,rV gf L.tok] (fun r h=>∃(wa:Hd) (wb:Hd) (wc:Hd) (wd:Hd) (we:Hd) (wf:Hd),h=[.obj b [.h wa,.h wb,.h wc,.h wd,.h we,.h wf,Z4 ln],rV wa ((L.grow t o p).vars),rV wb ((L.grow t o p).own),rV wc ((L.grow t o p).par),rV wd ((L.grow t o p).con),rV we ((L.grow t o p).fst),rV wf ((L.grow t o p).tok)]):=by
 obtain ⟨e1,e2,e3,e4,e5⟩:=hlk
 exact ZE 65 Tryz.func206 (Zv 6 [0] (iL (Z8 [t]) 1 1 fun v1=>ZT 0 [(14,Z4 [t])] (KE 2 ga L.vars [t] none fun v2=>Z1 2 (ZA 2 b [.h v2,.h gb,.h gc,.h gd,.h ge,.h gf,Z4 ln] (ie (Zv 6 [0] (iL (Z8 [o]) 1 1 fun v3=>ZT 0 [(24,Z4 [o])] (KE 4 gb L.own [o] none fun v4=>Z1 2 (ZA 2 b [.h v2,.h v4,.h gc,.h gd,.h ge,.h gf,Z4 ln] (ie (Zv 6 [0] (iL (Z8 [p]) 1 1 fun v5=>ZT 0 [(34,Z4 [p])] (KE 6 gc L.par [p] none fun v6=>Z1 2 (ZA 2 b [.h v2,.h v4,.h v6,.h gd,.h ge,.h gf,Z4 ln] (ie (Zv 5 [0] (iL (Z8 [-1]) 1 1 fun v7=>ZT 0 [(43,Z4 [-1])] (KE 8 gd L.con [-1] none fun v8=>Z1 2 (ZA 2 b [.h v2,.h v4,.h v6,.h v8,.h ge,.h gf,Z4 ln] (ie (Zv 5 [0] (iL (Z8 [-1]) 1 1 fun v9=>ZT 0 [(52,Z4 [-1])] (KE 10 ge L.fst [-1] none fun v10=>Z1 2 (ZA 2 b [.h v2,.h v4,.h v6,.h v8,.h v10,.h gf,Z4 ln] (ie (az (ZL 5 [0] (iL (Z8 [-1]) 1 1 fun v11=>ZT 0 [(61,Z4 [-1])] (KE 12 gf L.tok [-1] none fun v12=>Z1 2 (ZA 2 b [.h v2,.h v4,.h v6,.h v8,.h v10,.h v12,Z4 ln] (ie (r2 [0,10,8,6,4,2,0] [] ⟨v2,v4,v6,v8,v10,v12,rfl⟩ (lr _) (eq:=(rc (rv (xs:=(L.vars++[t])) ob (rv (xs:=(L.own++[o])) ob (rv (xs:=(L.par++[p])) ob (rv (xs:=(L.con++[-1])) ob (rv (xs:=(L.fst++[-1])) ob (rv (xs:=(L.tok++[-1])) ob rz))))))))))))))))))))))))))))))))))))))))
theorem Zdh (b:Nat) (ga:Hd) (gb:Hd) (gc:Hd) (gd:Hd) (ge:Hd) (gf:Hd) (L:Zo) (ln:LI) (hlb:L.vars.length<=1000000000:=by exact ob) (hlk:WK L:=by exact ob) (hln:ln.length<=4294967296:=by exact ob):Zi 283 [.p b 0] [.obj b [.h ga,.h gb,.h gc,.h gd,.h ge,.h gf,Z4 ln],rV ga L.vars,rV gb L.own,rV gc L.par,rV gd L.con,rV ge L.fst,rV gf L.tok] (fun r h=>∃(c:Nat) (wa:Hd) (wb:Hd) (wc:Hd) (wd:Hd) (we:Hd) (wf:Hd),r=.p c 0/\h=[.obj c [.h wa,.h wb,.h wc,.h wd,.h we,.h wf,Z4 ln],rV wa L.vars,rV wb L.own,rV wc L.par,rV wd L.con,rV we L.fst,rV wf L.tok,.obj b [.h ga,.h gb,.h gc,.h gd,.h ge,.h gf,Z4 ln],rV ga L.vars,rV gb L.own,rV gc L.par,rV gd L.con,rV ge L.fst,rV gf L.tok]):=by
 obtain ⟨e1,e2,e3,e4,e5⟩:=hlk
 refine ZE 40 Tryz.func283 (Zy (aD 38 (ZI 10 38 [0,1,2,3,5,6,7,8,10,11,12,13,15,16,17,18,20,21,22,23,25,26,27,28,30,31,32,33] [0,0,0,0,0,0,0] (Z9 4 (Tl 4 [1] [0,0,0,0,0,0] [b,b,b,b,b,b] [rV ga L.vars] (BU L.vars) JW (gL (v:=ga) 0 gN) (Uz Tu) ?_)))))
 rintro _ _ ⟨v1,rfl,rfl⟩
 refine Z9 9 (Tl 9 [3] [0,0,0,0,0] [b,b,b,b,b] [rV gb L.own] (BU L.own) JW (gL (v:=gb) 0 gN) (Uz Tu) ?_)
 rintro _ _ ⟨v2,rfl,rfl⟩
 refine Z9 14 (Tl 14 [5] [0,0,0,0] [b,b,b,b] [rV gc L.par] (BU L.par) JW (gL (v:=gc) 0 gN) (Uz Tu) ?_)
 rintro _ _ ⟨v3,rfl,rfl⟩
 refine Z9 19 (Tl 19 [7] [0,0,0] [b,b,b] [rV gd L.con] (BU L.con) JW (gL (v:=gd) 0 gN) (Uz Tu) ?_)
 rintro _ _ ⟨v4,rfl,rfl⟩
 refine Z9 24 (Tl 24 [9] [0,0] [b,b] [rV ge L.fst] (BU L.fst) JW (gL (v:=ge) 0 gN) (Uz Tu) ?_)
 rintro _ _ ⟨v5,rfl,rfl⟩
 refine Z9 29 (Tl 29 [11] [0] [b] [rV gf L.tok] (BU L.tok) JW (gL (v:=gf) 0 gN) (Uz Tu) ?_)
 rintro _ _ ⟨v6,rfl,rfl⟩
 refine Z9 34 (dc 34 [] [] [] (Tc ln) ?_)
 rintro _ _ ⟨v7,rfl,rfl⟩
 exact YA 2 3 [35] [(38,.agg [.h v1,.h v2,.h v3,.h v4,.h v5,.h v6,Z4 ln])] (Z9 36 (dA 36 [] [] [.h v1,.h v2,.h v3,.h v4,.h v5,.h v6,Z4 ln] fun b1=>Zj 0 1 [37] (de (ZB (r1 [0,11,9,7,5,3,1,7,6,5,4,3,2,1] ⟨b1,v1,v2,v3,v4,v5,v6,rfl,rfl⟩)))))
theorem H1 (b:Nat) (ga:Hd) (gb:Hd) (gc:Hd) (gd:Hd) (ge:Hd) (gf:Hd) (L:Zo) (ln:LI) (i:Int) (hlk:WK L:=by exact ob) (hi:0<=i/\i<L.vars.length:=by exact ob) (hq:∀x∈L.own,0<=x/\x<=1000000000):Zi 207 [.p b 0,.i i] [.obj b [.h ga,.h gb,.h gc,.h gd,.h ge,.h gf,Z4 ln],rV ga L.vars,rV gb L.own,rV gc L.par,rV gd L.con,rV ge L.fst,rV gf L.tok] (fun r h=>(∃(wa:Hd) (wb:Hd) (wc:Hd) (wd:Hd) (we:Hd) (wf:Hd) (L':Zo),r=.b true/\h=[.obj b [.h wa,.h wb,.h wc,.h wd,.h we,.h wf,Z4 ln],rV wa L'.vars,rV wb L'.own,rV wc L'.par,rV wd L'.con,rV we L'.fst,rV wf L'.tok]/\Ua L i=some L')∨(r=.b false/\h=[]/\Ua L i=none)):=by
 obtain ⟨e1,e2,e3,e4,e5⟩:=hlk
 refine ZE 27 Tryz.func207 (Zy (Yi 5 [0] (Zq (Wy 2 gb L.own i i.toNat (hq:=rfl)) ?_)))
 obtain ⟨x1,Z3⟩:=Zt L.own i.toNat om
 have hxq:=hq _ (Y4 Z3)
 have hgi:=VQ Z3
 refine Vk (Ub 2 gb L.own i.toNat x1 Z3) (Y9 (x1<1) (fun Za=>?_) (fun Za=>?_))
 ·exact ar (Zp (r1 [] (.inr ⟨rfl,rfl,(by rw [Ua,hgi,Zd Za])⟩)))
 exact ak (aD 15 (ZI 5 15 [0,1,2,3,4,5,6,7,8,9] [0,0] (dx 10 (Wy 2 gb L.own i i.toNat (hq:=rfl)) (Uo 11 (Ub 2 gb L.own i.toNat x1 Z3) (da 12 ((x1-1)) ((x1)-(1)) (dx 13 (Wy 2 gb L.own i i.toNat (hq:=rfl)) (Z9 14 (Ak 14 2 [] [] gb L.own i.toNat (x1-1) (de (ar (Zp (r1 [1,1,0,0,0,0,0] (.inl ⟨ga,gb,gc,gd,ge,gf,(Zo.mk L.vars (L.own.set i.toNat (x1-1)) L.par L.con L.fst L.tok),rfl,rfl,(by rw [Ua,hgi,Z6 Za])⟩) (eq:=(rc (rv (xs:=L.vars) ob (rv (xs:=(L.own.set i.toNat (x1-1))) ob (rv (xs:=L.par) ob (rv (xs:=L.con) ob (rv (xs:=L.fst) ob (rv (xs:=L.tok) ob rz))))))))))))))))))))
theorem H0 (b:Nat) (ga:Hd) (gb:Hd) (gc:Hd) (gd:Hd) (ge:Hd) (gf:Hd) (L:Zo) (ln:LI) (i:Int) (hlk:WK L:=by exact ob) (hln:ln.length<=4294967296:=by exact ob) (hi:0<=i/\i<L.vars.length:=by exact ob) (hd:∀j:Int,0<=j->j<L.vars.length->gI L.par j<j):Zi 88 [.p b 0,.i i] [.obj b [.h ga,.h gb,.h gc,.h gd,.h ge,.h gf,Z4 ln],rV ga L.vars,rV gb L.own,rV gc L.par,rV gd L.con,rV ge L.fst,rV gf L.tok] (fun r h=>r=.b (XT L ln i)/\h=[.obj b [.h ga,.h gb,.h gc,.h gd,.h ge,.h gf,Z4 ln],rV ga L.vars,rV gb L.own,rV gc L.par,rV gd L.con,rV ge L.fst,rV gf L.tok]):=by
 obtain ⟨e1,e2,e3,e4,e5⟩:=hlk
 refine ZE 31 Tryz.func88 (Zy (aq (ab 0 (Y3 (fun fz gz m F h=>∃(j:Int),(0<=j/\j<L.vars.length)/\(UN L.own L.par ln (j.toNat+1) j=XT L ln i)/\F=sF [0] fz [(1,.i j)]/\h=gz/\m=j.toNat) _ _ _ ⟨i,ob,ob,rfl,rfl,rfl⟩ (ZF 7 fl) ?_))))
 rintro m F h ⟨j,Ye,Zk,rfl,rfl,rfl⟩
 refine Yi 5 [0] (Zq (Wy 2 gb L.own j j.toNat (hq:=rfl)) ?_)
 obtain ⟨x1,Z3⟩:=Zt L.own j.toNat om
 have hg1:=VQ Z3
 refine Vk (Ub 2 gb L.own j.toNat x1 Z3) (Xx [0,1] [(21,.b ((decide (x1<1))&&(!(decide (j∈ln)))))] (fun gz=>gz) ?_ ?_)
 ·refine Z1 2 (ib (b:=(decide (x1<1))) 13 (fun Zb=>?_) (fun Zb=>?_))
  ·exact ZL 5 [0] (Zw [] (Tw ln j) (Z0 (ZF 7 (Zu (!(decide (j∈ln))) Zb fl))))
  exact Z0 (ZF 7 (Zu false Zb fl))
 refine ac ((decide (x1<1))&&(!(decide (j∈ln)))) (p:=(x1<1)/\(¬(j∈ln))) (YG dq (Ym dq)) (fun Za=>?_) (fun Za=>?_)
 ·refine ak (ab 1 (Zv 5 [0] (Zq (Wy 3 gc L.par j j.toNat (hq:=rfl)) ?_)))
  obtain ⟨x2,Zs⟩:=Zt L.par j.toNat om
  have hg2:=VQ Zs
  have hdj:=hd j om om
  rw [hg2] at hdj
  refine Vk (Ub 3 gc L.par j.toNat x2 Zs) (Z0 (ar (Y9 (x2<0) (fun Zg=>?_) (fun Zg=>?_))))
  ·exact ar (Zp (r2 [0,0,0,0,0,0,0] [.b false] ⟨rfl,rfl⟩ (lb (Nl hg1 hg2 Za Zg Zk))))
  exact ak (ZK ⟨x2,om,(Nm hg1 hg2 Ye Za Zg hd Zk),rfl,rfl,rfl⟩ (ZF 7 fl))
 exact ax 0 (ar (Zp (r2 [0,0,0,0,0,0,0] [.b true] ⟨rfl,rfl⟩ (lb (Nn hg1 Za Zk)))))
theorem LL (b:Nat) (ga:Hd) (gb:Hd) (gc:Hd) (gd:Hd) (ge:Hd) (gf:Hd) (L:Zo) (ln:LI) (mm:Nat) (hlk:WK L:=by exact ob) (hlb:L.vars.length<=1000000000:=by exact ob) (hm:mm<=L.vars.length:=by exact ob):Zi 171 [.p b 0,.i mm] [.obj b [.h ga,.h gb,.h gc,.h gd,.h ge,.h gf,Z4 ln],rV ga L.vars,rV gb L.own,rV gc L.par,rV gd L.con,rV ge L.fst,rV gf L.tok] (fun r h=>(∃(wa:Hd) (wb:Hd) (wc:Hd) (wd:Hd) (we:Hd) (wf:Hd) (L':Zo),r=.b true/\h=[.obj b [.h wa,.h wb,.h wc,.h wd,.h we,.h wf,Z4 ln],rV wa L'.vars,rV wb L'.own,rV wc L'.par,rV wd L'.con,rV we L'.fst,rV wf L'.tok]/\UG L mm=some L')∨(r=.b false/\h=[]/\UG L mm=none)):=by
 obtain ⟨e1,e2,e3,e4,e5⟩:=hlk
 refine ZE 88 Tryz.func171 (Zy (Yo (ab 0 (Y3 (fun fz gz m F h=>∃(k:Nat),(mm<=k/\k<=L.vars.length)/\(Vc (L.own.drop k) (L.tok.drop k)=Vc (L.own.drop mm) (L.tok.drop mm))/\F=sF [0,1] fz [(5,.i k)]/\h=gz/\m=L.vars.length-k) _ _ _ ⟨mm,ob,ob,rfl,rfl,rfl⟩ (ZF 7 fl) ?_))))
 rintro m F h ⟨k,Ye,Zk,rfl,rfl,rfl⟩
 refine Yi 5 [0] (Zq (JO 1 ga L.vars) (Y9 ((k:Int)<(L.vars.length:Int)) (fun Za=>?_) (fun Za=>?_)))
 ·refine ak (aq (ab 1 (Zv 5 [0] (Zq (Wy 2 gb L.own (k:Int) k) ?_))))
  obtain ⟨x1,Z3⟩:=Zt L.own k om
  refine Vk (Ub 2 gb L.own k x1 Z3) (Z1 2 (ib (b:=(x1 != 0)) 24 (fun Zb=>?_) (fun Zb=>?_)))
  ·have ZY:x1≠0:=(Y6).1 Zb
   refine Z0 (Wg (Zy ?_))
   obtain ⟨y2,hy2⟩:=Zt L.tok k om
   exact ZB (r1 [] (.inr ⟨rfl,rfl,(by rw [UG,<-Zk,Y5 Z3,Y5 hy2,Vc,Zd (show x1≠0∨0<=y2 by omega)];rfl)⟩))
  have Yf:¬(x1≠0):=Y8 Y6 Zb
  refine ZL 5 [0] (Zq (Wy 6 gf L.tok (k:Int) k) ?_)
  obtain ⟨x2,Zs⟩:=Zt L.tok k om
  refine Vk (Ub 6 gf L.tok k x2 Zs) (Y9 (x2>=0) (fun Zg=>?_) (fun Zg=>?_))
  ·exact ar (Zp (r1 [] (.inr ⟨rfl,rfl,(by rw [UG,<-Zk,Y5 Z3,Y5 Zs,Vc,Zd (show x1≠0∨0<=x2 by omega)];rfl)⟩)))
  exact ak (az (Z1 1 (ZJ k (Z0 (ZK ⟨k+1,ob,(by rw [Y5 Z3,Y5 Zs,Vc,Z6 om] at Zk;exact Zk),rfl,rfl,rfl⟩ (ZF 7 (ZO k fl)))))))
 exact ax 0 (Zv 6 [0] (Zq (KR 1 ga L.vars mm) (Z1 2 (Wd (CT 1 mm ga L.vars) (ZA 1 b [.h (ga.cut mm),.h gb,.h gc,.h gd,.h ge,.h gf,Z4 ln] (ie (Zv 6 [0] (Zq (KR 2 gb L.own mm) (Z1 2 (Wd (CT 2 mm gb L.own) (ZA 1 b [.h (ga.cut mm),.h (gb.cut mm),.h gc,.h gd,.h ge,.h gf,Z4 ln] (ie (Zv 6 [0] (Zq (KR 3 gc L.par mm) (Z1 2 (Wd (CT 3 mm gc L.par) (ZA 1 b [.h (ga.cut mm),.h (gb.cut mm),.h (gc.cut mm),.h gd,.h ge,.h gf,Z4 ln] (ie (Zv 6 [0] (Zq (KR 4 gd L.con mm) (Z1 2 (Wd (CT 4 mm gd L.con) (ZA 1 b [.h (ga.cut mm),.h (gb.cut mm),.h (gc.cut mm),.h (gd.cut mm),.h ge,.h gf,Z4 ln] (ie (Zv 6 [0] (Zq (KR 5 ge L.fst mm) (Z1 2 (Wd (CT 5 mm ge L.fst) (ZA 1 b [.h (ga.cut mm),.h (gb.cut mm),.h (gc.cut mm),.h (gd.cut mm),.h (ge.cut mm),.h gf,Z4 ln] (ie (Zv 6 [0] (Zq (KR 6 gf L.tok mm) (Z1 2 (Wd (CT 6 mm gf L.tok) (ZA 1 b [.h (ga.cut mm),.h (gb.cut mm),.h (gc.cut mm),.h (gd.cut mm),.h (ge.cut mm),.h (gf.cut mm),Z4 ln] (ie (ar (Zp (r1 [0,5,4,3,2,1,0] (.inl ⟨(ga.cut mm),(gb.cut mm),(gc.cut mm),(gd.cut mm),(ge.cut mm),(gf.cut mm),(Zo.mk (L.vars.take mm) (L.own.take mm) (L.par.take mm) (L.con.take mm) (L.fst.take mm) (L.tok.take mm)),rfl,rfl,(by rw [UG,Zd (by rw [<-Zk,Xm om];rfl)];rfl)⟩) (eq:=(rc (rv (xs:=(L.vars.take mm)) ob (rv (xs:=(L.own.take mm)) ob (rv (xs:=(L.par.take mm)) ob (rv (xs:=(L.con.take mm)) ob (rv (xs:=(L.fst.take mm)) ob (rv (xs:=(L.tok.take mm)) ob rz)))))))))))))))))))))))))))))))))))))))))))))))
theorem Zdj (b:Nat) (ga:Hd) (gb:Hd) (gc:Hd) (gd:Hd) (ge:Hd) (gf:Hd) (n:Zl) (s:Z5) (L:Zo) (ln:LI) (q:Int) (x:Int) (hn:X3 n:=by exact ob) (hk:X7 n.decls L q:=by exact ob) (hlb:L.vars.length<=1000000000:=by exact ob) (ha:s.args[0]? = some x:=by exact ob) (hx:0<=x/\x<L.vars.length:=by exact ob) (hq:0<=q/\q<=999999990:=by exact ob):Zi 208 [.p b 0,Yr n,YD s] [.obj b [.h ga,.h gb,.h gc,.h gd,.h ge,.h gf,Z4 ln],rV ga L.vars,rV gb L.own,rV gc L.par,rV gd L.con,rV ge L.fst,rV gf L.tok] (fun r h=>(∃(wa:Hd) (wb:Hd) (wc:Hd) (wd:Hd) (we:Hd) (wf:Hd) (L':Zo),r=.b true/\h=[.obj b [.h wa,.h wb,.h wc,.h wd,.h we,.h wf,Z4 ln],rV wa L'.vars,rV wb L'.own,rV wc L'.par,rV wd L'.con,rV we L'.fst,rV wf L'.tok]/\Qg n.decls L s.op x=some L')∨(r=.b false/\h=[]/\Qg n.decls L s.op x=none)):=by
 obtain ⟨e1,e2,e3,e4,e5⟩:=hk.len
 have XC:=hn.decls
 have hal:=(Xs.1 ha).1
 obtain ⟨xcon,hxcon⟩:=Zt L.con ((x).toNat) om
 have hgcon:=VQ hxcon
 obtain ⟨xtok,hxtok⟩:=Zt L.tok ((x).toNat) om
 have hgtok:=VQ hxtok
 obtain ⟨xfst,hxfst⟩:=Zt L.fst ((x).toNat) om
 have hgfst:=VQ hxfst
 have hfl:=UF XC xcon
 have har:=hk.arm x om om
 rw [hgcon,hgfst] at har
 refine ZE 105 Tryz.func208 (ar (iA (YV n) fun b1=>iA (Xz s) fun b2=>Z0 (Zv 2 [0] (Zq (Zm none 0 1 (Y2 ha)) (Z0 (Yi 5 [2] (Zq (Wy 6 gd L.con x x.toNat (hq:=rfl)) (Vk (Ub 6 gd L.con x.toNat xcon hxcon) (XA 23 [0,4,5,7] [(36,.b ((decide (xcon<0))||((s.op==17)&&(decide (xtok>=0)))))] (fun gz=>gz) ?_ (fun hj1=>?_))))))))))
 ·refine Z1 1 (ib (b:=((decide (xcon<0))||((s.op==17)&&(decide (xtok>=0))))) 37 (fun Zb=>?_) (fun Zb=>?_))
  ·have ZY:(xcon<0)∨((s.op=17)/\(xtok>=0)):=((Yh dq (YG Zr dq))).1 Zb
   exact Z0 (Wg (ar (Zp (r1 [] (.inr ⟨rfl,rfl,(by rw [Qg,hgcon,hgtok,Zd om])⟩)))))
  have Yf:¬((xcon<0)∨((s.op=17)/\(xtok>=0))):=Y8 (Yh dq (YG Zr dq)) Zb
  refine Z1 2 (ic [2,2,2,2,2,2,2] (H1 b ga gb gc gd ge gf L ln x (hlk:=hk.len) (hq:=(fun y hy=>⟨hk.nn y hy,by have:=hk.bd y hy;omega⟩))) ?_)
  rintro _ _ (⟨wa1,wb1,wc1,wd1,we1,wf1,L'1,rfl,rfl,YJ⟩|⟨rfl,rfl,YT⟩)
  ·obtain ⟨t1,t2,t3,t4,t5,t6,t7⟩:=KP YJ
   have hk1:=hk.take YJ
   obtain ⟨f1,f2,f3,f4,f5⟩:=hk1.len
   have hxcon1:L'1.con[x.toNat]? = some xcon:=by rw [t4];exact hxcon
   have hvl:L'1.vars.length=L.vars.length:=by rw [t2]
   have har2:=har om
   have hxfst1:L'1.fst[x.toNat]? = some xfst:=by rw [t5];exact hxfst
   refine Z0 (WF (ak (aD 11 (ZI 4 11 [0,1,2,3,4,5,6] [8,0] (dx 7 (Wy 4 wd1 L'1.con x x.toNat (hq:=rfl)) (Uo 8 (Ub 4 wd1 L'1.con x.toNat xcon hxcon1) (Z9 9 (Yz 9 [] [] [] (JE n.decls xcon) (Zj 0 1 [10] (de (Yo (ab 0 (Y3 (fun fz gz m F h=>∃(k:Nat) (o:LI),(k<=(ZX n.decls xcon).length)/\(o.length=L.vars.length)/\(∀y∈o,0<=y/\y<=q+k)/\(UZ o (xfst+k) ((ZX n.decls xcon).drop k)=UZ L'1.own xfst (ZX n.decls xcon))/\F=sF [0,5,7,8] fz [(9,.i k)]/\h=[Ze gz 0,Ze gz 1,rV wb1 o,Ze gz 3,Ze gz 4,Ze gz 5,Ze gz 6,Ze gz 7]/\m=(ZX n.decls xcon).length-k) _ _ _ ⟨0,L'1.own,ob,om,(by intro y hy;have h1:=hk1.nn y hy;have h2:=hk1.bd y hy;omega),(by rw [show xfst+((0:Nat):Int)=xfst by omega,KS]),rfl,rfl,rfl⟩ (ZF 8 (Ya fl)) ?_)))))))))))))
   rintro m F h ⟨k,o,Ye,Zk,Zx,Yy,rfl,rfl,rfl⟩
   refine YP 2 (io (.i (((ZX n.decls xcon).length:Nat):Int)) (.i (((Z8 (ZX n.decls xcon)).length:Nat):Int)) (li (by rw [Yc])) (Y9 ((k:Int)<(((ZX n.decls xcon).length:Nat):Int)) (fun Za=>?_) (fun Za=>?_)))
   ·refine ak (aq (ab 1 (Y1 2 ?_)))
    obtain ⟨x1,Z3⟩:=Zt (ZX n.decls xcon) k om
    refine Zq (Zm none (k:Int) 1 (Y2 Z3)) (YE (x1 != 0) Y6 (fun Zg=>?_) (fun Zg=>?_))
    ·refine aE 31 (ZI 22 31 [0,1,2,3,4,5,6,7,8] [0,0] (dx 9 (Wy 5 we1 L'1.fst x x.toNat (hq:=rfl)) (Uo 10 (Ub 5 we1 L'1.fst x.toNat xfst hxfst1) (Zj 19 20 [11] (da 12 ((xfst+(k:Int))) ((xfst)+((k:Int))) (ZI 9 18 [13,14,15,16,17,18,19,20,21] [0,0] (dx 22 (Wy 5 we1 L'1.fst x x.toNat (hq:=rfl)) (Uo 23 (Ub 5 we1 L'1.fst x.toNat xfst hxfst1) (Zj 6 7 [24] (da 25 ((xfst+(k:Int))) ((xfst)+((k:Int))) (dx 26 (Wy 2 wb1 o (xfst+(k:Int)) ((xfst+(k:Int)).toNat) (hq:=rfl)) ?_)))))))))))
     obtain ⟨x2,Zs⟩:=Zt o ((xfst+(k:Int)).toNat) om
     have hy2:=Zx _ (Y4 Zs)
     exact Uo 27 (Ub 2 wb1 o ((xfst+(k:Int)).toNat) x2 Zs) (da 28 ((x2+1)) ((x2)+(1)) (dx 29 (Wy 2 wb1 o (xfst+(k:Int)) ((xfst+(k:Int)).toNat) (hq:=rfl)) (Z9 30 (Ak 30 2 [] [] wb1 o ((xfst+(k:Int)).toNat) (x2+1) (de (az (Z1 1 (ZJ k (Z0 (ZK ⟨k+1,(o.set (xfst+(k:Nat)).toNat (x2+1)),ob,ob,(by intro y hy;first|(rcases KG hy with hy|rfl<;>first|(have:=Zx y hy;omega)|omega)|(have:=Zx y hy;omega)),(by rw [Y5 Z3,UZ] at Yy;first|(rw [Zd Zg,VQ Zs] at Yy;rw [show xfst+((k+1:Nat):Int)=xfst+k+1 by omega];exact Yy)|(rw [Z6 Zg] at Yy;rw [show xfst+((k+1:Nat):Int)=xfst+k+1 by omega];exact Yy)),rfl,rfl,rfl⟩ (wk [1,1,0,0,0,0,0,0] (ZO k fl) (e:=(rc (rc (rv (xs:=(o.set ((xfst+(k:Int)).toNat) (x2+1))) ob (rc (rc (rc (rc (rc rz))))))))))))))))))))
    exact ak (az (Z1 1 (ZJ k (Z0 (ZK ⟨k+1,o,ob,ob,(by intro y hy;first|(rcases KG hy with hy|rfl<;>first|(have:=Zx y hy;omega)|omega)|(have:=Zx y hy;omega)),(by rw [Y5 Z3,UZ] at Yy;first|(rw [Zd Zg,VQ Zs] at Yy;rw [show xfst+((k+1:Nat):Int)=xfst+k+1 by omega];exact Yy)|(rw [Z6 Zg] at Yy;rw [show xfst+((k+1:Nat):Int)=xfst+k+1 by omega];exact Yy)),rfl,rfl,rfl⟩ (ZF 8 (ZO k fl)))))))
   refine ax 0 (Xa (VY [7] (ac (s.op==17) Zr (fun ZH=>?_) (fun ZH=>?_))))
   ·refine az (ZL 6 [0] (io (.i (((ZX n.decls xcon).length:Nat):Int)) (.i (((Z8 (ZX n.decls xcon)).length:Nat):Int)) (li (by rw [Yc])) (Zq (Wy 6 wf1 L'1.tok x x.toNat (hq:=rfl)) (Ds 6 wf1 L'1.tok x.toNat (((ZX n.decls xcon).length:Nat):Int) (ie (Zy ?_))))))
    have hof:o=UZ L'1.own xfst (ZX n.decls xcon):=by rw [<-Yy,Xm om];rfl
    exact ZB (r1 [1,1,1,1,1,1,0] (.inl ⟨wa1,wb1,wc1,wd1,we1,wf1,(Zo.mk L'1.vars o L'1.par L'1.con L'1.fst (L'1.tok.set x.toNat (((ZX n.decls xcon).length:Nat):Int))),rfl,rfl,(by rw [Qg,hgcon,hgfst,hgtok,Z6 om,YJ,hof,t6];simp [ZH,t2,t3,t4,t5])⟩) (eq:=(rc (rv (xs:=L'1.vars) ob (rv (xs:=o) ob (rv (xs:=L'1.par) ob (rv (xs:=L'1.con) ob (rv (xs:=L'1.fst) ob (rv (xs:=(L'1.tok.set x.toNat (((ZX n.decls xcon).length:Nat):Int))) ob rz)))))))))
   refine ak (Zy ?_)
   have hof:o=UZ L'1.own xfst (ZX n.decls xcon):=by rw [<-Yy,Xm om];rfl
   exact ZB (r1 [0,0,0,0,0,0,0] (.inl ⟨wa1,wb1,wc1,wd1,we1,wf1,(Zo.mk L'1.vars o L'1.par L'1.con L'1.fst L'1.tok),rfl,rfl,(by rw [Qg,hgcon,hgfst,hgtok,Z6 om,YJ,hof,t6];simp [ZH,t2,t3,t4,t5])⟩) (eq:=(rc (rv (xs:=L'1.vars) ob (rv (xs:=o) ob (rv (xs:=L'1.par) ob (rv (xs:=L'1.con) ob (rv (xs:=L'1.fst) ob (rv (xs:=L'1.tok) ob rz)))))))))
  exact Z0 (Wg (ar (Zp (r1 [] (.inr ⟨rfl,rfl,(by rw [Qg,hgcon,hgtok,Z6 om,YT])⟩)))))
 refine Z1 2 (ib (b:=(decide (xcon<0))) 22 (fun Zz=>?_) (fun Zz=>?_))
 ·have Xk:xcon<0:=(dq).1 Zz
  exact Z1 14 (Yn (ZF 9 (Zu true Zz fl)) hj1)
 have W4:¬(xcon<0):=Y8 dq Zz
 refine ZL 4 [0] (ib (b:=(s.op==17)) 26 (fun Yp=>?_) (fun Yp=>?_))
 ·have WB:s.op=17:=(Zr).1 Yp
  exact ZL 5 [2] (Zq (Wy 8 gf L.tok x x.toNat (hq:=rfl)) (Vk (Ub 8 gf L.tok x.toNat xtok hxtok) (Z1 3 (Yn (ZF 9 (Zu (decide (xtok>=0)) (And.intro Zz Yp) fl)) hj1))))
 have V1:¬(s.op=17):=Y8 Zr Yp
 exact Z1 10 (Yn (ZF 9 (Zu false (And.intro Zz Yp) fl)) hj1)
theorem Zdi (b:Nat) (ga:Hd) (gb:Hd) (gc:Hd) (gd:Hd) (ge:Hd) (gf:Hd) (n:Zl) (s:Z5) (L:Zo) (ln:LI) (q:Int) (hn:X3 n:=by exact ob) (hnum:s.op=9->0<=s.num/\s.num<n.routines.length:=by exact ob) (hk:X7 n.decls L q:=by exact ob) (hlb:L.vars.length<=1000000000:=by exact ob) (hargs:∀a∈s.args,0<=a/\a<L.vars.length) (hinto:0<s.into->s.into<=L.vars.length:=by exact ob) (hal:s.args.length<=1000000000:=by exact ob) (hln:ln.length<=4294967296:=by exact ob) (hq:0<=q/\q<=999999990:=by exact ob):Zi 210 [.p b 0,Yr n,YD s] [.obj b [.h ga,.h gb,.h gc,.h gd,.h ge,.h gf,Z4 ln],rV ga L.vars,rV gb L.own,rV gc L.par,rV gd L.con,rV ge L.fst,rV gf L.tok] (fun r h=>(∃(wa:Hd) (wb:Hd) (wc:Hd) (wd:Hd) (we:Hd) (wf:Hd) (L':Zo),r=.b true/\h=[.obj b [.h wa,.h wb,.h wc,.h wd,.h we,.h wf,Z4 ln],rV wa L'.vars,rV wb L'.own,rV wc L'.par,rV wd L'.con,rV we L'.fst,rV wf L'.tok]/\UI n ln L s.op s.num s.into s.args=some L')∨(r=.b false/\h=[]/\UI n ln L s.op s.num s.into s.args=none)):=by
 obtain ⟨e1,e2,e3,e4,e5⟩:=hk.len
 refine ZE 79 Tryz.func210 (ar (iA (YV n) fun b1=>iA (Xz s) fun b2=>?_))
 refine Z0 (Yo (ab 0 (Y3 (fun fz gz m F h=>∃(k:Nat) (L2:Zo) (ka:Hd) (kb:Hd) (kc:Hd) (kd:Hd) (ke:Hd) (kf:Hd),(k<=s.args.length)/\(X7 n.decls L2 q)/\(L2.vars=L.vars)/\(T7 n s.op s.num (s.args.drop k) k L2=T7 n s.op s.num s.args 0 L)/\F=sF [0,4,5] fz [(7,.i k)]/\h=[Ze gz 0,Ze gz 1,.obj b [.h ka,.h kb,.h kc,.h kd,.h ke,.h kf,Z4 ln],rV ka L2.vars,rV kb L2.own,rV kc L2.par,rV kd L2.con,rV ke L2.fst,rV kf L2.tok]/\m=s.args.length-k) _ _ _ ⟨0,L,ga,gb,gc,gd,ge,gf,ob,hk,ob,ob,rfl,rfl,rfl⟩ (ZF 9 (Ya fl)) ?_)))
 rintro m F h ⟨k,L2,ka,kb,kc,kd,ke,kf,Ye,Zk,Zx,Yy,rfl,rfl,rfl⟩
 refine Yi 3 [0] (iw (Yc s.args) (Y9 ((k:Int)<(s.args.length:Int)) (fun Za=>?_) (fun Za=>?_)))
 ·obtain ⟨a1,ha1⟩:=Zt s.args k om
  obtain ⟨e6,e7,e8,e9,e10⟩:=Zk.len
  have hav:=hargs a1 (Y4 ha1)
  have hvl:L2.vars.length=L.vars.length:=by rw [Zx]
  refine ak (aq (ab 1 (aD 18 (ZI 11 18 [0,1,2,3,4,5,6] [1,2,0] (Z9 7 (Tl 7 [3] [] [] [rV ka L2.vars] (Hv n L2.vars s k a1 (ha:=ha1)) D8 (gS (gL (v:=ka) 0 (gS (gS gN)))) (Uz Tu) ?_))))))
  rintro _ _ ⟨rfl,rfl⟩
  refine Zj 9 10 [8] (db (b:=TH n L2.vars s.op s.num a1 k) 24 (fun Zb=>?_) (fun Zb=>?_))
  ·have ZY:TH n L2.vars s.op s.num a1 k=true:=(Iff.rfl).1 Zb
   refine ZI 5 9 [9,10,11,12] [1] (dx 13 (Zm none (k:Int) 1 (Y2 ha1)) (Zj 3 4 [14] (Z9 15 (dc 15 [3,0,2,2,2,2,2] [] [] (H1 b ka kb kc kd ke kf L2 ln a1 (hlk:=Zk.len) (hq:=(fun y hy=>⟨Zk.nn y hy,by have:=Zk.bd y hy;omega⟩))) ?_))))
   rintro _ _ (⟨wa1,wb1,wc1,wd1,we1,wf1,L'1,rfl,rfl,Yf⟩|⟨rfl,rfl,YJ⟩)
   ·obtain ⟨t1,t2,t3,t4,t5,t6,t7⟩:=KP Yf
    have hk2:=Zk.take Yf
    exact Zj 0 2 [16,17] (de (WF (ak (az (Z1 1 (ZJ k (Z0 (ZK ⟨k+1,L'1,wa1,wb1,wc1,wd1,we1,wf1,ob,hk2,(t2.trans Zx),(by rw [Y5 ha1,T7,Zd ZY] at Yy;simp only [Yf] at Yy;exact Yy),rfl,rfl,rfl⟩ (wk [7,7,0,0,0,0,0,0,0] (ZO k fl))))))))))
   exact Zj 0 2 [16,17] (de (Wg (ar (Zp (r1 [] (.inr ⟨rfl,rfl,(by rw [UI,<-Yy,Y5 ha1,T7,Zd ZY,YJ])⟩))))))
  have YT:¬(TH n L2.vars s.op s.num a1 k=true):=Y8 Iff.rfl Zb
  exact Zj 0 9 [9,10,11,12,13,14,15,16,17] (de (WF (ak (az (Z1 1 (ZJ k (Z0 (ZK ⟨k+1,L2,ka,kb,kc,kd,ke,kf,ob,Zk,Zx,(by rw [Y5 ha1,T7,Z6 YT] at Yy;exact Yy),rfl,rfl,rfl⟩ (wk [1,1,1,0,0,0,0,0,0] (ZO k fl))))))))))
 have hT:T7 n s.op s.num s.args 0 L=some L2:=by rw [<-Yy,Xm om];rfl
 obtain ⟨e6,e7,e8,e9,e10⟩:=Zk.len
 have hvl:L2.vars.length=L.vars.length:=by rw [Zx]
 refine ax 0 (Yo (ab 2 (Y3 (fun fz gz m F h=>∃(j:Nat),(j<=s.args.length)/\(Qd n s.op s.num ln L2 (s.args.drop j) j=Qd n s.op s.num ln L2 s.args 0)/\F=sF [0,4,5] fz [(8,.i j)]/\h=gz/\m=s.args.length-j) _ _ _ ⟨0,ob,ob,rfl,rfl,rfl⟩ (ZF 9 (Ya fl)) ?_)))
 rintro m F h ⟨j,Um,Wa,rfl,rfl,rfl⟩
 refine Yi 3 [0] (iw (Yc s.args) (Y9 ((j:Int)<(s.args.length:Int)) (fun Zg=>?_) (fun Zg=>?_)))
 ·obtain ⟨a2,ha2⟩:=Zt s.args j om
  have hav:=hargs a2 (Y4 ha2)
  refine ak (aq (ab 3 (Zv 3 [1,0] (Zw [] (Ff n s j) (Xx [0,4,5,8] [(54,.b (WJ n s.op s.num j&&(!XT L2 ln a2)))] (fun gz=>[Ze gz 2,Ze gz 3,Ze gz 4,Ze gz 5,Ze gz 6,Ze gz 7,Ze gz 8,Ze gz 0,Ze gz 1]) ?_ ?_)))))
  ·refine Z1 1 (ib (b:=WJ n s.op s.num j) 45 (fun Zz=>?_) (fun Zz=>?_))
   ·exact ZL 4 [0] (Zq (Zm none (j:Int) 1 (Y2 ha2)) (Z1 1 (Zw [2,2,2,2,2,2,2] (H0 b ka kb kc kd ke kf L2 ln a2 (hlk:=Zk.len) (hd:=Zk.down)) (Z0 (ZF 9 (Zu (!XT L2 ln a2) Zz fl))))))
   exact Z0 (wk [2,2,2,2,2,2,2,0,0] (Zu false Zz fl))
  refine ac (WJ n s.op s.num j&&(!XT L2 ln a2)) (p:=(WJ n s.op s.num j=true)/\(¬(XT L2 ln a2=true))) (YG Iff.rfl (Ym Iff.rfl)) (fun ZH=>?_) (fun ZH=>?_)
  ·refine Zy ?_
   have hA:Qd n s.op s.num ln L2 s.args 0=false:=by rw [<-Wa,Y5 ha2,Qd,Zd ZH]
   exact ZB (r1 [] (.inr ⟨rfl,rfl,(by rw [UI,hT];simp only [hA];rfl)⟩))
  exact ak (az (Z1 1 (ZJ j (Z0 (ZK ⟨j+1,ob,(by rw [Y5 ha2,Qd,Z6 ZH] at Wa;exact Wa),rfl,rfl,rfl⟩ (wk [7,7,0,0,0,0,0,0,0] (ZO j fl)))))))
 have hA:Qd n s.op s.num ln L2 s.args 0=true:=by rw [<-Wa,Xm om];rfl
 refine ax 2 (Xa (VY [0] (XF (s.into>0) (fun Yj=>?_) (fun Yj=>?_))))
 ·obtain ⟨xt,hxt⟩:=Zt L2.tok ((s.into-1).toNat) (by have:=hinto Yj;omega)
  have hgt:=VQ hxt
  refine aq (aD 13 (ZI 7 13 [0,1,2,3,4,5] [2,0] (da 6 ((s.into-1)) ((s.into)-(1)) (dx 7 (Wy 8 kf L2.tok (s.into-1) ((s.into-1).toNat) (hq:=rfl)) (Uo 8 (Ub 8 kf L2.tok ((s.into-1).toNat) xt hxt) (ZI 2 4 [9,10] [0] (dw 11 (Yc s.args) (Zj 0 1 [12] (de (ac (xt != (s.args.length:Int)) Y6 (fun Xh=>?_) (fun Xh=>?_)))))))))))
  ·exact ar (Zp (r1 [] (.inr ⟨rfl,rfl,(by rw [UI,hT];simp only [hA,↓reduceIte];rw [Jw,Zd Yj,hgt,Zd Xh])⟩)))
  exact ak (aE 9 (ZI 3 9 [0,1,2,3,4,5] [2,0] (da 6 ((s.into-1)) ((s.into)-(1)) (dx 7 (Wy 8 kf L2.tok (s.into-1) ((s.into-1).toNat) (hq:=rfl)) (Z9 8 (Ak 8 8 [] [] kf L2.tok ((s.into-1).toNat) (-1) (de (ar (Zp (r1 [3,3,3,3,3,3,0] (.inl ⟨ka,kb,kc,kd,ke,kf,(Zo.mk L2.vars L2.own L2.par L2.con L2.fst (L2.tok.set ((s.into-1).toNat) (-1))),rfl,rfl,(by rw [UI,hT];simp only [hA,↓reduceIte];rw [Jw,Zd Yj,hgt,Z6 Xh])⟩) (eq:=(rc (rv (xs:=L2.vars) ob (rv (xs:=L2.own) ob (rv (xs:=L2.par) ob (rv (xs:=L2.con) ob (rv (xs:=L2.fst) ob (rv (xs:=(L2.tok.set ((s.into-1).toNat) (-1))) ob rz))))))))))))))))))
 exact ak (ar (Zp (r1 [2,2,2,2,2,2,2] (.inl ⟨ka,kb,kc,kd,ke,kf,L2,rfl,rfl,(by rw [UI,hT];simp only [hA,↓reduceIte];rw [Jw,Z6 Yj])⟩))))
theorem Z8y (b:Z7) (t:Int) (hz:b.sz<=1000000) (ih:∀(b2:Z7) (t:Int),(b2.sz<=1000000)->(b2.sz<b.sz)->Zi 231 [ZZ b2,.i t] [] (fun r h=>∃(wr:Bool),r=.b wr/\h=[])):Zi 231 [ZZ b,.i t] [] (fun r h=>∃(wr:Bool),r=.b wr/\h=[]):=by
 have ZP:=Td b
 have hbl:=JH b.steps
 have hbe:=b.sz_eq
 refine ZE 53 Tryz.func231 (ar (iA (Xu b) fun b1=>?_))
 refine Z0 (Yo (ab 0 (Y3 (fun fz gz m F h=>∃(k:Nat),(k<=b.steps.length)/\F=sF [1,2] fz [(5,.i k)]/\h=gz/\m=b.steps.length-k) _ _ _ ⟨0,ob,rfl,rfl,rfl⟩ (wk [0] (Ya fl)) ?_)))
 rintro m F h ⟨k,Ye,rfl,rfl,rfl⟩
 refine Yi 3 [0] (iw (VU b.steps) (Y9 ((k:Int)<(b.steps.length:Int)) (fun Za=>?_) (fun Za=>?_)))
 ·refine ak (aq (ab 1 (Yi 3 [0] ?_)))
  obtain ⟨x1,Z3⟩:=Zt b.steps k om
  have hxs:=MQ (Y4 Z3)
  have hxe:=(x1).sz_eq
  have hxk:=Ts x1
  refine Zq (Zm none (k:Int) 5 (VP Z3)) (Xx [1,2,5] [(30,.b ((x1.op==10)&&(x1.num==t)))] (fun gz=>gz) ?_ ?_)
  ·refine Z1 4 (ib (b:=(x1.op==10)) 21 (fun Zb=>?_) (fun Zb=>?_))
   ·exact ZL 3 [0] (Zq (Zm none (k:Int) 5 (VP Z3)) (Z0 (wk [0] (Zu (x1.num==t) Zb fl))))
   exact Z0 (wk [0] (Zu false Zb fl))
  refine ac ((x1.op==10)&&(x1.num==t)) (p:=(x1.op=10)/\(x1.num=t)) (YG Zr Zr) (fun Zg=>?_) (fun Zg=>?_)
  ·exact ar (Zp (r1 [] ⟨true,rfl,rfl⟩))
  refine ak (Zy (ab 2 (Y3 (fun fz gz m F h=>∃(j:Nat),(j<=x1.kids.length)/\F=sF [1,2,5] fz [(6,.i j)]/\h=gz/\m=x1.kids.length-j) _ _ _ ⟨0,ob,rfl,rfl,rfl⟩ (wk [0] (Ya fl)) ?_)))
  rintro m F h ⟨j,Um,rfl,rfl,rfl⟩
  refine Yi 4 [0] (Zq (Zm none (k:Int) 5 (VP Z3)) (Z1 2 (iw (Uf x1.kids) (Y9 ((j:Int)<(x1.kids.length:Int)) (fun ZH=>?_) (fun ZH=>?_)))))
  ·refine ak (aq (ab 3 (Zv 3 [0] (Zq (Zm none (k:Int) 5 (VP Z3)) (Z1 3 ?_)))))
   obtain ⟨x2,Zs⟩:=Zt x1.kids j om
   have hkx:=Ie (Y4 Zs)
   refine Zq (Zm none (j:Int) 2 (T3 Zs)) (Z1 2 (ic [] (ih x2 t ob ob) ?_))
   rintro _ _ ⟨wr1,rfl,rfl⟩
   refine ie (ac wr1 Iff.rfl (fun Yj=>?_) (fun Yj=>?_))
   ·exact ar (Zp (r1 [] ⟨true,rfl,rfl⟩))
   exact ak (az (Z1 1 (ZJ j (Z0 (ZK ⟨j+1,ob,rfl,rfl,rfl⟩ (wk [0] (ZO j fl)))))))
  exact ax 2 (az (Z1 1 (ZJ k (Z0 (ZK ⟨k+1,ob,rfl,rfl,rfl⟩ (wk [0] (ZO k fl)))))))
 exact ax 0 (ar (Zp (r1 [] ⟨false,rfl,rfl⟩)))
theorem Z8x (b:Z7) (t:Int) (hz:b.sz<=1000000:=by exact ob):Zi 231 [ZZ b,.i t] [] (fun r h=>∃(wr:Bool),r=.b wr/\h=[]):=by
 have key:∀k:Nat,∀(b2:Z7) (t:Int),(b2.sz<=1000000)->(b2.sz<k)->Zi 231 [ZZ b2,.i t] [] (fun r h=>∃(wr:Bool),r=.b wr/\h=[]):=by
  intro k
  induction k with
  | zero=>intro b2 t h1 h2;omega
  | succ k ih=>intro b2 t h1 h2;exact Z8y b2 t h1 fun b3 t3 q1 q2=>ih b3 t3 q1 om
 exact key (b.sz+1) b t hz om
theorem Z9h (n:Zl) (t:Int) (qz:Nat) (hn:FN n qz:=by exact ob) (hqz:qz<=100000:=by exact ob):Zi 188 [Yr n,.i t] [] (fun r h=>∃(wr:Bool),r=.b wr/\h=[]):=by
 have hnl:=hn.len
 refine ZE 21 Tryz.func188 (ar (iA (YV n) fun b1=>?_))
 refine Z0 (Yo (ab 0 (Y3 (fun fz gz m F h=>∃(k:Nat),(k<=n.routines.length)/\F=sF [1,2] fz [(5,.i k)]/\h=gz/\m=n.routines.length-k) _ _ _ ⟨0,ob,rfl,rfl,rfl⟩ (wk [0] (Ya fl)) ?_)))
 rintro m F h ⟨k,Ye,rfl,rfl,rfl⟩
 refine Yi 3 [0] (iw (Ug n.routines) (Y9 ((k:Int)<(n.routines.length:Int)) (fun Za=>?_) (fun Za=>?_)))
 ·refine ak (aq (ab 1 (Zv 3 [0] ?_)))
  obtain ⟨x1,Z3⟩:=Zt n.routines k om
  have hbz:=(hn.body _ (Y4 Z3)).2
  refine Zq (Zm none (k:Int) 5 (WW Z3)) (Z1 3 (ic [] (Z8x x1.body t) ?_))
  rintro _ _ ⟨wr1,rfl,rfl⟩
  refine ie (ac wr1 Iff.rfl (fun Zg=>?_) (fun Zg=>?_))
  ·exact ar (Zp (r1 [] ⟨true,rfl,rfl⟩))
  exact ak (az (Z1 1 (ZJ k (Z0 (ZK ⟨k+1,ob,rfl,rfl,rfl⟩ (wk [0] (ZO k fl)))))))
 exact ax 0 (ar (Zp (r1 [] ⟨false,rfl,rfl⟩)))
theorem Pm (fs:LI) (q:Nat) (hl:fs.length<=1000000:=by exact ob) (hq:q<=1000000:=by exact ob):Zi 189 [Z4 fs,.i q] [] (fun r h=>∃(xs:LI),r=Z4 xs/\h=[]/\xs.length<=fs.length/\∀i∈xs,(q:Int)<=i/\i<(q:Int)+fs.length):=by
 refine ZE 26 Tryz.func189 (Zy (ar (iL (Z8 []) 0 1 fun v1=>?_)))
 refine Z0 (Yo (ab 0 (Y3 (fun fz gz m F h=>∃(k:Nat) (ys:LI) (u:Value),(k<=fs.length)/\(ys.length<=k)/\(∀i∈ys,(q:Int)<=i/\i<(q:Int)+fs.length)/\F=sF [0,1] fz [(5,ZQ ys u),(6,.i k)]/\h=[.tail u 1]/\m=fs.length-k) _ _ _ ⟨0,[],v1,ob,ob,(fun i hi=>by cases hi),rfl,rfl,rfl⟩ (wk [0] (fr (Ya fl))) ?_)))
 rintro m F h ⟨k,ys,u,Ye,Zk,Zx,rfl,rfl,rfl⟩
 refine YP 2 (iw (Yc fs) (Y9 ((k:Int)<(fs.length:Int)) (fun Za=>?_) (fun Za=>?_)))
 ·refine ak (aq (ab 1 (Y1 2 ?_)))
  obtain ⟨x1,Z3⟩:=Zt fs k om
  refine Zq (Zm none (k:Int) 1 (Y2 Z3)) (YE (x1 != 0) Y6 (fun Zg=>?_) (fun Zg=>?_))
  ·exact az (Z1 3 (ia (((q+k:Nat):Int)) (((q:Int))+((k:Int))) (iL (Z8 [((q+k:Nat):Int)]) 1 1 fun v2=>ZT 0 [(23,Z4 [((q+k:Nat):Int)])] (ip 1 (Z8 (ys++[((q+k:Nat):Int)])) (Z8 ys) (Z8 [((q+k:Nat):Int)]) u none 1 (YK _) (YK _) (WA _) (by simp<;>omega) (by simp [Wz,Z8]) fun v3=>Z0 (az (Z1 1 (ZJ k (Z0 (ZK ⟨k+1,(ys++[((q+k:Nat):Int)]),v3,ob,ob,(XW Zx om),rfl,rfl,rfl⟩ (wk [0] (fr (ZO k fl))))))))))))
  exact ak (az (Z1 1 (ZJ k (Z0 (ZK ⟨k+1,ys,u,ob,ob,ob,rfl,rfl,rfl⟩ (wk [0] (fr (ZO k fl))))))))
 exact ax 0 (ar (Zp (r2 [] [ZQ ys u] ⟨ys,rfl,rfl,⟨by omega,Zx⟩⟩ (Zc.forget _ _))))
theorem Pf (n:Zl) (qz:Nat) (hn:FN n qz:=by exact ob) (hqz:qz<=100000:=by exact ob):Zi 136 [Yr n] [] (fun r h=>∃(xs:List LI),r=KH xs/\h=[]/\LC n n.routines.length xs):=by
 have hnl:=hn.len
 refine ZE 31 Tryz.func136 (ar (iA (YV n) fun b1=>Z0 (ar (iL (Wt []) 0 1 fun v1=>?_))))
 refine Z0 (Yo (ab 0 (Y3 (fun fz gz m F h=>∃(k:Nat) (ys:List LI) (u:Value),(k<=n.routines.length)/\(ys.length=k)/\(LC n k ys)/\F=sF [1] fz [(3,BL ys u),(4,.i k)]/\h=[Ze gz 1,.tail u 1]/\m=n.routines.length-k) _ _ _ ⟨0,[],v1,ob,ob,LC.nil,rfl,rfl,rfl⟩ (wk [1,0] (fr (Ya fl))) ?_)))
 rintro m F h ⟨k,ys,u,Ye,Zk,Zx,rfl,rfl,rfl⟩
 refine Yi 3 [0] (iw (Ug n.routines) (Y9 ((k:Int)<(n.routines.length:Int)) (fun Za=>?_) (fun Za=>?_)))
 ·refine ak (aq (ab 1 (Zv 2 [0] (ic [] (Z9h n (k:Int) qz) ?_))))
  rintro _ _ ⟨wr1,rfl,rfl⟩
  refine ie (ac wr1 Iff.rfl (fun Zg=>?_) (fun Zg=>?_))
  ·exact az (Z1 1 (iL (Z8 []) 0 1 fun v2=>ZT 0 [(17,Z4 [])] (iL (Wt [[]]) 1 1 fun v3=>ZT 0 [(18,KH [[]])] (ip 3 (Wt (ys++[[]])) (Wt ys) (Wt [[]]) u none 1 (BB _) (BB _) (G6 _) (by simp<;>omega) (by simp [IL,Wt]) fun v4=>Z0 (az (Z1 1 (ZJ k (Z0 (ZK ⟨k+1,(ys++[[]]),v4,ob,ob,(Zx.snoc (by simp) (fun r hr v hv=>by cases hv)),rfl,rfl,rfl⟩ (wk [3,0] (fr (ZO k fl))))))))))))
  refine az (ZL 4 [0] ?_)
  obtain ⟨x1,Z3⟩:=Zt n.routines k om
  have hrp:=(FN.ok hn).params_at Z3
  have hss:=(Qn.bd (f:=⟨(x1).params,(x1).result,default⟩) (hn.sigs _ (Y4 Z3))).1
  refine Zq (Zm none (k:Int) 5 (WW Z3)) (Z1 2 (ic [] (Pm x1.params 0) ?_))
  rintro _ _ ⟨xs1,rfl,rfl,ZY⟩
  have hhf:=ZY
  exact iL (Wt [xs1]) 1 1 fun v5=>ZT 0 [(28,KH [xs1])] (ip 2 (Wt (ys++[xs1])) (Wt ys) (Wt [xs1]) u none 1 (BB _) (BB _) (G6 _) (by simp<;>omega) (by simp [IL,Wt]) fun v6=>Z0 (az (Z1 1 (ZJ k (Z0 (ZK ⟨k+1,(ys++[xs1]),v6,ob,ob,(Zx.snoc om (fun r hr v hv=>by rw [Z3] at hr;cases hr;have:=hhf.2 v hv;omega)),rfl,rfl,rfl⟩ (wk [2,0] (fr (ZO k fl)))))))))
 exact ax 0 (ar (Zp (r2 [] [BL ys u] ⟨ys,rfl,rfl,(by rw [show n.routines.length=k by omega];exact Zx)⟩ (Zc.forget _ _))))
theorem Z91 (n:Zl) (b:Z7) (t:Int) (mq:Nat) (hn:X3 n) (hf:fB n.decls n.routines.length mq b) (hz:b.sz<=1000000) (ih:∀(b2:Z7) (t:Int) (m2:Nat),(fB n.decls n.routines.length m2 b2)->(b2.sz<=1000000)->(b2.sz<b.sz)->Zi 190 [Yr n,ZZ b2,.i t] [] (fun r h=>∃(wr:Bool),r=.b wr/\h=[])):Zi 190 [Yr n,ZZ b,.i t] [] (fun r h=>∃(wr:Bool),r=.b wr/\h=[]):=by
 have hbl:=JH b.steps
 have hbe:=b.sz_eq
 refine ZE 68 Tryz.func190 (ar (iA (YV n) fun b1=>iA (Xu b) fun b2=>Z0 (Xa (VY [0] (ac (b.result==t) Zr (fun Za=>?_) (fun Za=>?_))))))
 ·exact ar (Zp (r1 [] ⟨true,rfl,rfl⟩))
 refine ak (Yo (ab 0 (Y3 (fun fz gz m F h=>∃(k:Nat),(k<=b.steps.length)/\F=sF [2,3,4] fz [(7,.i k)]/\h=gz/\m=b.steps.length-k) _ _ _ ⟨0,ob,rfl,rfl,rfl⟩ (wk [0,0] (Ya fl)) ?_)))
 rintro m F h ⟨k,Ye,rfl,rfl,rfl⟩
 refine Yi 3 [0] (iw (VU b.steps) (Y9 ((k:Int)<(b.steps.length:Int)) (fun Zg=>?_) (fun Zg=>?_)))
 ·refine ak (aq (ab 1 (Zv 3 [0] ?_)))
  obtain ⟨x1,Z3⟩:=Zt b.steps k om
  have hfs:=(IW x1).1 (Ge ((Gc b).1 hf).1 Z3)
  have hxs:=MQ (Y4 Z3)
  have hxe:=(x1).sz_eq
  have hxk:=Ts x1
  refine Zq (Zm none (k:Int) 5 (VP Z3)) (Z1 1 (iA [.i 0,.i 0,.i 0,nl,nl] fun b3=>?_))
  refine ZA 0 b3 (Xz x1) (ie (Yo (ab 2 (Y3 (fun fz gz m F h=>∃(j:Nat),(j<=x1.args.length)/\F=sF [2,3,4,7,8] fz [(9,.i j)]/\h=gz/\m=x1.args.length-j) _ _ _ ⟨0,ob,rfl,rfl,rfl⟩ (ZF 3 (Ya fl)) ?_))))
  rintro m F h ⟨j,Um,rfl,rfl,rfl⟩
  refine Yi 3 [0] (iw (Yc x1.args) (Y9 ((j:Int)<(x1.args.length:Int)) (fun ZH=>?_) (fun ZH=>?_)))
  ·refine ak (aq (ab 3 (Zv 3 [0] ?_)))
   obtain ⟨x2,Zs⟩:=Zt x1.args j om
   refine Zq (Zm none (j:Int) 1 (Y2 Zs)) (XA 12 [2,3,4,7,8,9] [(45,.b ((x2==t)&&Tk x1.op))] (fun gz=>gz) ?_ (fun hj1=>?_))
   ·refine Xx [2,3,4,7,8,9] [(52,.b (((x2==t)&&Tk x1.op)&&(!WJ n x1.op x1.num j)))] (fun gz=>gz) ?_ ?_
    ·refine Z1 1 (ib (b:=((x2==t)&&Tk x1.op)) 46 (fun Zb=>?_) (fun Zb=>?_))
     ·exact ZL 3 [2,0] (Zw [] (Ff n x1 j (hnum:=hfs.call)) (Z0 (ZF 3 (Zu (!WJ n x1.op x1.num j) Zb fl))))
     exact Z0 (ZF 3 (Zu false Zb fl))
    refine ac (((x2==t)&&Tk x1.op)&&(!WJ n x1.op x1.num j)) (p:=((x2=t)/\(Tk x1.op=true))/\(¬(WJ n x1.op x1.num j=true))) (YG (YG Zr Iff.rfl) (Ym Iff.rfl)) (fun Yj=>?_) (fun Yj=>?_)
    ·exact ar (Zp (r1 [] ⟨true,rfl,rfl⟩))
    exact ak (az (Z1 1 (ZJ j (Z0 (ZK ⟨j+1,ob,rfl,rfl,rfl⟩ (ZF 3 (ZO j fl)))))))
   refine Z1 4 (ib (b:=(x2==t)) 41 (fun Zz=>?_) (fun Zz=>?_))
   ·exact ZL 2 [0] (Zw [] (Z1f x1.op) (Z1 1 (Yn (ZF 3 (Zu (Tk x1.op) Zz fl)) hj1)))
   exact Z1 4 (Yn (ZF 3 (Zu false Zz fl)) hj1)
  refine ax 2 (Zy (ab 4 (Y3 (fun fz gz m F h=>∃(j:Nat),(j<=x1.kids.length)/\F=sF [2,3,4,7,8] fz [(10,.i j)]/\h=gz/\m=x1.kids.length-j) _ _ _ ⟨0,ob,rfl,rfl,rfl⟩ (ZF 3 (Ya fl)) ?_)))
  rintro m F h ⟨j,Z55,rfl,rfl,rfl⟩
  refine Yi 3 [0] (iw (Uf x1.kids) (Y9 ((j:Int)<(x1.kids.length:Int)) (fun Xh=>?_) (fun Xh=>?_)))
  ·refine ak (aq (ab 5 (aD 8 (ZI 4 8 [0,1,2,3] [2,0] ?_))))
   obtain ⟨x3,YL⟩:=Zt x1.kids j om
   have hkx:=Ie (Y4 YL)
   have hfk:=Gd hfs.kids YL
   refine dx 4 (Zm none (j:Int) 2 (T3 YL)) (Zj 1 3 [5,6] (Z9 7 (dc 7 [] [] [] (ih x3 t (QE n.decls x1.op x1.num (mq+Xq (b.steps.take k)) (0+j)) hfk ob ob) ?_)))
   rintro _ _ ⟨wr1,rfl,rfl⟩
   refine de (ac wr1 Iff.rfl (fun Xn=>?_) (fun Xn=>?_))
   ·exact ar (Zp (r1 [] ⟨true,rfl,rfl⟩))
   exact ak (az (Z1 1 (ZJ j (Z0 (ZK ⟨j+1,ob,rfl,rfl,rfl⟩ (ZF 3 (ZO j fl)))))))
  exact ax 4 (az (Z1 1 (ZJ k (Z0 (ZK ⟨k+1,ob,rfl,rfl,rfl⟩ (wk [1,1] (ZO k fl)))))))
 exact ax 0 (ar (Zp (r1 [] ⟨false,rfl,rfl⟩)))
theorem Z90 (n:Zl) (b:Z7) (t:Int) (mq:Nat) (hn:X3 n:=by exact ob) (hf:fB n.decls n.routines.length mq b:=by exact ob) (hz:b.sz<=1000000:=by exact ob):Zi 190 [Yr n,ZZ b,.i t] [] (fun r h=>∃(wr:Bool),r=.b wr/\h=[]):=by
 have key:∀k:Nat,∀(b2:Z7) (t:Int) (m2:Nat),(fB n.decls n.routines.length m2 b2)->(b2.sz<=1000000)->(b2.sz<k)->Zi 190 [Yr n,ZZ b2,.i t] [] (fun r h=>∃(wr:Bool),r=.b wr/\h=[]):=by
  intro k
  induction k with
  | zero=>intro b2 t m2 h1 h2 h3;omega
  | succ k ih=>intro b2 t m2 h1 h2 h3;exact Z91 n b2 t m2 hn h1 h2 fun b3 t3 m3 q1 q2 q3=>ih b3 t3 m3 q1 q2 om
 exact key (b.sz+1) b t mq hf hz om
theorem Z9i (n:Zl) (rt:Yb) (i:Nat) (qz:Nat) (hn:FN n qz:=by exact ob) (hqz:qz<=100000:=by exact ob) (hr:n.routines[i]? = some rt:=by exact ob):Zi 137 [Yr n,.i i] [] (fun r h=>∃(xs:LI),r=Z4 xs/\h=[]/\xs.length<=rt.lent.length/\∀v∈xs,v∈rt.lent):=by
 have hok:=FN.ok hn
 have hrl:=hn.lent rt (Y4 hr)
 have hrb:=hn.body rt (Y4 hr)
 obtain ⟨hil,_⟩:=Xs.1 hr
 have hnl:=hn.len
 refine ZE 50 Tryz.func137 (ar (iA (YV n) fun b1=>Z0 (ar (iL (Z8 []) 0 1 fun v1=>?_))))
 refine Z0 (Yo (ab 0 (Y3 (fun fz gz m F h=>∃(k:Nat) (ys:LI) (u:Value),(k<=rt.lent.length)/\(ys.length<=k)/\(∀v∈ys,v∈rt.lent)/\F=sF [1,2] fz [(5,ZQ ys u),(6,.i k)]/\h=[Ze gz 1,.tail u 1]/\m=rt.lent.length-k) _ _ _ ⟨0,[],v1,ob,ob,(fun v hv=>by cases hv),rfl,rfl,rfl⟩ (wk [1,0] (fr (Ya fl))) ?_)))
 rintro m F h ⟨k,ys,u,Ye,Zk,Zx,rfl,rfl,rfl⟩
 refine Yi 4 [0] (Zq (Zm none (i:Int) 5 (WW hr)) (Z1 2 (iw (Yc rt.lent) (Y9 ((k:Int)<(rt.lent.length:Int)) (fun Za=>?_) (fun Za=>?_)))))
 ·refine ak (aq (ab 1 (aD 18 (ZI 14 18 [0,1,2,3] [0,0] (dx 4 (Zm none (i:Int) 5 (WW hr)) (ZI 8 13 [5,6,7,8,9] [0] (dx 10 (Zm none (i:Int) 5 (WW hr)) (Zj 4 7 [11,12,13] ?_))))))))
  obtain ⟨x1,Z3⟩:=Zt rt.lent k om
  refine dx 14 (Zm none (k:Int) 1 (Y2 Z3)) (Zj 2 3 [15] (Z9 16 (dc 16 [] [] [] (Z90 n rt.body x1 rt.params.length (hn:=hok) (hf:=hrb.1)) ?_)))
  rintro _ _ ⟨wr1,rfl,rfl⟩
  refine Zj 0 1 [17] (de (ac (!wr1) (p:=¬(wr1=true)) (Ym Iff.rfl) (fun Zg=>?_) (fun Zg=>?_)))
  ·exact az (ZL 4 [0] (Zq (Zm none (i:Int) 5 (WW hr)) (Z1 3 (Zq (Zm none (k:Int) 1 (Y2 Z3)) (Z1 1 (iL (Z8 [x1]) 1 1 fun v2=>ZT 0 [(47,Z4 [x1])] (ip 2 (Z8 (ys++[x1])) (Z8 ys) (Z8 [x1]) u none 1 (YK _) (YK _) (WA _) (by simp<;>omega) (by simp [Wz,Z8]) fun v3=>Z0 (az (Z1 1 (ZJ k (Z0 (ZK ⟨k+1,(ys++[x1]),v3,ob,ob,(XW Zx (Y4 Z3)),rfl,rfl,rfl⟩ (wk [2,0] (fr (ZO k fl)))))))))))))))
  exact ak (az (Z1 1 (ZJ k (Z0 (ZK ⟨k+1,ys,u,ob,ob,ob,rfl,rfl,rfl⟩ (wk [0,0] (fr (ZO k fl))))))))
 exact ax 0 (ar (Zp (r2 [] [ZQ ys u] ⟨ys,rfl,rfl,⟨by omega,Zx⟩⟩ (Zc.forget _ _))))
theorem Zik (s:Z5) (ih:∀(b2:Z7),(b2.sz<s.sz)->(b2.sz<=1000000000)->Zi 156 [ZZ b2] [] (Yl (ZZ b2))) (hz:s.sz<=1000000000):Zi 211 [YD s] [] (Yl (YD s)):=by
 have hkz:=Ts s
 have haz:=QK s
 refine ZE 33 Tryz.func211 (ar (iA (Xz s) fun b1=>iA [.i 0,.i 0,.i 0,nl,nl] fun b2=>ie (ar (iL (YR []) 0 2 fun v1=>?_))))
 refine Z0 (Yo (ab 0 (Y3 (fun fz gz m F h=>∃(k:Nat) (v:Value),(k<=s.kids.length)/\F=sF [1,2] fz [(3,Q4 (s.kids.take k) v),(4,.i k)]/\h=[Ze gz 1,Ze gz 2,.tail v 2]/\m=s.kids.length-k) _ _ _ ⟨0,v1,ob,rfl,rfl,rfl⟩ (wk [1,1,0] (fc (x:=Q4 [] v1) (Zc.slh _ (Yu YR rfl)) (Ya fl))) ?_)))
 rintro m F h ⟨k,v,Ye,rfl,rfl,rfl⟩
 refine Yi 3 [1] (iw (Uf s.kids) (Y9 ((k:Int)<(s.kids.length:Int)) (fun Za=>?_) (fun Za=>?_)))
 ·refine ak (aq (ab 1 (az (ZL 4 [1] ?_))))
  obtain ⟨x1,Z3⟩:=Zt s.kids k om
  have hks:=Tq Z3
  exact Zq (Zm none (k:Int) 2 (T3 Z3)) (Z1 1 (Zw [] (ih x1 ob ob) (iL [ZZ x1] 1 2 fun v2=>ZT 0 [(20,.sl [ZZ x1] none)] (ip 3 (YR (s.kids.take (k+1))) (YR (s.kids.take k)) [ZZ x1] v none 2 (Kd _) (Ta rfl) rfl (by simp<;>omega) (by rw [V4 Z3];simp [TW]) fun v3=>Z0 (az (Z1 1 (ZJ k (Z0 (ZK ⟨k+1,v3,ob,rfl,rfl,rfl⟩ (wk [2,2,0] (fr (ZO k fl))))))))))))
 refine ax 0 (aD 12 (ZI 3 12 [0,1,2,3,4,5,6,7,9] [1,1,1,1] (Z9 8 (dc 8 [] [1,1,1] [b1,b1,b1] (Tc s.args) ?_))))
 rintro _ _ ⟨v4,rfl,rfl⟩
 exact Zj 1 2 [10] (Z9 11 (YM 11 1 [] [] b2 [.i s.op,.i s.num,.i s.into,ZQ s.args v4,Q4 (s.kids.take k) v] (de (ZB (r3 [] [.agg [.i s.op,.i s.num,.i s.into,ZQ s.args v4,Q4 (s.kids.take k) v]] [0] [(b2,b2)] ⟨rfl,rfl⟩ (Zc.agg (.cons (lr _) (.cons (lr _) (.cons (lr _) (.cons (Zc.forget _ _) (.cons (Zc.sl _ (Yu YR (by rw [Vx om]))) .nil)))))))))))
theorem Zii (b:Z7) (ih:∀(s2:Z5),(s2.sz<b.sz)->(s2.sz<=1000000000)->Zi 211 [YD s2] [] (Yl (YD s2))) (hz:b.sz<=1000000000):Zi 156 [ZZ b] [] (Yl (ZZ b)):=by
 have hbz:=Td b
 refine ZE 28 Tryz.func156 (ar (iA (Xu b) fun b1=>iA [nl,.i 0] fun b2=>ie (ar (iL (ZG []) 0 5 fun v1=>ZL 3 [2] (iA [nl,.i 0] fun b3=>?_)))))
 refine ZA 0 b3 [X9 [] v1,.i b.result] (ie (Yo (ab 0 (Y3 (fun fz gz m F h=>∃(k:Nat) (v:Value),(k<=b.steps.length)/\F=sF [1,2,3] fz [(4,.i k)]/\h=[.obj b3 [X9 (b.steps.take k) v,.i b.result],Ze gz 2,Ze gz 3,.tail v 5]/\m=b.steps.length-k) _ _ _ ⟨0,v1,ob,rfl,rfl,rfl⟩ (wk [0,1,1,0] (Ya fl)) ?_))))
 rintro m F h ⟨k,v,Ye,rfl,rfl,rfl⟩
 refine Yi 3 [2] (iw (VU b.steps) (Y9 ((k:Int)<(b.steps.length:Int)) (fun Za=>?_) (fun Za=>?_)))
 ·refine ak (aq (ab 1 (aE 12 (ZI 7 12 [0,1,2,3,4] [0,2] ?_))))
  obtain ⟨x1,Z3⟩:=Zt b.steps k om
  have hss:=JK Z3
  exact dx 5 (Zm none (k:Int) 5 (VP Z3)) (Zj 5 6 [6] (Z9 7 (Yz 7 [] [0] [b3] (ih x1 ob ob) (Z9 8 (dL 8 [0] [b3] [YD x1] 1 5 fun v2=>YA 3 3 [] [(24,.sl [YD x1] none)] (Z9 9 (dp 9 4 [] [] (ZG (b.steps.take (k+1))) (ZG (b.steps.take k)) [YD x1] v none 5 (Xw _) (Ta rfl) rfl (by simp<;>omega) (by rw [V4 Z3];simp [VH]) fun v3=>Zj 1 2 [10] (Z9 11 (YM 11 2 [] [] b3 [X9 (b.steps.take (k+1)) v3,.i b.result] (de (az (Z1 1 (ZJ k (Z0 (ZK ⟨k+1,v3,ob,rfl,rfl,rfl⟩ (wk [0,2,2,0] (ZO k fl)))))))))))))))))
 exact ax 0 (Zv 1 [0] (ZA 1 b2 [X9 (b.steps.take k) v,.i b.result] (ie (ZB (r3 [] [.agg [X9 (b.steps.take k) v,.i b.result]] [0] [(b2,b2)] ⟨rfl,rfl⟩ (Zc.agg (.cons (Zc.sl _ (Yu ZG (by rw [Vx om]))) (.cons (lr _) .nil))))))))
theorem Z1g (k:Nat):(∀(s:Z5),(s.sz<=k)->(s.sz<=1000000000)->Zi 211 [YD s] [] (Yl (YD s)))/\(∀(b:Z7),(b.sz<=k)->(b.sz<=1000000000)->Zi 156 [ZZ b] [] (Yl (ZZ b))):=by
 induction k with
 | zero=>exact ⟨fun s h=>by have:=s.sz_pos;omega,fun s h=>by have:=s.sz_pos;omega⟩
 | succ k ih=>exact ⟨fun s h hz=>Zik s (fun b2 h2 h3=>ih.2 b2 om h3) hz,fun b h hz=>Zii b (fun s2 h2 h3=>ih.1 s2 om h3) hz⟩
theorem Zij (s:Z5) (hz:s.sz<=1000000000:=by exact ob):Zi 211 [YD s] [] (Yl (YD s)):=(Z1g s.sz).1 s (X6 _) hz
theorem Hu (b:Z7) (hz:b.sz<=1000000000:=by exact ob):Zi 156 [ZZ b] [] (Yl (ZZ b)):=(Z1g b.sz).2 b (X6 _) hz
theorem Gt (n:Zl) (ls:List LI) (qz:Nat) (hn:FO n qz WZ:=by exact ob) (hqz:qz<=100000:=by exact ob) (hls:LC n n.routines.length ls:=by exact ob):Zi 135 [Yr n,KH ls] [] (fun r h=>∃(n2:Zl),r=Yr n2/\h=[]/\FO n2 qz WZ/\n2.routines.length=n.routines.length):=by
 have hnl:=hn.fn.len
 have XC:=hn.fn.decls.ok
 have hll:=hls.len
 refine ZE 45 Tryz.func135 (ar (iA (YV n) fun b1=>iA [nl,nl] fun b2=>ie (Zv 2 [1] (Zw [] (Fd n.decls) (iL (YX []) 0 5 fun v1=>Z1 1 (iA [nl,nl] fun b3=>?_))))))
 refine ZA 0 b3 [ZM n.decls,VD [] v1] (ie (Yo (ab 0 (Y3 (fun fz gz m F h=>∃(k:Nat) (rs:List Yb) (u:Value),(k<=n.routines.length)/\(rs.length=k)/\(∀r∈rs,RF n.decls n.routines.length qz WZ r)/\F=sF [1,2,4,5] fz [(6,.i k)]/\h=[.obj b3 [ZM n.decls,VD rs u],Ze gz 2,Ze gz 3,.tail u 5]/\m=n.routines.length-k) _ _ _ ⟨0,[],v1,ob,ob,(fun r hr=>by cases hr),rfl,rfl,rfl⟩ (wk [0,1,1,0] (Ya fl)) ?_))))
 rintro m F h ⟨k,rs,u,Ye,Zk,Zx,rfl,rfl,rfl⟩
 refine Yi 3 [2] (iw (Ug n.routines) (Y9 ((k:Int)<(n.routines.length:Int)) (fun Za=>?_) (fun Za=>?_)))
 ·refine ak (aq (ab 1 (Zv 3 [2] ?_)))
  obtain ⟨x1,Z3⟩:=Zt n.routines k om
  have hrf:=hn.rf (Y4 Z3)
  have hrp:=hn.fn.ok.params_at Z3
  have hrz:=hrf.body.2
  refine Zq (Zm none (k:Int) 5 (WW Z3)) (Z1 1 (iA [nl,nl,.i 0,nl,.i 0] fun b4=>ZA 0 b4 (Tt x1) (ie (aE 20 (ZI 14 20 [0,1,2,3,5,6] [1,0] ?_)))))
  obtain ⟨x2,Zs⟩:=Zt ls k om
  have hlc:=hls.at Zs Z3
  refine dx 7 (Zm none (k:Int) 1 (An Zs)) (ZI 8 13 [8,10,11,12,13] [0,0] (Z9 4 (dc 4 [] [0,0,1] [b4,b4,b3] (Tc x1.params) ?_)))
  rintro _ _ ⟨v2,rfl,rfl⟩
  refine Z9 9 (dc 9 [] [0,0,1] [b4,b4,b3] (Tc x2) ?_)
  rintro _ _ ⟨v3,rfl,rfl⟩
  exact Z9 14 (Yz 14 [] [0,1] [b4,b3] (Hu x1.body) (YA 4 5 [15] [(40,.agg [Z4 x1.params,Z4 x2,.i x1.result,Vl x1.body.steps,.i x1.body.result])] (Z9 16 (dL 16 [1] [b3] (YX [Yb.mk x1.params x2 x1.result (Z7.mk x1.body.steps x1.body.result)]) 1 5 fun v4=>YA 3 3 [] [(41,Kh [Yb.mk x1.params x2 x1.result (Z7.mk x1.body.steps x1.body.result)])] (Z9 17 (dp 17 7 [] [] (YX (rs++[Yb.mk x1.params x2 x1.result (Z7.mk x1.body.steps x1.body.result)])) (YX rs) (YX [Yb.mk x1.params x2 x1.result (Z7.mk x1.body.steps x1.body.result)]) u none 5 (TX _) (TX _) (Cq _) (by simp<;>omega) (by simp [Cp,YX]) fun v5=>Zj 1 2 [18] (Z9 19 (YM 19 5 [] [] b3 [ZM n.decls,VD (rs++[Yb.mk x1.params x2 x1.result (Z7.mk x1.body.steps x1.body.result)]) v5] (de (az (Z1 1 (ZJ k (Z0 (ZK ⟨k+1,(rs++[Yb.mk x1.params x2 x1.result (Z7.mk x1.body.steps x1.body.result)]),v5,ob,ob,(XW Zx (by rw [Z7.eta];exact hrf.lend hlc.1 hlc.2)),rfl,rfl,rfl⟩ (wk [0,5,5,0] (ZO k fl))))))))))))))))
 exact ax 0 (Zv 1 [0] (ZA 1 b2 [ZM n.decls,VD rs u] (ie (ZB (r3 [] [.agg [ZM n.decls,VD rs u]] [0] [(b2,b2)] ⟨(Zl.mk n.decls rs),rfl,rfl,(FO.fin hn.fn om Zx)⟩ (Zc.agg (.cons (lr _) (.cons (Zc.forget _ _) .nil))))))))
theorem Z9q (n:Zl) (qz:Nat) (hn:FO n qz WZ:=by exact ob) (hqz:qz<=100000:=by exact ob):Zi 78 [Yr n] [] (fun r h=>∃(n2:Zl),r=Yr n2/\h=[]/\FO n2 qz WZ):=by
 refine ZE 33 Tryz.func78 (ar (iA (YV n) fun b1=>iA [nl,nl] fun b2=>?_))
 refine ie (aD 6 (ZI 4 6 [0,1] [1,1] (Jq (fun fz gz F h=>∃(n21:Zl) (b3:Nat) (xs1:List LI),(LC n n.routines.length xs1)/\(FO n21 qz WZ/\n21.routines.length=n.routines.length)/\F=sF [2] fz [(3,.p b3 0)]/\h=[.obj b3 (YV n21),Ze gz 0,Ze gz 1]) ?_ ?_)))
 ·refine VN 2 4 ?_ ?_
  ·refine dc 2 [] [1] [b1] (Pf n qz (hn:=hn.fn)) ?_
   rintro _ _ ⟨xs1,rfl,rfl,ZY⟩
   refine VN 3 4 ?_ ?_
   ·refine dc 3 [] [] [] (Gt n xs1 qz (hls:=(by first|assumption|(rw [<-hjl];exact Wa)))) ?_
    rintro _ _ ⟨n21,rfl,rfl,Yf⟩
    have hwl:=Yf
    exact Z9 4 (dA 4 [] [] [nl,nl] fun b3=>Z9 5 (YM 5 0 [] [] b3 (YV n21) (de (ZU ⟨_,b3,_,(by assumption),(by assumption),rfl,rfl⟩ (ZF 3 fl)))))
   refine dA 4 [1] [b1] [nl,nl] fun b4=>Z9 3 (dc 3 [] [] [] (Gt n xs1 qz (hls:=(by first|assumption|(rw [<-hjl];exact Wa)))) ?_)
   rintro _ _ ⟨n22,rfl,rfl,YJ⟩
   have hwl:=YJ
   exact Z9 5 (YM 5 0 [] [] b4 (YV n22) (de (ZU ⟨_,b4,_,(by assumption),(by assumption),rfl,rfl⟩ (ZF 3 fl))))
  refine dA 4 [1,1] [b1,b1] [nl,nl] fun b5=>Z9 2 (dc 2 [] [2] [b1] (Pf n qz (hn:=hn.fn)) ?_)
  rintro _ _ ⟨xs2,rfl,rfl,YT⟩
  refine Z9 3 (dc 3 [] [] [] (Gt n xs2 qz (hls:=(by first|assumption|(rw [<-hjl];exact Wa)))) ?_)
  rintro _ _ ⟨n23,rfl,rfl,Xk⟩
  have hwl:=Xk
  exact Z9 5 (YM 5 0 [] [] b5 (YV n23) (de (ZU ⟨_,b5,_,(by assumption),(by assumption),rfl,rfl⟩ (ZF 3 fl))))
 rintro F h ⟨n21,b3,xs1,ZY,Yf,rfl,rfl⟩
 have hwl:=Yf
 refine Yo (ab 0 (Y3 (fun fz gz m F h=>∃(k:Nat) (nn:Zl),(k<=13)/\(FO nn qz WZ)/\F=sF [2,3] fz [(4,.i k)]/\h=[.obj b3 (YV nn),Ze gz 1]/\m=13-k) _ _ _ ⟨0,n21,ob,hwl.1,rfl,rfl,rfl⟩ (wk [0,0] (Ya fl)) ?_))
 rintro m F h ⟨k,nn,Ye,Zk,rfl,rfl,rfl⟩
 refine Xa (Y9 ((k:Int)<=12) (fun Za=>?_) (fun Za=>?_))
 ·refine ak (aq (ab 1 (ar (iL (Wt []) 0 1 fun v1=>?_))))
  refine Z0 (Yo (ab 2 (Y3 (fun fz gz m F h=>∃(j:Nat) (ls:List LI) (u:Value),(j<=nn.routines.length)/\(LC nn j ls)/\(ls.length=j)/\F=sF [2,3,4] fz [(5,BL ls u),(6,.i j)]/\h=[Ze gz 1,Ze gz 2,.tail u 1]/\m=nn.routines.length-j) _ _ _ ⟨0,[],v1,ob,LC.nil,ob,rfl,rfl,rfl⟩ (wk [1,1,0] (fr (Ya fl))) ?_)))
  rintro m F h ⟨j,ls,u,Um,Wa,W6,rfl,rfl,rfl⟩
  refine Yi 3 [0] (iw (Ug nn.routines) (Y9 ((j:Int)<(nn.routines.length:Int)) (fun Zg=>?_) (fun Zg=>?_)))
  ·obtain ⟨rt,hrt⟩:=Zt nn.routines j om
   have hrl:=(Zk.rf (Y4 hrt)).lent
   have hnl4:=Zk.fn.len
   refine ak (aq (ab 3 (az (ZL 3 [0] (ic [] (Z9i nn rt j qz (hn:=Zk.fn) (hr:=hrt)) ?_)))))
   rintro _ _ ⟨xs3,rfl,rfl,W4⟩
   have hkl:=W4
   exact iL (Wt [xs3]) 1 1 fun v2=>ZT 0 [(27,KH [xs3])] (ip 3 (Wt (ls++[xs3])) (Wt ls) (Wt [xs3]) u none 1 (BB _) (BB _) (G6 _) (by simp<;>omega) (by simp [IL,Wt]) fun v3=>Z0 (az (Z1 1 (ZJ j (Z0 (ZK ⟨j+1,(ls++[xs3]),v3,ob,(Wa.snoc om (fun r hr v hv=>by rw [hrt] at hr;cases hr;exact hrl.2 v (hkl.2 v hv))),ob,rfl,rfl,rfl⟩ (wk [2,2,0] (fr (ZO j fl)))))))))
  have hjl:j=nn.routines.length:=by omega
  refine ax 2 (az (K6 2 [(30,KH ls)] [0] (ic [] (Gt nn ls qz (hls:=(by first|assumption|(rw [<-hjl];exact Wa)))) ?_)))
  rintro _ _ ⟨n24,rfl,rfl,WB⟩
  have hwl:=WB
  exact ZA 0 b3 (YV n24) (ie (az (Z1 1 (ZJ k (Z0 (ZK ⟨k+1,n24,ob,hwl.1,rfl,rfl,rfl⟩ (wk [0,0] (ZO k fl))))))))
 exact ax 0 (Zv 1 [0] (ZA 1 b2 (YV nn) (ie (ZB (r3 [] [Yr nn] [0] [(b2,b2)] ⟨nn,rfl,rfl,(by first|exact Zk|exact hwl.1)⟩ (lr _))))))
theorem Gr (xs:LI) (y:Int) (hl:xs.length<=1000000000:=by exact ob):Zi 220 [Z4 xs,.i y] [] (fun r h=>∃(v:Value),r=ZQ (TO xs y) v/\h=[.tail v 1]):=by
 refine ZE 49 Tryz.func220 (Zy (ar (iL (Z8 []) 0 1 fun v1=>?_)))
 refine Z0 (Zy (Yo (ab 0 (Y3 (fun fz gz m F h=>∃(k:Nat) (acc:LI) (d:Bool) (v:Value),(k<=xs.length)/\(acc.length<=k+(if d=true then 1 else 0))/\(acc++QY d (xs.drop k) y=TO xs y)/\F=sF [0,1] fz [(5,ZQ acc v),(6,.b d),(7,.i k)]/\h=[.tail v 1]/\m=xs.length-k) _ _ _ ⟨0,[],false,v1,ob,(by simp),rfl,rfl,rfl,rfl⟩ (wk [0] (fw (Ya fl))) ?_))))
 rintro m F h ⟨k,acc,d,v,Ye,Zk,Zx,rfl,rfl,rfl⟩
 refine YP 2 (iw (Yc xs) (Y9 ((k:Int)<(xs.length:Int)) (fun Za=>?_) (fun Za=>?_)))
 ·obtain ⟨x1,Z3⟩:=Zt xs k om
  have hil:acc.length<=k+1:=VL Zk (by split<;>omega)
  refine ak (aq (ab 1 (Xa (Xx [0,1,5,6,7] [(24,.b ((!d)&&(decide (x1>=y))))] (fun gz=>gz) ?_ ?_))))
  ·refine Z1 3 (ib (b:=(!d)) 17 (fun Zb=>?_) (fun Zb=>?_))
   ·exact Z1 2 (Zq (Zm none (k:Int) 1 (Y2 Z3)) (Z0 (wk [0] (Zu (decide (x1>=y)) Zb fl))))
   exact Z0 (wk [0] (Zu false Zb fl))
  refine Wm (fun fz gz F h=>∃(acc2:LI) (d2:Bool) (w:Value),((acc2=acc/\d2=d/\(d=true∨¬x1>=y))∨(acc2=acc++[y]/\d2=true/\¬d=true/\x1>y)∨(acc2=acc/\d2=true/\¬d=true/\x1=y))/\(acc2.length<=k+(if d2=true then 1 else 0))/\(acc2.length<=k+1)/\F=sF [0,1,7] fz [(5,ZQ acc2 w),(6,.b d2)]/\h=[.tail w 1]) ?_ ?_
  ·refine ac ((!d)&&(decide (x1>=y))) (p:=(¬(d=true))/\(x1>=y)) (YG (Ym Iff.rfl) dq) (fun Zg=>?_) (fun Zg=>?_)
   ·refine YP 2 (Zq (Zm none (k:Int) 1 (Y2 Z3)) (Z0 (Wm (fun fz gz F h=>∃(w3:Value),F=sF [0,1,7] fz [(5,ZQ (if x1>y then (acc++[y]) else acc) w3)]/\h=[.tail w3 1]) ?_ ?_)))
    ·refine XF (x1>y) (fun ZH=>?_) (fun ZH=>?_)
     ·exact az (Z1 2 (iL (Z8 [y]) 1 1 fun v2=>ZT 0 [(33,Z4 [y])] (ip 1 (Z8 (acc++[y])) (Z8 acc) (Z8 [y]) v none 1 (YK _) (YK _) (WA _) (by simp<;>omega) (by simp [Wz,Z8]) fun v3=>Z0 (ZU ⟨v3,rfl,rfl⟩ (wk [0] (fc (x:=ZQ (acc++[y]) v3) (Zc.slh _ (Yu Z8 (by first|rfl|(rw [Zd ZH])|(rw [Z6 ZH])|(simp [ZH];done)|(rw [XM];simp [ZH];done)|omega))) fl))))))
     exact ak (ZU ⟨v,rfl,rfl⟩ (wk [0] (fc (x:=ZQ acc v) (Zc.slh _ (Yu Z8 (by first|rfl|(rw [Zd ZH])|(rw [Z6 ZH])|(simp [ZH];done)|(rw [XM];simp [ZH];done)|omega))) fl)))
    rintro F h ⟨w3,rfl,rfl⟩
    exact T6 (ZU ⟨(if x1>y then (acc++[y]) else acc),true,w3,(if h:x1>y then (by rw [Zd h];exact .inr (.inl ⟨rfl,rfl,Zg.1,h⟩)) else (by rw [Z6 h];exact .inr (.inr ⟨rfl,rfl,Zg.1,by have:=Zg.2;omega⟩))),(by have h1:=Zk;rw [Z6 Zg.1] at h1;split<;>(simp<;>omega)),(by have h1:=Zk;rw [Z6 Zg.1] at h1;split<;>(simp<;>omega)),rfl,rfl⟩ (wk [0] fl))
   exact ak (ZU ⟨acc,d,v,(.inl ⟨rfl,rfl,by by_cases q:d=true;exact .inl q;exact .inr (fun z=>Zg ⟨q,z⟩)⟩),Zk,hil,rfl,rfl⟩ (wk [0] fl))
  rintro F h ⟨acc2,d2,w,KF,GS,Zlx,rfl,rfl⟩
  exact az (Z1 3 (Zq (Zm none (k:Int) 1 (Y2 Z3)) (Z1 1 (iL (Z8 [x1]) 1 1 fun v4=>ZT 0 [(40,Z4 [x1])] (ip 1 (Z8 (acc2++[x1])) (Z8 acc2) (Z8 [x1]) w none 1 (YK _) (YK _) (WA _) (by simp<;>omega) (by simp [Wz,Z8]) fun v5=>Z0 (az (Z1 1 (ZJ k (Z0 (ZK ⟨k+1,(acc2++[x1]),d2,v5,ob,(by simp only [Yq,X5,XP];omega),(Zcf Z3 Zx KF),rfl,rfl,rfl⟩ (wk [0] (fw (ZO k fl)))))))))))))
 have hil:acc.length<=k+1:=VL Zk (by split<;>omega)
 refine ax 0 (Yo (Wm (fun fz gz F h=>∃(w4:Value),F=sF [] fz [(5,ZQ (if d=true then acc else (acc++[y])) w4)]/\h=[.tail w4 1]) ?_ ?_))
 ·refine ac (!d) (p:=¬(d=true)) (Ym Iff.rfl) (fun Yj=>?_) (fun Yj=>?_)
  ·exact az (Z1 2 (iL (Z8 [y]) 1 1 fun v6=>ZT 0 [(46,Z4 [y])] (ip 1 (Z8 (acc++[y])) (Z8 acc) (Z8 [y]) v none 1 (YK _) (YK _) (WA _) (by simp<;>omega) (by simp [Wz,Z8]) fun v7=>Z0 (ZU ⟨v7,rfl,rfl⟩ (wk [0] (fc (x:=ZQ (acc++[y]) v7) (Zc.slh _ (Yu Z8 (by first|rfl|(rw [Zd Yj])|(rw [Z6 Yj])|(simp [Yj];done)|(rw [XM];simp [Yj];done)|omega))) fl))))))
  exact ak (ZU ⟨v,rfl,rfl⟩ (wk [0] (fc (x:=ZQ acc v) (Zc.slh _ (Yu Z8 (by first|rfl|(rw [Zd Yj])|(rw [Z6 Yj])|(simp [Yj];done)|(rw [XM];simp [Yj];done)|omega))) fl)))
 rintro F h ⟨w4,rfl,rfl⟩
 exact ar (Zp (r2 [0] [ZQ (if d=true then acc else (acc++[y])) w4] ⟨w4,rfl,rfl⟩ (Zc.slh _ (Yu Z8 (Zce om Zx)))))
theorem Pu (xs:LI) (y:Int) (hl:xs.length<=1000000000:=by exact ob):Zi 249 [Z4 xs,.i y] [] (fun r h=>∃(v:Value),r=ZQ (QC xs y) v/\h=[.tail v 1]):=by
 refine ZE 28 Tryz.func249 (Zy (ar (iL (Z8 []) 0 1 fun v1=>?_)))
 refine Z0 (Yo (ab 0 (Y3 (fun fz gz m F h=>∃(k:Nat) (acc:LI) (v:Value),(k<=xs.length)/\(acc.length<=k)/\(acc++QC (xs.drop k) y=QC xs y)/\F=sF [0,1] fz [(5,ZQ acc v),(6,.i k)]/\h=[.tail v 1]/\m=xs.length-k) _ _ _ ⟨0,[],v1,ob,ob,rfl,rfl,rfl,rfl⟩ (wk [0] (fr (Ya fl))) ?_)))
 rintro m F h ⟨k,acc,v,Ye,Zk,Zx,rfl,rfl,rfl⟩
 refine YP 2 (iw (Yc xs) (Y9 ((k:Int)<(xs.length:Int)) (fun Za=>?_) (fun Za=>?_)))
 ·refine ak (aq (ab 1 (Y1 2 ?_)))
  obtain ⟨x1,Z3⟩:=Zt xs k om
  refine Zq (Zm none (k:Int) 1 (Y2 Z3)) (Z0 (J3 (fun fz gz F h=>∃(w:Value),F=sF [0,1,6] fz [(5,ZQ (if x1≠y then (acc++[x1]) else acc) w)]/\h=[.tail w 1]) (fun _ _=>rfl) ?_ ?_))
  ·refine ac (x1 != y) Y6 (fun Zg=>?_) (fun Zg=>?_)
   ·exact az (Z1 3 (Zq (Zm none (k:Int) 1 (Y2 Z3)) (Z1 1 (iL (Z8 [x1]) 1 1 fun v2=>ZT 0 [(25,Z4 [x1])] (ip 1 (Z8 (acc++[x1])) (Z8 acc) (Z8 [x1]) v none 1 (YK _) (YK _) (WA _) (by simp<;>omega) (by simp [Wz,Z8]) fun v3=>Z0 (ZU ⟨v3,rfl,rfl⟩ (wk [0] (fc (x:=ZQ (acc++[x1]) v3) (Zc.slh _ (Yu Z8 (by first|rfl|(rw [Zd Zg])|(rw [Z6 Zg])|(simp [Zg];done)|(rw [XM];simp [Zg];done)|omega))) fl))))))))
   exact ak (ZU ⟨v,rfl,rfl⟩ (wk [0] (fc (x:=ZQ acc v) (Zc.slh _ (Yu Z8 (by first|rfl|(rw [Zd Zg])|(rw [Z6 Zg])|(simp [Zg];done)|(rw [XM];simp [Zg];done)|omega))) fl)))
  rintro F h ⟨w,rfl,rfl⟩
  exact az (Z1 1 (ZJ k (Z0 (ZK ⟨k+1,(if x1≠y then (acc++[x1]) else acc),w,ob,(by split<;>(try simp)<;>omega),(Zf8 Z3 Zx),rfl,rfl,rfl⟩ (wk [0] (fr (ZO k fl)))))))
 exact ax 0 (ar (Zp (r2 [0] [ZQ acc v] ⟨v,rfl,rfl⟩ (Zc.slh _ (Yu Z8 (Zf7 om Zx))))))
theorem Zib (s:Z5) (q:Int) (xs:LI) (ih:∀(b2:Z7) (q:Int) (k2:Nat) (xs2:LI),(b2.sz<s.sz)->(k2<=b2.steps.length)->(xs2.length+b2.sz<=1000000000)->Zi 243 [ZZ b2,.i q,.i k2,Z4 xs2] [] (Yl (Z4 (Te q (Tz q (b2.steps.drop k2) xs2) b2.result)))) (hz:xs.length+s.sz<=1000000000):Zi 278 [YD s,.i q,Z4 xs] [] (Yl (Z4 (A8 q s xs))):=by
 have hkz:=Ts s
 have haz:=QK s
 have hse:=s.sz_eq
 refine ZE 58 Tryz.func278 (ar (iA (Xz s) fun b1=>Z0 (Yi 2 [0] (Zw [] (Zio s.op) (ie (ac (YC s.op) Iff.rfl (fun Za=>?_) (fun Za=>?_)))))))
 ·exact ar (Zp (ZW (Z4 xs) (Zc.sl _ (Yu Z8 (by rw [Z2m,Zd (by assumption)])))))
 refine ak (Yo (ab 0 (Y3 (fun fz gz m F h=>∃(j:Nat) (ys:LI),(j<=s.args.length)/\(ys.length<=xs.length+j)/\(Kk q (s.args.drop j) ys=Kk q s.args xs)/\F=sF [1,3] fz [(2,Z4 ys),(7,.i j)]/\h=gz/\m=s.args.length-j) _ _ _ ⟨0,xs,ob,ob,rfl,rfl,rfl,rfl⟩ (wk [0] (fr (Ya fl))) ?_)))
 rintro m F h ⟨j,ys,Ye,Zk,Zx,rfl,rfl,rfl⟩
 refine Yi 3 [0] (iw (Yc s.args) (Y9 ((j:Int)<(s.args.length:Int)) (fun Zg=>?_) (fun Zg=>?_)))
 ·refine ak (aq (ab 1 (Zv 3 [0] ?_)))
  obtain ⟨x1,Z3⟩:=Zt s.args j om
  refine Zq (Zm none (j:Int) 1 (Y2 Z3)) (Xx [1,2,3,7] [(34,.b ((decide (x1>=0))&&(decide (x1<q))))] (fun gz=>gz) ?_ ?_)
  ·refine Z1 3 (ib (b:=(decide (x1>=0))) 26 (fun Zb=>?_) (fun Zb=>?_))
   ·exact ZL 3 [0] (Zq (Zm none (j:Int) 1 (Y2 Z3)) (Z0 (wk [0] (Zu (decide (x1<q)) Zb fl))))
   exact Z0 (wk [0] (Zu false Zb fl))
  refine J3 (fun fz gz F h=>F=sF [1,3,7] fz [(2,Z4 (Te q ys x1))]/\h=gz) (fun _ _=>rfl) ?_ ?_
  ·refine ac ((decide (x1>=0))&&(decide (x1<q))) (p:=(x1>=0)/\(x1<q)) (YG dq dq) (fun ZH=>?_) (fun ZH=>?_)
   ·refine az (ZL 4 [0] (Zq (Zm none (j:Int) 1 (Y2 Z3)) (Z1 1 (ic [] (Gr ys x1) ?_))))
    rintro _ _ ⟨v1,rfl,rfl⟩
    exact Z0 (ZU ⟨rfl,rfl⟩ (wk [1] (fc (x:=ZQ (TO ys x1) v1) (Zc.sl _ (Yu Z8 (by rw [Te,Zd (by assumption)]))) fl)))
   exact ak (ZU ⟨rfl,rfl⟩ (wk [0] (fc (x:=Z4 ys) (Zc.sl _ (Yu Z8 (by rw [Te,Z6 (by assumption)]))) fl)))
  rintro F h ⟨rfl,rfl⟩
  exact az (Z1 1 (ZJ j (Z0 (ZK ⟨j+1,(Te q ys x1),ob,(by have:=HF (n:=q) ys x1;omega),(Zko Z3 Zx),rfl,rfl,rfl⟩ (wk [0] (fr (ZO j fl)))))))
 have hA:Kk q s.args xs=ys:=(Zkn om Zx).symm
 refine ax 0 (Yo (ab 2 (Y3 (fun fz gz m F h=>∃(j:Nat) (zs:LI),(j<=s.kids.length)/\(zs.length<=xs.length+s.args.length+Xl (s.kids.take j))/\(JN q (s.kids.drop j) zs=JN q s.kids (Kk q s.args xs))/\F=sF [1,3] fz [(2,Z4 zs),(8,.i j)]/\h=gz/\m=s.kids.length-j) _ _ _ ⟨0,ys,ob,(by rw [List.take_zero,Xl];omega),(by rw [hA];rfl),rfl,rfl,rfl⟩ (wk [0] (fr (Ya fl))) ?_)))
 rintro m F h ⟨j,zs,Um,Wa,W6,rfl,rfl,rfl⟩
 refine Yi 3 [0] (iw (Uf s.kids) (Y9 ((j:Int)<(s.kids.length:Int)) (fun Yj=>?_) (fun Yj=>?_)))
 ·refine ak (aq (ab 3 (az (ZL 3 [0] ?_))))
  obtain ⟨x2,Zs⟩:=Zt s.kids j om
  have hks:=Tq Zs
  have hbt:=FM Zs
  have hbx:=If Zs
  have hul:=HE (n:=q) x2 zs
  exact Zq (Zm none (j:Int) 2 (T3 Zs)) (Z1 3 (Zw [] (ih x2 q 0 zs ob ob ob) (Z0 (az (Z1 1 (ZJ j (Z0 (ZK ⟨j+1,(Ty q x2 zs),ob,om,(Zkq Zs W6),rfl,rfl,rfl⟩ (wk [0] (fc (x:=Z4 (Te q (Tz q (x2.steps.drop 0) zs) x2.result)) (Zc.sl _ (Yu Z8 (by rw [Z2k];rfl))) (ZO j fl)))))))))))
 exact ax 2 (ar (Zp (ZW (Z4 zs) (Zc.sl _ (Yu Z8 (by rw [Z2m,Z6 (by assumption)];exact (Zkp om W6)))))))
theorem Zic (b:Z7) (q:Int) (k0:Nat) (xs:LI) (ih:∀(s2:Z5) (q:Int) (xs2:LI),(s2.sz<b.sz)->(xs2.length+s2.sz<=1000000000)->Zi 278 [YD s2,.i q,Z4 xs2] [] (Yl (Z4 (A8 q s2 xs2)))) (hk:k0<=b.steps.length) (hz:xs.length+b.sz<=1000000000):Zi 243 [ZZ b,.i q,.i k0,Z4 xs] [] (Yl (Z4 (Te q (Tz q (b.steps.drop k0) xs) b.result))):=by
 have hbz:=Td b
 have hbe:=b.sz_eq
 have hsd:=Z1r b.steps k0
 refine ZE 40 Tryz.func243 (ar (iA (Xu b) fun b1=>?_))
 refine Z0 (Yo (ab 0 (Y3 (fun fz gz m F h=>∃(k:Nat) (ys:LI),(k<=b.steps.length)/\(ys.length+Yk (b.steps.drop k)<=xs.length+Yk (b.steps.drop k0))/\(Tz q (b.steps.drop k) ys=Tz q (b.steps.drop k0) xs)/\F=sF [1,4] fz [(3,Z4 ys),(9,.i k)]/\h=gz/\m=b.steps.length-k) _ _ _ ⟨k0,xs,ob,(X6 _),rfl,rfl,rfl,rfl⟩ (wk [0] fl) ?_)))
 rintro m F h ⟨k,ys,Ye,Zk,Zx,rfl,rfl,rfl⟩
 refine Yi 3 [0] (iw (VU b.steps) (Y9 ((k:Int)<(b.steps.length:Int)) (fun Za=>?_) (fun Za=>?_)))
 ·refine ak (aq (ab 1 (az (ZL 3 [0] ?_))))
  obtain ⟨x1,Z3⟩:=Zt b.steps k om
  have hss:=JK Z3
  have hsd1:=Z1q Z3
  have hul:=Z2n (n:=q) x1 ys
  exact Zq (Zm none (k:Int) 5 (VP Z3)) (Z1 3 (Zw [] (ih x1 q ys ob ob) (Z0 (az (Z1 1 (ZJ k (Z0 (ZK ⟨k+1,(A8 q x1 ys),ob,ob,(Zks Z3 Zx),rfl,rfl,rfl⟩ (wk [0] (fr (ZO k fl)))))))))))
 refine ax 0 (Xa (Xx [3,4] [(34,.b ((decide (b.result>=0))&&(decide (b.result<q))))] (fun gz=>gz) ?_ ?_))
 ·refine ZL 4 [0] (ib (b:=(decide (b.result>=0))) 29 (fun Zb=>?_) (fun Zb=>?_))
  ·exact VY [0] (wk [0] (Zu (decide (b.result<q)) Zb fl))
  exact Z0 (wk [0] (Zu false Zb fl))
 refine Wm (fun fz gz F h=>F=sF [] fz [(3,Z4 (Te q ys b.result))]/\h=[]) ?_ ?_
 ·refine ac ((decide (b.result>=0))&&(decide (b.result<q))) (p:=(b.result>=0)/\(b.result<q)) (YG dq dq) (fun Zg=>?_) (fun Zg=>?_)
  ·refine az (ZL 3 [0] (ic [] (Gr ys b.result) ?_))
   rintro _ _ ⟨v1,rfl,rfl⟩
   exact Z0 (ZU ⟨rfl,rfl⟩ (wk [] (fc (x:=ZQ (TO ys b.result) v1) (Zc.sl _ (Yu Z8 (by rw [Te,Zd (by assumption)]))) fl)))
  exact ak (ZU ⟨rfl,rfl⟩ (wk [] (fc (x:=Z4 ys) (Zc.sl _ (Yu Z8 (by rw [Te,Z6 (by assumption)]))) fl)))
 rintro F h ⟨rfl,rfl⟩
 exact ar (Zp (ZW (Z4 (Te q ys b.result)) (Zc.sl _ (Yu Z8 (by rw [Zkr om Zx])))))
theorem Zj0 (k:Nat):(∀(s:Z5) (q:Int) (xs:LI),(s.sz<=k)->(xs.length+s.sz<=1000000000)->Zi 278 [YD s,.i q,Z4 xs] [] (Yl (Z4 (A8 q s xs))))/\(∀(b:Z7) (q:Int) (k0:Nat) (xs:LI),(b.sz<=k)->(k0<=b.steps.length)->(xs.length+b.sz<=1000000000)->Zi 243 [ZZ b,.i q,.i k0,Z4 xs] [] (Yl (Z4 (Te q (Tz q (b.steps.drop k0) xs) b.result)))):=by
 induction k with
 | zero=>exact ⟨fun s q xs h=>by have:=s.sz_pos;omega,fun b q k0 xs h=>by have:=b.sz_pos;omega⟩
 | succ k ih=>exact ⟨fun s q xs h hz=>Zib s q xs (fun b2 q k2 xs2 h2 hk h3=>ih.2 b2 q k2 xs2 om hk h3) hz,fun b q k0 xs h hk hz=>Zic b q k0 xs (fun s2 q xs2 h2 h3=>ih.1 s2 q xs2 om h3) hk hz⟩
theorem Z1a (b:Z7) (q:Int) (k0:Nat) (xs:LI) (hk:k0<=b.steps.length:=by exact ob) (hz:xs.length+b.sz<=1000000000:=by exact ob):Zi 243 [ZZ b,.i q,.i k0,Z4 xs] [] (Yl (Z4 (Te q (Tz q (b.steps.drop k0) xs) b.result))):=(Zj0 b.sz).2 b q k0 xs (X6 _) hk hz
theorem Z1m (b:Z7) (q:Int) (hz:b.sz<=100000000:=by exact ob):Zi 201 [ZZ b,.i q] [] (Yl (Z4 (Ty q b []))):=by
 exact ZE 9 Tryz.func201 (ar (iA (Xu b) fun b1=>Z0 (Zv 2 [0] (iL (Z8 []) 0 1 fun v1=>ZT 0 [(7,Z4 [])] (Zw [] (Z1a b q 0 [] (hk:=(Ac _))) (Zp (ZW (Z4 (Te q (Tz q (b.steps.drop 0) []) b.result)) (Zc.sl _ (Yu Z8 (by rw [Z2k];rfl))))))))))
theorem Zae (xs:LI) (ys:LI) (hz:xs.length+ys.length<=100000000:=by exact ob):Zi 244 [Z4 xs,Z4 ys] [] (fun r h=>∃(zs:LI),r=Z4 zs/\h=[]/\zs.length<=xs.length+ys.length):=by
 refine ZE 22 Tryz.func244 (Zy (Y1 1 (ic [] (Tc xs) ?_)))
 rintro _ _ ⟨v1,rfl,rfl⟩
 refine Z0 (Yo (ab 0 (Y3 (fun fz gz m F h=>∃(k:Nat) (zs:LI),(k<=ys.length)/\(zs.length<=xs.length+k)/\F=sF [1] fz [(5,Z4 zs),(6,.i k)]/\h=[]/\m=ys.length-k) _ _ _ ⟨0,xs,ob,ob,rfl,rfl,rfl⟩ (wk [] (fc (x:=ZQ xs v1) (Zc.forget _ _) (Ya fl))) ?_)))
 rintro m F h ⟨k,zs,Ye,Zk,rfl,rfl,rfl⟩
 refine YP 2 (iw (Yc ys) (Y9 ((k:Int)<(ys.length:Int)) (fun Za=>?_) (fun Za=>?_)))
 ·refine ak (aq (ab 1 (az (Z1 3 ?_))))
  obtain ⟨x1,Z3⟩:=Zt ys k om
  refine Zq (Zm none (k:Int) 1 (Y2 Z3)) (Z1 1 (ic [] (Gr zs x1) ?_))
  rintro _ _ ⟨v2,rfl,rfl⟩
  exact Z0 (az (Z1 1 (ZJ k (Z0 (ZK ⟨k+1,(TO zs x1),ob,(by have:=EC zs x1;omega),rfl,rfl,rfl⟩ (wk [] (fc (x:=ZQ (TO zs x1) v2) (Zc.forget _ _) (ZO k fl))))))))
 exact ax 0 (ar (Zp (r1 [] ⟨zs,rfl,rfl,ob⟩)))
theorem Ph (xs:LI) (ys:LI) (hz:xs.length<=100000000:=by exact ob) (hy:ys.length<=100000000:=by exact ob):Zi 281 [Z4 xs,Z4 ys] [] (fun r h=>∃(zs:LI) (v:Value),r=ZQ zs v/\h=[.tail v 1]/\zs.length<=xs.length/\∀z∈zs,z∈xs):=by
 refine ZE 28 Tryz.func281 (Zy (ar (iL (Z8 []) 0 1 fun v1=>?_)))
 refine Z0 (Yo (ab 0 (Y3 (fun fz gz m F h=>∃(k:Nat) (zs:LI) (u:Value),(k<=xs.length)/\(zs.length<=k)/\(∀z∈zs,z∈xs)/\F=sF [0,1] fz [(5,ZQ zs u),(6,.i k)]/\h=[.tail u 1]/\m=xs.length-k) _ _ _ ⟨0,[],v1,ob,ob,(fun z hz=>by cases hz),rfl,rfl,rfl⟩ (wk [0] (fr (Ya fl))) ?_)))
 rintro m F h ⟨k,zs,u,Ye,Zk,Zx,rfl,rfl,rfl⟩
 refine YP 2 (iw (Yc xs) (Y9 ((k:Int)<(xs.length:Int)) (fun Za=>?_) (fun Za=>?_)))
 ·refine ak (aq (ab 1 (Y1 3 ?_)))
  obtain ⟨x1,Z3⟩:=Zt xs k om
  refine Zq (Zm none (k:Int) 1 (Y2 Z3)) (Z1 1 (Zw [] (Tw ys x1) (ie (XF (x1∈ys) (fun Zg=>?_) (fun Zg=>?_)))))
  ·exact az (Z1 3 (Zq (Zm none (k:Int) 1 (Y2 Z3)) (Z1 1 (iL (Z8 [x1]) 1 1 fun v2=>ZT 0 [(25,Z4 [x1])] (ip 1 (Z8 (zs++[x1])) (Z8 zs) (Z8 [x1]) u none 1 (YK _) (YK _) (WA _) (by simp<;>omega) (by simp [Wz,Z8]) fun v3=>Z0 (az (Z1 1 (ZJ k (Z0 (ZK ⟨k+1,(zs++[x1]),v3,ob,ob,(by first|exact Zx|exact XW Zx (Y4 Z3)),rfl,rfl,rfl⟩ (wk [0] (fr (ZO k fl)))))))))))))
  exact ak (az (Z1 1 (ZJ k (Z0 (ZK ⟨k+1,zs,u,ob,ob,(by first|exact Zx|exact XW Zx (Y4 Z3)),rfl,rfl,rfl⟩ (wk [0] (fr (ZO k fl))))))))
 exact ax 0 (ar (Zp (r1 [0] ⟨zs,u,rfl,rfl,⟨by omega,Zx⟩⟩)))
theorem Le (xs:LI) (q:Int) (hz:xs.length<=100000000:=by exact ob):Zi 296 [Z4 xs,.i q] [] (fun r h=>∃(zs:LI) (v:Value),r=ZQ zs v/\h=[.tail v 1]/\zs.length<=xs.length/\∀z∈zs,z∈xs):=by
 refine ZE 28 Tryz.func296 (Zy (ar (iL (Z8 []) 0 1 fun v1=>?_)))
 refine Z0 (Yo (ab 0 (Y3 (fun fz gz m F h=>∃(k:Nat) (zs:LI) (u:Value),(k<=xs.length)/\(zs.length<=k)/\(∀z∈zs,z∈xs)/\F=sF [0,1] fz [(5,ZQ zs u),(6,.i k)]/\h=[.tail u 1]/\m=xs.length-k) _ _ _ ⟨0,[],v1,ob,ob,(fun z hz=>by cases hz),rfl,rfl,rfl⟩ (wk [0] (fr (Ya fl))) ?_)))
 rintro m F h ⟨k,zs,u,Ye,Zk,Zx,rfl,rfl,rfl⟩
 refine YP 2 (iw (Yc xs) (Y9 ((k:Int)<(xs.length:Int)) (fun Za=>?_) (fun Za=>?_)))
 ·refine ak (aq (ab 1 (Y1 2 ?_)))
  obtain ⟨x1,Z3⟩:=Zt xs k om
  refine Zq (Zm none (k:Int) 1 (Y2 Z3)) (Y9 (x1<q) (fun Zg=>?_) (fun Zg=>?_))
  ·exact az (Z1 3 (Zq (Zm none (k:Int) 1 (Y2 Z3)) (Z1 1 (iL (Z8 [x1]) 1 1 fun v2=>ZT 0 [(25,Z4 [x1])] (ip 1 (Z8 (zs++[x1])) (Z8 zs) (Z8 [x1]) u none 1 (YK _) (YK _) (WA _) (by simp<;>omega) (by simp [Wz,Z8]) fun v3=>Z0 (az (Z1 1 (ZJ k (Z0 (ZK ⟨k+1,(zs++[x1]),v3,ob,ob,(by first|exact Zx|exact XW Zx (Y4 Z3)),rfl,rfl,rfl⟩ (wk [0] (fr (ZO k fl)))))))))))))
  exact ak (az (Z1 1 (ZJ k (Z0 (ZK ⟨k+1,zs,u,ob,ob,(by first|exact Zx|exact XW Zx (Y4 Z3)),rfl,rfl,rfl⟩ (wk [0] (fr (ZO k fl))))))))
 exact ax 0 (ar (Zp (r1 [0] ⟨zs,u,rfl,rfl,⟨by omega,Zx⟩⟩)))
theorem Bb (op:Int) (v:Int) :Zi 90 [.i op,.i v] [] (Yl (YD (ZC op v))):=by
 exact ZE 10 Tryz.func90 (ar (iA [.i 0,.i 0,.i 0,nl,nl] fun b1=>ie (Y1 2 (iL (Z8 [v]) 1 1 fun v1=>iL (YR []) 0 2 fun v2=>Z1 1 (ZA 2 b1 [.i op,.i 0,.i 0,ZQ [v] v1,Q4 [] v2] (ie (ZB (r3 [] [.agg [.i op,.i 0,.i 0,ZQ [v] v1,Q4 [] v2]] [0] [(b1,b1)] ⟨rfl,rfl⟩ (Zc.agg (.cons li (.cons li (.cons li (.cons (Zc.sl _ (Yu Z8 rfl)) (.cons (Zc.sl _ (Yu YR rfl)) .nil))))))))))))))
theorem A5 (op:Int) (xs:LI) (hl:xs.length<=1000000000:=by exact ob):Zi 196 [.i op,Z4 xs] [] (fun r h=>∃(v:Value),r=X9 (xs.map (ZC op)) v/\h=[.tail v 5]):=by
 refine ZE 24 Tryz.func196 (Zy (ar (iL (ZG []) 0 5 fun v1=>?_)))
 refine Z0 (Yo (ab 0 (Y3 (fun fz gz m F h=>∃(k:Nat) (v:Value),(k<=xs.length)/\F=sF [0,1] fz [(5,X9 ((xs.take k).map (ZC op)) v),(6,.i k)]/\h=[.tail v 5]/\m=xs.length-k) _ _ _ ⟨0,v1,ob,rfl,rfl,rfl⟩ (wk [0] (fc (x:=X9 [] v1) (Zc.slh _ (Yu ZG rfl)) (Ya fl))) ?_)))
 rintro m F h ⟨k,v,Ye,rfl,rfl,rfl⟩
 refine YP 2 (iw (Yc xs) (Y9 ((k:Int)<(xs.length:Int)) (fun Za=>?_) (fun Za=>?_)))
 ·refine ak (aq (ab 1 (az (Z1 4 ?_))))
  obtain ⟨x1,Z3⟩:=Zt xs k om
  exact Zq (Zm none (k:Int) 1 (Y2 Z3)) (Z1 1 (Zw [] (Bb op x1) (iL [YD (ZC op x1)] 1 5 fun v2=>ZT 0 [(21,.sl [YD (ZC op x1)] none)] (ip 1 (ZG ((xs.take (k+1)).map (ZC op))) (ZG ((xs.take k).map (ZC op))) [YD (ZC op x1)] v none 5 (Xw _) (Ta rfl) rfl (by simp<;>omega) (by rw [V4 Z3];simp [VH]) fun v3=>Z0 (az (Z1 1 (ZJ k (Z0 (ZK ⟨k+1,v3,ob,rfl,rfl,rfl⟩ (wk [0] (fr (ZO k fl))))))))))))
 exact ax 0 (ar (Zp (r2 [0] [X9 ((xs.take k).map (ZC op)) v] ⟨v,rfl,rfl⟩ (Zc.slh _ (Yu ZG (by rw [Vx om]))))))
theorem Z9v (n:Zl) (s:Z5) (i:Nat) (mm:Nat) (hn:X3 n:=by exact ob) (hf:FS n.decls n.routines.length mm s:=by exact ob) (hi:i<s.args.length:=by exact ob):Zi 295 [Yr n,YD s,.i i] [] (fun r h=>∃(wr:Bool),r=.b wr/\h=[]):=by
 have hal:=hf.alen
 refine ZE 42 Tryz.func295 (ar (iA (YV n) fun b1=>iA (Xz s) fun b2=>?_))
 refine Z0 (Yo (ab 0 (Y3 (fun fz gz m F h=>∃(k:Nat),(k<=s.args.length)/\F=sF [2,3,4] fz [(7,.i k)]/\h=gz/\m=s.args.length-k) _ _ _ ⟨0,ob,rfl,rfl,rfl⟩ (wk [0,0] (Ya fl)) ?_)))
 rintro m F h ⟨k,Ye,rfl,rfl,rfl⟩
 refine Yi 3 [0] (iw (Yc s.args) (Y9 ((k:Int)<(s.args.length:Int)) (fun Za=>?_) (fun Za=>?_)))
 ·refine ak (aq (ab 1 (aD 27 (Zj 23 27 [0,1,2,3] (db (b:=((k:Int) != (i:Int))) 18 (fun Zb=>?_) (fun Zb=>?_))))))
  ·refine ZI 20 23 [4,5,6] [0] ?_
   obtain ⟨x1,Z3⟩:=Zt s.args k om
   refine dx 7 (Zm none (k:Int) 1 (Y2 Z3)) (ZI 15 19 [8,9,10,11] [0] ?_)
   obtain ⟨x2,Zs⟩:=Zt s.args i om
   refine dx 12 (Zm none (i:Int) 1 (Y2 Zs)) (Zj 10 14 [13,14,15,16] (db (b:=(x1==x2)) 31 (fun Zz=>?_) (fun Zz=>?_)))
   ·refine Zj 6 10 [17,18,19,20] (db (b:=(decide ((k:Int)>(i:Int)))) 35 (fun Yp=>?_) (fun Yp=>?_))
    ·exact Zj 0 6 [21,22,23,24,25,26] (de (Wg (ar (Zp (r1 [] ⟨true,rfl,rfl⟩)))))
    refine ZI 3 6 [21,22,23] [1,0] (Z9 24 (Yz 24 [] [] [] (Ff n s k (hnum:=hf.call)) (Zj 0 2 [25,26] (de (ac (WJ n s.op s.num k) Iff.rfl (fun Zg=>?_) (fun Zg=>?_))))))
    ·exact ar (Zp (r1 [] ⟨true,rfl,rfl⟩))
    exact ak (az (Z1 1 (ZJ k (Z0 (ZK ⟨k+1,ob,rfl,rfl,rfl⟩ (wk [0,0] (ZO k fl)))))))
   exact Zj 0 10 [17,18,19,20,21,22,23,24,25,26] (de (WF (ak (az (Z1 1 (ZJ k (Z0 (ZK ⟨k+1,ob,rfl,rfl,rfl⟩ (wk [0,0] (ZO k fl))))))))))
  exact Zj 0 23 [4,5,6,7,8,9,10,11,12,13,14,15,16,17,18,19,20,21,22,23,24,25,26] (de (WF (ak (az (Z1 1 (ZJ k (Z0 (ZK ⟨k+1,ob,rfl,rfl,rfl⟩ (wk [0,0] (ZO k fl))))))))))
 exact ax 0 (ar (Zp (r1 [] ⟨false,rfl,rfl⟩)))
theorem Pn (n:Zl) (s:Z5) (i:Nat) (mm:Nat) (os:LI) (ls:LI) (hn:X3 n:=by exact ob) (hf:FS n.decls n.routines.length mm s:=by exact ob) (hi:i<s.args.length:=by exact ob) (ho:os.length<=100000000:=by exact ob) (hl:ls.length<=100000000:=by exact ob):Zi 279 [Yr n,YD s,.i i,Z4 os,Z4 ls] [] (fun r h=>∃(wr:Bool),r=.b wr/\h=[]):=by
 refine ZE 34 Tryz.func279 (ar (iA (YV n) fun b1=>iA (Xz s) fun b2=>Z0 (Zv 4 [0] ?_)))
 obtain ⟨x1,Z3⟩:=Zt s.args i om
 refine Zq (Zm none (i:Int) 1 (Y2 Z3)) (Z1 1 (Zw [] (Tw ls x1) (Z1 1 (ib (b:=(decide (x1∈ls))) 18 (fun Zb=>?_) (fun Zb=>?_)))))
 ·exact Zp (r1 [] ⟨true,rfl,rfl⟩)
 refine ZL 4 [0] (Zq (Zm none (i:Int) 1 (Y2 Z3)) (Z1 1 (Zw [] (Tw os x1) (Z1 3 (ib (b:=(!(decide (x1∈os)))) 28 (fun Zz=>?_) (fun Zz=>?_))))))
 ·exact Zp (r1 [] ⟨true,rfl,rfl⟩)
 refine ZL 3 [1,0] (ic [] (Z9v n s i mm) ?_)
 rintro _ _ ⟨wr1,rfl,rfl⟩
 exact Zp (r1 [] ⟨wr1,rfl,rfl⟩)
theorem Z9a (n:Zl) (us:LI) (s:Z5) (os:LI) (ls:LI) (mm:Nat) (hn:X3 n:=by exact ob) (hf:FS n.decls n.routines.length mm s:=by exact ob) (hvl:us.length=mm:=by exact ob) (hm:mm<=100000000:=by exact ob) (ho:os.length<=100000000:=by exact ob) (hl:ls.length<=100000000:=by exact ob):Zi 245 [Yr n,Z4 us,YD s,Z4 os,Z4 ls] [] (fun r h=>∃(zs:LI),r=Z4 zs/\h=[]/\zs.length<=s.args.length/\∀z∈zs,z∈s.args):=by
 have hal:=hf.alen
 refine ZE 43 Tryz.func245 (ar (iA (YV n) fun b1=>iA (Xz s) fun b2=>Z0 (ar (iL (Z8 []) 0 1 fun v1=>?_))))
 refine Z0 (Yo (ab 0 (Y3 (fun fz gz m F h=>∃(k:Nat) (zs:LI) (u:Value),(k<=s.args.length)/\(zs.length<=k)/\(∀z∈zs,z∈s.args)/\F=sF [1,3,4,5,7] fz [(11,ZQ zs u),(12,.i k)]/\h=[Ze gz 1,Ze gz 2,.tail u 1]/\m=s.args.length-k) _ _ _ ⟨0,[],v1,ob,ob,(fun z hz=>by cases hz),rfl,rfl,rfl⟩ (wk [1,1,0] (fr (Ya fl))) ?_)))
 rintro m F h ⟨k,zs,u,Ye,Zk,Zx,rfl,rfl,rfl⟩
 refine Yi 3 [0] (iw (Yc s.args) (Y9 ((k:Int)<(s.args.length:Int)) (fun Za=>?_) (fun Za=>?_)))
 ·obtain ⟨a1,ha1⟩:=Zt s.args k om
  have har:=hf.args a1 (Y4 ha1)
  refine ak (aq (ab 1 (Zv 4 [1,0] (Zw [] (Hv n us s k a1 (hnum:=hf.call) (ha:=ha1)) (Z1 1 (ib (b:=TH n us s.op s.num a1 k) 26 (fun Zb=>?_) (fun Zb=>?_)))))))
  ·refine ZL 5 [1,0] (ic [] (Pn n s k mm os ls) ?_)
   rintro _ _ ⟨wr1,rfl,rfl⟩
   refine YE wr1 Iff.rfl (fun Zg=>?_) (fun Zg=>?_)
   ·exact az (ZL 4 [0] (Zq (Zm none (k:Int) 1 (Y2 ha1)) (Z1 1 (iL (Z8 [a1]) 1 1 fun v2=>ZT 0 [(40,Z4 [a1])] (ip 3 (Z8 (zs++[a1])) (Z8 zs) (Z8 [a1]) u none 1 (YK _) (YK _) (WA _) (by simp<;>omega) (by simp [Wz,Z8]) fun v3=>Z0 (az (Z1 1 (ZJ k (Z0 (ZK ⟨k+1,(zs++[a1]),v3,ob,ob,(by first|exact Zx|exact XW Zx (Y4 ha1)),rfl,rfl,rfl⟩ (wk [2,2,0] (fr (ZO k fl)))))))))))))
   exact ak (az (Z1 1 (ZJ k (Z0 (ZK ⟨k+1,zs,u,ob,ob,(by first|exact Zx|exact XW Zx (Y4 ha1)),rfl,rfl,rfl⟩ (ZF 3 (fr (ZO k fl))))))))
  exact Z0 (WF (ak (az (Z1 1 (ZJ k (Z0 (ZK ⟨k+1,zs,u,ob,ob,(by first|exact Zx|exact XW Zx (Y4 ha1)),rfl,rfl,rfl⟩ (ZF 3 (fr (ZO k fl))))))))))
 exact ax 0 (ar (Zp (r2 [] [ZQ zs u] ⟨zs,rfl,rfl,⟨by omega,Zx⟩⟩ (Zc.forget _ _))))
theorem Z9o (n:Zl) (us:LI) (s:Z5) (os:LI) (ls:LI) (mm:Nat) (hn:X3 n:=by exact ob) (hf:FS n.decls n.routines.length mm s:=by exact ob) (hvl:us.length=mm:=by exact ob) (hm:mm<=100000000:=by exact ob) (ho:os.length<=100000000:=by exact ob) (hl:ls.length<=100000000:=by exact ob):Zi 247 [Yr n,Z4 us,YD s,Z4 os,Z4 ls] [] (fun r h=>∃(zs:LI) (v:Value),r=ZQ zs v/\h=[.tail v 1]/\zs.length<=os.length/\∀z∈zs,z∈os):=by
 have hal:=hf.alen
 refine ZE 55 Tryz.func247 (ar (iA (YV n) fun b1=>iA (Xz s) fun b2=>Z0 (Yi 4 [0] (ib (b:=(s.op==7)) 16 (fun Zb=>?_) (fun Zb=>?_)))))
 ·refine Z0 (Wg (Y1 2 (ic [] (Ph os ls) ?_)))
  rintro _ _ ⟨zs1,v1,rfl,rfl,Yf⟩
  have hco:=Yf
  exact Zp (r1 [0] ⟨zs1,v1,rfl,rfl,(by first|exact hco|exact ⟨by omega,Zx⟩)⟩)
 refine VY [0] (ac (s.op==8) Zr (fun Za=>?_) (fun Za=>?_))
 ·refine Y1 2 (ic [] (Ph os ls) ?_)
  rintro _ _ ⟨zs2,v2,rfl,rfl,YT⟩
  have hco:=YT
  exact Zp (r1 [0] ⟨zs2,v2,rfl,rfl,(by first|exact hco|exact ⟨by omega,Zx⟩)⟩)
 refine ak (Y1 1 (ic [] (Tc os) ?_))
 rintro _ _ ⟨v3,rfl,rfl⟩
 refine Z0 (Yo (ab 0 (Y3 (fun fz gz m F h=>∃(k:Nat) (zs:LI) (u:Value),(k<=s.args.length)/\(zs.length<=os.length)/\(∀z∈zs,z∈os)/\F=sF [1,3,4,5,7] fz [(11,ZQ zs u),(12,.i k)]/\h=[Ze gz 1,Ze gz 2,.tail u 1]/\m=s.args.length-k) _ _ _ ⟨0,os,v3,ob,ob,(fun z hz=>hz),rfl,rfl,rfl⟩ (wk [1,1,0] (fr (Ya fl))) ?_)))
 rintro m F h ⟨k,zs,u,Ye,Zk,Zx,rfl,rfl,rfl⟩
 refine Yi 3 [0] (iw (Yc s.args) (Y9 ((k:Int)<(s.args.length:Int)) (fun Zg=>?_) (fun Zg=>?_)))
 ·obtain ⟨a1,ha1⟩:=Zt s.args k om
  have har:=hf.args a1 (Y4 ha1)
  refine ak (aq (ab 1 (Zv 4 [1,0] (Zw [] (Hv n us s k a1 (hnum:=hf.call) (ha:=ha1)) (Z1 1 (ib (b:=TH n us s.op s.num a1 k) 38 (fun Zz=>?_) (fun Zz=>?_)))))))
  ·refine ZL 5 [1,0] (ic [] (Pn n s k mm os ls) ?_)
   rintro _ _ ⟨wr1,rfl,rfl⟩
   refine YE (!wr1) (p:=¬(wr1=true)) (Ym Iff.rfl) (fun ZH=>?_) (fun ZH=>?_)
   ·refine az (ZL 4 [0] (Zq (Zm none (k:Int) 1 (Y2 ha1)) (ZT 1 [(47,Z4 zs)] (ic [] (Pu zs a1) ?_))))
    rintro _ _ ⟨v4,rfl,rfl⟩
    exact Z0 (az (Z1 1 (ZJ k (Z0 (ZK ⟨k+1,(QC zs a1),v4,ob,(by first|exact Zk|exact VL (EQ _ _) Zk),(by first|exact Zx|exact (fun z hz=>Zx z (DE hz))),rfl,rfl,rfl⟩ (wk [1,1,0] (fr (ZO k fl))))))))
   exact ak (az (Z1 1 (ZJ k (Z0 (ZK ⟨k+1,zs,u,ob,(by first|exact Zk|exact VL (EQ _ _) Zk),(by first|exact Zx|exact (fun z hz=>Zx z (DE hz))),rfl,rfl,rfl⟩ (ZF 3 (fr (ZO k fl))))))))
  exact Z0 (WF (ak (az (Z1 1 (ZJ k (Z0 (ZK ⟨k+1,zs,u,ob,(by first|exact Zk|exact VL (EQ _ _) Zk),(by first|exact Zx|exact (fun z hz=>Zx z (DE hz))),rfl,rfl,rfl⟩ (ZF 3 (fr (ZO k fl))))))))))
 exact ax 0 (ar (Zp (r1 [2] ⟨zs,u,rfl,rfl,(by first|exact hco|exact ⟨by omega,Zx⟩)⟩)))
theorem Z9p (n:Zl) (s:Z5) (os:LI) (ls:LI) (mm:Nat) (hn:X3 n:=by exact ob) (hf:FS n.decls n.routines.length mm s:=by exact ob) (ho:os.length<=100000000:=by exact ob) (hl:ls.length<=100000000:=by exact ob):Zi 248 [Yr n,YD s,Z4 os,Z4 ls] [] (fun r h=>∃(zs:LI),r=Z4 zs/\h=[]/\zs.length<=s.args.length/\∀z∈zs,z∈s.args):=by
 have hal:=hf.alen
 refine ZE 50 Tryz.func248 (ar (iA (YV n) fun b1=>iA (Xz s) fun b2=>Z0 (ar (iL (Z8 []) 0 1 fun v1=>?_))))
 refine Z0 (Yo (ab 0 (Y3 (fun fz gz m F h=>∃(k:Nat) (zs:LI) (u:Value),(k<=s.args.length)/\(zs.length<=k)/\(∀z∈zs,z∈s.args)/\F=sF [2,3,4,5] fz [(9,ZQ zs u),(10,.i k)]/\h=[Ze gz 1,Ze gz 2,.tail u 1]/\m=s.args.length-k) _ _ _ ⟨0,[],v1,ob,ob,(fun z hz=>by cases hz),rfl,rfl,rfl⟩ (wk [1,1,0] (fr (Ya fl))) ?_)))
 rintro m F h ⟨k,zs,u,Ye,Zk,Zx,rfl,rfl,rfl⟩
 refine Yi 3 [0] (iw (Yc s.args) (Y9 ((k:Int)<(s.args.length:Int)) (fun Za=>?_) (fun Za=>?_)))
 ·obtain ⟨a1,ha1⟩:=Zt s.args k om
  have har:=hf.args a1 (Y4 ha1)
  refine ak (aq (ab 1 (Zv 3 [1,0] (Zw [] (Ff n s k (hnum:=hf.call)) (XA 13 [2,3,4,5,9,10] [(31,.b (WJ n s.op s.num k&&(decide (a1∈os))))] (fun gz=>gz) ?_ (fun hj1=>?_))))))
  ·refine Xx [2,3,4,5,9,10] [(41,.b ((WJ n s.op s.num k&&(decide (a1∈os)))&&(!(decide (a1∈ls)))))] (fun gz=>gz) ?_ ?_
   ·refine Z1 1 (ib (b:=(WJ n s.op s.num k&&(decide (a1∈os)))) 32 (fun Zb=>?_) (fun Zb=>?_))
    ·exact ZL 4 [0] (Zq (Zm none (k:Int) 1 (Y2 ha1)) (Z1 1 (Zw [] (Tw ls a1) (Z0 (ZF 3 (Zu (!(decide (a1∈ls))) Zb fl))))))
    exact Z0 (ZF 3 (Zu false Zb fl))
   refine ac ((WJ n s.op s.num k&&(decide (a1∈os)))&&(!(decide (a1∈ls)))) (p:=((WJ n s.op s.num k=true)/\(a1∈os))/\(¬(a1∈ls))) (YG (YG Iff.rfl dq) (Ym dq)) (fun Zg=>?_) (fun Zg=>?_)
   ·refine az (ZL 4 [0] (Zq (Zm none (k:Int) 1 (Y2 ha1)) (ZT 1 [(42,Z4 zs)] (ic [] (Gr zs a1) ?_))))
    rintro _ _ ⟨v2,rfl,rfl⟩
    exact Z0 (az (Z1 1 (ZJ k (Z0 (ZK ⟨k+1,(TO zs a1),v2,ob,(by first|omega|(have:=EC zs a1;omega)),(by first|exact Zx|exact (fun z hz=>(Lu.1 hz).elim (Zx z) (fun e=>e▸Y4 ha1))),rfl,rfl,rfl⟩ (wk [1,1,0] (fr (ZO k fl))))))))
   exact ak (az (Z1 1 (ZJ k (Z0 (ZK ⟨k+1,zs,u,ob,(by first|omega|(have:=EC zs a1;omega)),(by first|exact Zx|exact (fun z hz=>(Lu.1 hz).elim (Zx z) (fun e=>e▸Y4 ha1))),rfl,rfl,rfl⟩ (ZF 3 (fr (ZO k fl))))))))
  refine Z1 1 (ib (b:=WJ n s.op s.num k) 23 (fun Zz=>?_) (fun Zz=>?_))
  ·exact ZL 4 [0] (Zq (Zm none (k:Int) 1 (Y2 ha1)) (Z1 1 (Zw [] (Tw os a1) (Z1 1 (Yn (ZF 3 (Zu (decide (a1∈os)) Zz fl)) hj1)))))
  exact Z1 8 (Yn (ZF 3 (Zu false Zz fl)) hj1)
 exact ax 0 (ar (Zp (r2 [] [ZQ zs u] ⟨zs,rfl,rfl,⟨by omega,Zx⟩⟩ (Zc.forget _ _))))
theorem Hw (rt:Yb) (b:Z7) (hp:rt.params.length<=4294967296:=by exact ob) (hl:rt.lent.length<=4294967296:=by exact ob):Zi 82 [QJ rt,ZZ b] [] (Yl (QJ (Yb.mk rt.params rt.lent rt.result b))):=by
 refine ZE 15 Tryz.func82 (ar (iA (Tt rt) fun b1=>iA (Xu b) fun b2=>iA [nl,nl,.i 0,nl,.i 0] fun b3=>ie (aD 11 (ZI 4 11 [0,1,3,4,6,7,8] [2,2,2,1] (Z9 2 (dc 2 [] [1,2,2] [b2,b1,b1] (Tc rt.params) ?_))))))
 rintro _ _ ⟨v1,rfl,rfl⟩
 refine Z9 5 (dc 5 [] [1,2] [b2,b1] (Tc rt.lent) ?_)
 rintro _ _ ⟨v2,rfl,rfl⟩
 exact Zj 1 2 [9] (Z9 10 (YM 10 2 [] [] b3 [ZQ rt.params v1,ZQ rt.lent v2,.i rt.result,Vl b.steps,.i b.result] (de (ZB (r3 [] [.agg [ZQ rt.params v1,ZQ rt.lent v2,.i rt.result,Vl b.steps,.i b.result]] [0] [(b3,b3)] ⟨rfl,rfl⟩ (Zc.agg (.cons (Zc.sl _ (Yu Z8 ob)) (.cons (Zc.sl _ (Yu Z8 ob)) (.cons li (.cons (Zc.sl _ (Yu ZG ob)) (.cons li .nil)))))))))))
theorem Z95 (n:Zl) (us:LI) (fds:LI) (kd:Z7) (os:LI) (ls:LI) (mm:Nat) (bb:Nat) (hn:X3 n:=by exact ob) (hf:fB n.decls n.routines.length (mm+fds.length) kd:=by exact ob) (hop:UA WZ kd:=by exact ob) (hul:us.length=mm:=by exact ob) (hfl:fds.length<=3:=by exact ob) (hm:mm+3+4*kd.sz<=100000:=by exact ob) (hor:∀v∈os,0<=v/\v<(mm:Int)) (hol:os.length+3+4*kd.sz<=730:=by exact ob) (hal:ls.length+2000*kd.sz<=1000000:=by exact ob) (hbz:kd.sz<=500:=by exact ob) (hb:kd.sz<bb:=by exact ob) (ih:∀(us2:LI) (b2:Z7) (os2:LI) (as2:LI) (m2:Nat),(fB n.decls n.routines.length m2 b2)->(UA WZ b2)->(us2.length=m2)->(m2+4*b2.sz<=100000)->(∀v∈os2,0<=v/\v<(m2:Int))->(os2.length+4*b2.sz<=730)->(as2.length+2000*b2.sz<=1000000)->(b2.sz<=500)->(b2.sz<bb)->Zi 202 [Yr n,Z4 us2,ZZ b2,Z4 os2,Z4 as2] [] (fun r h=>∃(y:Z7),r=ZZ y/\h=[]/\KB n.decls n.routines.length m2 y (4500*b2.sz))):Zi 280 [Yr n,Z4 us,Z4 fds,ZZ kd,Z4 os,Z4 ls] [] (fun r h=>∃(y:Z7),r=ZZ y/\h=[]/\KB n.decls n.routines.length (mm+fds.length) y (4500*kd.sz+1470)):=by
 refine ZE 115 Tryz.func280 (ar (iA (YV n) fun b1=>iA (Xu kd) fun b2=>iA [nl,.i 0] fun b3=>ie (Y1 1 (iw (Yc us) (Z0 (Y1 2 (ic [] (KN us fds) ?_)))))))
 rintro _ _ ⟨v1,rfl,rfl⟩
 refine Z0 (Zv 2 [2] (io (.i (((us++fds).length:Nat):Int)) (.i (((Z8 (us++fds)).length:Nat):Int)) (li (by rw [Yc])) (Zw [] (Z1m kd (((us++fds).length:Nat):Int)) ?_)))
 have hub:=HE (n:=(((us++fds).length:Nat):Int)) kd []
 simp only [XP,Vy] at hub
 refine Z0 (ar (iL (Z8 []) 0 1 fun v2=>Z0 (ar (iL (Z8 []) 0 1 fun v3=>?_))))
 refine Z0 (Yo (ab 0 (Y3 (fun fz gz m F h=>∃(k:Nat) (ms:LI) (u:Value) (dr:LI) (w:Value),(k<=os.length)/\(ms.length<=k)/\(dr.length<=k)/\(∀v∈ms,0<=v/\v<(mm:Int))/\(∀v∈dr,0<=v/\v<(mm:Int))/\F=sF [2,4,5,6,9,12,13,15] fz [(14,Z4 (us++fds)),(16,ZQ ms u),(17,ZQ dr w),(18,.i k)]/\h=[Ze gz 3,Ze gz 4,Ze gz 5,.tail u 1,.tail w 1]/\m=os.length-k) _ _ _ ⟨0,[],v2,[],v3,ob,ob,ob,(fun v hv=>by cases hv),(fun v hv=>by cases hv),rfl,rfl,rfl⟩ (wk [3,3,3,1,0] (fc (x:=ZQ (us++fds) v1) (Zc.forget _ _) (fw (Ya fl)))) ?_)))
 rintro m F h ⟨k,ms,u,dr,w,Ye,Zk,Zx,Yy,XY,rfl,rfl,rfl⟩
 refine YP 2 (iw (Yc os) (Y9 ((k:Int)<(os.length:Int)) (fun Za=>?_) (fun Za=>?_)))
 ·obtain ⟨o1,ho1⟩:=Zt os k om
  have hor1:=hor o1 (Y4 ho1)
  refine ak (aq (ab 1 (Y1 3 (Zq (Zm none (k:Int) 1 (Y2 ho1)) (Z1 1 (Zw [] (Tw (Ty (((us++fds).length:Nat):Int) kd []) o1) (Xx [2,4,5,6,9,12,13,14,15,16,17,18] [(53,.b ((decide (o1∈(Ty (((us++fds).length:Nat):Int) kd [])))||(decide (o1∈ls))))] (fun gz=>gz) ?_ ?_)))))))
  ·refine Z1 1 (ib (b:=(decide (o1∈(Ty (((us++fds).length:Nat):Int) kd [])))) 46 (fun Zb=>?_) (fun Zb=>?_))
   ·exact Z0 (ZF 5 (Zu true Zb fl))
   exact Z1 3 (Zq (Zm none (k:Int) 1 (Y2 ho1)) (Z1 1 (Zw [] (Tw ls o1) (Z0 (ZF 5 (Zu (decide (o1∈ls)) Zb fl))))))
  refine ac ((decide (o1∈(Ty (((us++fds).length:Nat):Int) kd [])))||(decide (o1∈ls))) (p:=(o1∈(Ty (((us++fds).length:Nat):Int) kd []))∨(o1∈ls)) (Yh dq dq) (fun Zg=>?_) (fun Zg=>?_)
  ·exact az (Z1 3 (Zq (Zm none (k:Int) 1 (Y2 ho1)) (Z1 1 (iL (Z8 [o1]) 1 1 fun v4=>ZT 0 [(59,Z4 [o1])] (ip 4 (Z8 (ms++[o1])) (Z8 ms) (Z8 [o1]) u none 1 (YK _) (YK _) (WA _) (by simp<;>omega) (by simp [Wz,Z8]) fun v5=>Z0 (az (Z1 1 (ZJ k (Z0 (ZK ⟨k+1,(ms++[o1]),v5,dr,w,ob,ob,ob,(by first|exact Yy|exact XW Yy hor1),(by first|exact XY|exact XW XY hor1),rfl,rfl,rfl⟩ (wk [2,2,2,0,1] (fw (fr (ZO k fl))))))))))))))
  exact az (Z1 3 (Zq (Zm none (k:Int) 1 (Y2 ho1)) (Z1 1 (iL (Z8 [o1]) 1 1 fun v6=>ZT 0 [(66,Z4 [o1])] (ip 5 (Z8 (dr++[o1])) (Z8 dr) (Z8 [o1]) w none 1 (YK _) (YK _) (WA _) (by simp<;>omega) (by simp [Wz,Z8]) fun v7=>Z0 (az (Z1 1 (ZJ k (Z0 (ZK ⟨k+1,ms,u,(dr++[o1]),v7,ob,ob,ob,(by first|exact Yy|exact XW Yy hor1),(by first|exact XY|exact XW XY hor1),rfl,rfl,rfl⟩ (wk [2,2,2,2,0] (fw (fr (ZO k fl))))))))))))))
 refine ax 0 (ar (iL (Z8 []) 0 1 fun v8=>?_))
 refine Z0 (Yo (ab 2 (Y3 (fun fz gz m F h=>∃(k:Nat) (ps:LI) (w2:Value),(k<=fds.length)/\(ps.length<=k)/\(∀v∈ps,(mm:Int)<=v/\v<((mm+fds.length:Nat):Int))/\F=sF [2,5,6,9,12,13,14,15,16,17] fz [(19,ZQ ps w2),(20,.i k)]/\h=[Ze gz 1,Ze gz 2,Ze gz 3,Ze gz 4,Ze gz 5,.tail w2 1]/\m=fds.length-k) _ _ _ ⟨0,[],v8,ob,ob,(fun v hv=>by cases hv),rfl,rfl,rfl⟩ (wk [1,1,1,1,1,0] (fr (Ya fl))) ?_)))
 rintro m F h ⟨k,ps,w2,Um,Wa,W6,rfl,rfl,rfl⟩
 refine YP 2 (iw (Yc fds) (Y9 ((k:Int)<(fds.length:Int)) (fun ZH=>?_) (fun ZH=>?_)))
 ·refine ak (aq (ab 3 (Y1 2 ?_)))
  obtain ⟨x1,Z3⟩:=Zt fds k om
  refine Zq (Zm none (k:Int) 1 (Y2 Z3)) (Xx [2,5,6,9,12,13,14,15,16,17,19,20] [(86,.b ((x1 != 0)&&(decide (((us.length+k:Nat):Int)∈(Ty (((us++fds).length:Nat):Int) kd [])))))] (fun gz=>gz) ?_ ?_)
  ·refine Z1 3 (ib (b:=(x1 != 0)) 80 (fun Zz=>?_) (fun Zz=>?_))
   ·exact Z1 3 (ia (((us.length+k:Nat):Int)) (((us.length:Int))+((k:Int))) (Zw [] (Tw (Ty (((us++fds).length:Nat):Int) kd []) ((us.length+k:Nat):Int)) (Z0 (ZF 6 (Zu (decide (((us.length+k:Nat):Int)∈(Ty (((us++fds).length:Nat):Int) kd []))) Zz fl)))))
   exact Z0 (ZF 6 (Zu false Zz fl))
  refine ac ((x1 != 0)&&(decide (((us.length+k:Nat):Int)∈(Ty (((us++fds).length:Nat):Int) kd [])))) (p:=(x1≠0)/\(((us.length+k:Nat):Int)∈(Ty (((us++fds).length:Nat):Int) kd []))) (YG Y6 dq) (fun Yj=>?_) (fun Yj=>?_)
  ·exact az (Z1 3 (ia (((us.length+k:Nat):Int)) (((us.length:Int))+((k:Int))) (iL (Z8 [((us.length+k:Nat):Int)]) 1 1 fun v9=>ZT 0 [(91,Z4 [((us.length+k:Nat):Int)])] (ip 6 (Z8 (ps++[((us.length+k:Nat):Int)])) (Z8 ps) (Z8 [((us.length+k:Nat):Int)]) w2 none 1 (YK _) (YK _) (WA _) (by simp<;>omega) (by simp [Wz,Z8]) fun v10=>Z0 (az (Z1 1 (ZJ k (Z0 (ZK ⟨k+1,(ps++[((us.length+k:Nat):Int)]),v10,ob,ob,(by first|exact W6|exact XW W6 om),rfl,rfl,rfl⟩ (wk [2,2,2,2,2,0] (fr (ZO k fl))))))))))))
  exact ak (az (Z1 1 (ZJ k (Z0 (ZK ⟨k+1,ps,w2,ob,ob,(by first|exact W6|exact XW W6 om),rfl,rfl,rfl⟩ (ZF 6 (fr (ZO k fl))))))))
 refine ax 2 (ar (ZT 1 [(93,Z4 ps)] (ic [] (A5 14 ps) ?_)))
 rintro _ _ ⟨v11,rfl,rfl⟩
 refine ZT 1 [(95,Z4 dr)] (ic [] (A5 15 dr) ?_)
 rintro _ _ ⟨v12,rfl,rfl⟩
 refine ZT 0 [(96,Vl (dr.map (ZC 15)))] (ip 1 (ZG ((ps.map (ZC 14))++(dr.map (ZC 15)))) (ZG (ps.map (ZC 14))) (ZG (dr.map (ZC 15))) v11 none 5 (Xw _) (Xw _) (UO _) (by simp<;>omega) (by simp [V0,ZG]) fun v13=>?_)
 refine Z0 (aD 12 (ZI 5 12 [0,1,2,3,4,6,7] [4,3] (Jq (fun fz gz F h=>∃(y1:Z7) (b4:Nat) (zs1:LI),(zs1.length<=ls.length/\∀z∈zs1,z∈ls)/\(KB n.decls n.routines.length (mm+fds.length) y1 (4500*kd.sz))/\F=sF [12,21] fz [(22,.p b4 0)]/\h=[.obj b4 (Xu y1),Ze gz 0,Ze gz 1,Ze gz 2,Ze gz 3,Ze gz 4,Ze gz 6,Ze gz 7]) ?_ ?_)))
 ·refine VN 5 10 ?_ ?_
  ·refine dp 5 5 [1,2] [b2,b1] (Z8 (ms++ps)) (Z8 ms) (Z8 ps) u (some w2) 1 (YK _) (YK _) (WA _) (by simp<;>omega) (by simp [Wz,Z8]) fun v14=>VN 8 10 ?_ ?_
   ·refine dc 8 [] [1,2] [b2,b1] (Le ls (us.length:Int)) ?_
    rintro _ _ ⟨zs1,v15,rfl,rfl,Xk⟩
    have hbl:=Xk
    refine YA 3 3 [] [(103,Z4 (ms++ps)),(106,Z4 zs1)] (VN 9 10 ?_ ?_)
    ·refine dc 9 [] [] [] (ih (us++fds) kd (ms++ps) zs1 (mm+fds.length) hf hop (by rw [Yq,hul]) ob (fun v hv=>by rcases Xg.1 hv with h|h;exact (by have:=Yy v h;omega);exact (by have:=W6 v h;omega)) (by rw [Yq];omega) ob ob ob) ?_
     rintro _ _ ⟨y1,rfl,rfl,W4⟩
     have hkb:=W4
     have hkl:=hkb.len
     exact Z9 10 (dA 10 [] [] [nl,.i 0] fun b4=>Z9 11 (YM 11 0 [] [] b4 (Xu y1) (de (ZU ⟨_,b4,_,(by assumption),(by assumption),rfl,rfl⟩ (wk [0,2,2,2,2,2,2,2] fl)))))
    refine dA 10 [1,2] [b2,b1] [nl,.i 0] fun b5=>Z9 9 (dc 9 [] [] [] (ih (us++fds) kd (ms++ps) zs1 (mm+fds.length) hf hop (by rw [Yq,hul]) ob (fun v hv=>by rcases Xg.1 hv with h|h;exact (by have:=Yy v h;omega);exact (by have:=W6 v h;omega)) (by rw [Yq];omega) ob ob ob) ?_)
    rintro _ _ ⟨y2,rfl,rfl,WB⟩
    have hkb:=WB
    have hkl:=hkb.len
    exact Z9 11 (YM 11 0 [] [] b5 (Xu y2) (de (ZU ⟨_,b5,_,(by assumption),(by assumption),rfl,rfl⟩ (wk [0,2,2,2,2,2,2,2] fl))))
   refine dA 10 [1,2] [b2,b1] [nl,.i 0] fun b6=>Z9 8 (dc 8 [] [2,3] [b2,b1] (Le ls (us.length:Int)) ?_)
   rintro _ _ ⟨zs2,v16,rfl,rfl,V1⟩
   have hbl:=V1
   refine YA 2 2 [] [(103,Z4 (ms++ps)),(106,Z4 zs2)] (Z9 9 (dc 9 [] [] [] (ih (us++fds) kd (ms++ps) zs2 (mm+fds.length) hf hop (by rw [Yq,hul]) ob (fun v hv=>by rcases Xg.1 hv with h|h;exact (by have:=Yy v h;omega);exact (by have:=W6 v h;omega)) (by rw [Yq];omega) ob ob ob) ?_))
   rintro _ _ ⟨y3,rfl,rfl,Vu⟩
   have hkb:=Vu
   have hkl:=hkb.len
   exact Z9 11 (YM 11 1 [] [] b6 (Xu y3) (de (ZU ⟨_,b6,_,(by assumption),(by assumption),rfl,rfl⟩ (wk [0,2,2,2,2,2,2,2] fl))))
  refine dA 10 [1,2] [b2,b1] [nl,.i 0] fun b7=>YA 4 4 [] [(102,Z4 ps)] (Z9 5 (dp 5 6 [2,3] [b2,b1] (Z8 (ms++ps)) (Z8 ms) (Z8 ps) u none 1 (YK _) (YK _) (WA _) (by simp<;>omega) (by simp [Wz,Z8]) fun v17=>Z9 8 (dc 8 [] [2,3] [b2,b1] (Le ls (us.length:Int)) ?_)))
  rintro _ _ ⟨zs3,v18,rfl,rfl,UR⟩
  have hbl:=UR
  refine YA 2 2 [] [(103,Z4 (ms++ps)),(106,Z4 zs3)] (Z9 9 (dc 9 [] [] [] (ih (us++fds) kd (ms++ps) zs3 (mm+fds.length) hf hop (by rw [Yq,hul]) ob (fun v hv=>by rcases Xg.1 hv with h|h;exact (by have:=Yy v h;omega);exact (by have:=W6 v h;omega)) (by rw [Yq];omega) ob ob ob) ?_))
  rintro _ _ ⟨y4,rfl,rfl,T8⟩
  have hkb:=T8
  have hkl:=hkb.len
  exact Z9 11 (YM 11 2 [] [] b7 (Xu y4) (de (ZU ⟨_,b7,_,(by assumption),(by assumption),rfl,rfl⟩ (wk [0,2,2,2,2,2,2,2] fl))))
 rintro F h ⟨y1,b4,zs1,Xk,W4,rfl,rfl⟩
 have hbl:=Xk
 have hkb:=W4
 have hkl:=hkb.len
 exact aD 8 (ZI 3 8 [0,1,2,4,5] [0,0] (Z9 3 (dp 3 1 [0] [b4] (ZG (((ps.map (ZC 14))++(dr.map (ZC 15)))++y1.steps)) (ZG ((ps.map (ZC 14))++(dr.map (ZC 15)))) (ZG y1.steps) v13 none 5 (Xw _) (Xw _) (UO _) (by simp<;>omega) (by simp [V0,ZG]) fun v19=>Zj 1 2 [6] (Z9 7 (YM 7 3 [] [] b3 [X9 (((ps.map (ZC 14))++(dr.map (ZC 15)))++y1.steps) v19,.i y1.result] (de (ZB (r3 [] [.agg [X9 (((ps.map (ZC 14))++(dr.map (ZC 15)))++y1.steps) v19,.i y1.result]] [0] [(b3,b3)] ⟨(Z7.mk (((ps.map (ZC 14))++(dr.map (ZC 15)))++y1.steps) y1.result),rfl,rfl,((hkb.put (fun v hv=>by have:=W6 v hv;omega) (fun v hv=>by have:=XY v hv;omega)).le om)⟩ (Zc.agg (.cons (Zc.forget _ _) (.cons (lr _) .nil)))))))))))
theorem Z96 (n:Zl) (us:LI) (s:Z5) (os:LI) (ls:LI) (mm:Nat) (bb:Nat) (hn:X3 n:=by exact ob) (hf:FS n.decls n.routines.length mm s:=by exact ob) (h11:s.op<=11:=by exact ob) (hop:Jb WZ s.kids:=by exact ob) (hul:us.length=mm:=by exact ob) (hm:mm+4*s.sz<=100000:=by exact ob) (hor:∀v∈os,0<=v/\v<(mm:Int)) (hol:os.length+4*s.sz<=730:=by exact ob) (hal:ls.length+2000*s.sz<=1000000:=by exact ob) (hbz:s.sz<=500:=by exact ob) (hb:s.sz<=bb:=by exact ob) (ih:∀(us2:LI) (b2:Z7) (os2:LI) (as2:LI) (m2:Nat),(fB n.decls n.routines.length m2 b2)->(UA WZ b2)->(us2.length=m2)->(m2+4*b2.sz<=100000)->(∀v∈os2,0<=v/\v<(m2:Int))->(os2.length+4*b2.sz<=730)->(as2.length+2000*b2.sz<=1000000)->(b2.sz<=500)->(b2.sz<bb)->Zi 202 [Yr n,Z4 us2,ZZ b2,Z4 os2,Z4 as2] [] (fun r h=>∃(y:Z7),r=ZZ y/\h=[]/\KB n.decls n.routines.length m2 y (4500*b2.sz))):Zi 246 [Yr n,Z4 us,YD s,Z4 os,Z4 ls] [] (fun r h=>∃(y:Z5),r=YD y/\h=[]/\KT n.decls n.routines.length mm y (4500*Xl s.kids+4420)):=by
 have XC:=hn.decls
 have hkf:=hf.few XC
 have hsa:=hf.alen
 refine ZE 62 Tryz.func246 (ar (iA (YV n) fun b1=>iA (Xz s) fun b2=>iA [.i 0,.i 0,.i 0,nl,nl] fun b3=>ie (ar (iL (YR []) 0 2 fun v1=>Z0 (Zv 4 [3,2] (ic [] (Ba n.decls s.num) ?_))))))
 rintro _ _ ⟨v2,rfl,rfl⟩
 refine Z0 (Yo (ab 0 (Y3 (fun fz gz m F h=>∃(k:Nat) (ks:List Z7) (u:Value),(k<=s.kids.length)/\(ks.length=k)/\(KK n.decls n.routines.length (QE n.decls s.op s.num mm) ks (4500*Xl (s.kids.take k)+1470*k))/\F=sF [1,3,4,5,7,10] fz [(11,Q4 ks u),(12,Z4 (ZV n.decls s.num)),(13,.i k)]/\h=[Ze gz 2,Ze gz 3,Ze gz 4,.tail u 2]/\m=s.kids.length-k) _ _ _ ⟨0,[],v1,ob,ob,(KK.nil.le (Ac _)),rfl,rfl,rfl⟩ (wk [2,2,2,1] (fr (fc (x:=ZQ (ZV n.decls s.num) v2) (Zc.forget _ _) (Ya fl)))) ?_)))
 rintro m F h ⟨k,ks,u,Ye,Zk,Zx,rfl,rfl,rfl⟩
 refine Yi 3 [1] (iw (Uf s.kids) (Y9 ((k:Int)<(s.kids.length:Int)) (fun Za=>?_) (fun Za=>?_)))
 ·refine ak (aq (ab 1 (ar (iL (Z8 []) 0 1 fun v3=>?_))))
  refine Z0 (Xa (VY [2] (Wm (fun fz gz F h=>∃(fds:LI),(QE n.decls s.op s.num mm k=mm+fds.length)/\(fds.length<=3)/\F=sF [1,3,4,5,7,10,11,12,13] fz [(14,Z4 fds)]/\h=[Ze gz 1,Ze gz 2,Ze gz 3,Ze gz 4]) ?_ ?_)))
  ·refine ac (s.op==8) Zr (fun Zg=>?_) (fun Zg=>?_)
   ·refine aE 8 (ZI 4 8 [0,1,2,3] [3] ?_)
    obtain ⟨x1,Z3⟩:=Zt (ZV n.decls s.num) k (by have:=hf.k8 (by assumption);omega)
    have hcf:=UF XC x1
    exact dx 4 (Zm none (k:Int) 1 (Y2 Z3)) (Zj 2 3 [5] (Z9 6 (Yz 6 [] [] [] (JE n.decls x1) (Zj 0 1 [7] (de (ZU ⟨ZX n.decls x1,(Mz (by assumption) Z3),ob,rfl,rfl⟩ (wk [1,1,1,1] fl)))))))
   exact ak (ZU ⟨[],(by rw [MA (by assumption)];rfl),ob,rfl,rfl⟩ (wk [1,1,1,1] fl))
  rintro F h ⟨fds,KF,GS,rfl,rfl⟩
  refine aE 15 (ZI 8 15 [0,1,2,3,4,5,6] [2,1] ?_)
  obtain ⟨x2,Zs⟩:=Zt s.kids k om
  have hkz:=Tq Zs
  have hfk:=Gd hf.kids Zs
  rw [Vy,KF] at hfk
  have hok:=EP.1 hop x2 (Y4 Zs)
  have hbt:=If Zs
  have hba:=FM Zs
  refine dx 7 (Zm none (k:Int) 2 (T3 Zs)) (Zj 4 7 [8,9,10] (Z9 11 (dc 11 [] [] [] (Z95 n us fds x2 os ls mm bb (hf:=hfk) (hop:=hok) (hor:=hor) (ih:=ih)) ?_)))
  rintro _ _ ⟨y1,rfl,rfl,ZY⟩
  have hkb:=ZY
  exact Z9 12 (WU 12 [] [] [ZZ y1] (YR [y1]) (TW [y1]).symm 1 2 fun v4=>YA 2 2 [] [(51,XO [y1])] (Z9 13 (dp 13 4 [] [] (YR (ks++[y1])) (YR ks) (YR [y1]) u none 2 (Kd _) (Kd _) (Iy _) (by simp<;>omega) (by simp [BA,YR]) fun v5=>Zj 0 1 [14] (de (az (Z1 1 (ZJ k (Z0 (ZK ⟨k+1,(ks++[y1]),v5,ob,ob,((Zx.snoc Zk (by rw [KF];exact hkb)).le om),rfl,rfl,rfl⟩ (wk [2,2,2,0] (fw (ZO k fl))))))))))))
 refine ax 0 (aD 10 (ZI 3 10 [0,1,2,3,4,5,7] [1,1,1] (Z9 6 (dc 6 [] [1,1] [b2,b2] (Tc s.args) ?_))))
 rintro _ _ ⟨v6,rfl,rfl⟩
 exact Zj 1 2 [8] (Z9 9 (YM 9 1 [] [] b3 [.i s.op,.i s.num,.i 0,ZQ s.args v6,Q4 ks u] (de (ZB (r3 [] [.agg [.i s.op,.i s.num,.i 0,ZQ s.args v6,Q4 ks u]] [0] [(b3,b3)] ⟨(Z5.mk s.op s.num 0 s.args ks),rfl,rfl,((KT.of (into:=0) hf h11 om om Zx).le (by have:=NS (xs:=s.kids) (k:=k) om;omega))⟩ (Zc.agg (.cons (lr _) (.cons (lr _) (.cons (lr _) (.cons (Zc.forget _ _) (.cons (Zc.forget _ _) .nil)))))))))))
theorem Z93 (n:Zl) (us:LI) (b:Z7) (os:LI) (ls:LI) (mm:Nat) (hn:X3 n) (hf:fB n.decls n.routines.length mm b) (hop:UA WZ b) (hul:us.length=mm) (hm:mm+4*b.sz<=100000) (hor:∀v∈os,0<=v/\v<(mm:Int)) (hol:os.length+4*b.sz<=730) (hal:ls.length+2000*b.sz<=1000000) (hbz:b.sz<=500) (ih:∀(us2:LI) (b2:Z7) (os2:LI) (as2:LI) (m2:Nat),(fB n.decls n.routines.length m2 b2)->(UA WZ b2)->(us2.length=m2)->(m2+4*b2.sz<=100000)->(∀v∈os2,0<=v/\v<(m2:Int))->(os2.length+4*b2.sz<=730)->(as2.length+2000*b2.sz<=1000000)->(b2.sz<=500)->(b2.sz<b.sz)->Zi 202 [Yr n,Z4 us2,ZZ b2,Z4 os2,Z4 as2] [] (fun r h=>∃(y:Z7),r=ZZ y/\h=[]/\KB n.decls n.routines.length m2 y (4500*b2.sz))):Zi 202 [Yr n,Z4 us,ZZ b,Z4 os,Z4 ls] [] (fun r h=>∃(y:Z7),r=ZZ y/\h=[]/\KB n.decls n.routines.length mm y (4500*b.sz)):=by
 have XC:=hn.decls
 have hbe:=b.sz_eq
 have ZP:=Td b
 obtain ⟨hfs,hr1,hr2⟩:=(Gc b).1 hf
 have hos:=DD.1 ((M3 b).1 hop)
 have hdn:=Is hos
 have hdl:=hdn b.steps.length (X6 _)
 rw [Vw] at hdl
 refine ZE 149 Tryz.func202 (ar (iA (YV n) fun b1=>iA (Xu b) fun b2=>iA [nl,.i 0] fun b3=>ie (ar (iL (ZG []) 0 5 fun v1=>Z0 (Y1 1 (ic [] (Tc us) ?_))))))
 rintro _ _ ⟨v2,rfl,rfl⟩
 refine Z0 (Y1 1 (ic [] (Tc os) ?_))
 rintro _ _ ⟨v3,rfl,rfl⟩
 refine Z0 (Yo (ab 0 (Y3 (fun fz gz m F h=>∃(k:Nat) (vs:LI) (w:Value) (ms:LI) (u:Value) (xs:List Z5) (v:Value),(k<=b.steps.length)/\(vs.length=mm+k)/\(CL n.decls n.routines.length mm xs k (4500*Yk (b.steps.take k)))/\(ms.length<=os.length+k)/\(∀v∈ms,0<=v/\v<((mm+k:Nat):Int))/\F=sF [4,5,7,10] fz [(11,X9 xs v),(12,ZQ vs w),(13,ZQ ms u),(14,.i k)]/\h=[Ze gz 3,Ze gz 4,Ze gz 5,.tail u 1,.tail v 5,.tail w 1]/\m=b.steps.length-k) _ _ _ ⟨0,us,v2,os,v3,[],v1,ob,ob,CL.nil,ob,hor,rfl,rfl,rfl⟩ (wk [3,3,3,0,1,0] (fw (fr (Ya fl)))) ?_)))
 rintro m F h ⟨k,vs,w,ms,u,xs,v,Ye,Zk,Zx,Yy,XY,rfl,rfl,rfl⟩
 refine Yi 3 [1] (iw (VU b.steps) (Y9 ((k:Int)<(b.steps.length:Int)) (fun Za=>?_) (fun Za=>?_)))
 ·refine ak (aq (ab 1 (Zv 3 [1] ?_)))
  obtain ⟨x1,Z3⟩:=Zt b.steps k om
  have Xv:=Fh Z3
  have hfS:=(IW x1).1 (Ge hfs Z3)
  rw [hdn k om] at hfS
  have hoS:=(Hb x1).1 (hos x1 (Y4 Z3))
  have htk:=Z1t Z3
  have hse:=(x1).sz_eq
  have hal4:=hfS.alen
  have hxl:=Zx.len
  have htl:=Bc b.steps (k+1)
  have hsd:=Z1r b.steps (k+1)
  have hul2:=MY (n:=((vs.length+1:Nat):Int)) (b.steps.drop (k+1)) []
  have hul3:=HF (n:=((vs.length+1:Nat):Int)) (Tz ((vs.length+1:Nat):Int) (b.steps.drop (k+1)) []) b.result
  simp only [XP,Vy] at hul2
  refine Zq (Zm none (k:Int) 5 (VP Z3)) (Z1 1 (iA [.i 0,.i 0,.i 0,nl,nl] fun b4=>ZA 0 b4 (Xz x1) (ie (Y1 1 (iw (Yc vs) (Z0 (ar (K6 3 [(41,Z4 vs)] [3,0] (Zw [] (MN n vs x1 ob ob) (Z0 (Zv 2 [2] (ia (((vs.length+1:Nat):Int)) (((vs.length:Int))+(1)) (Z1 1 (ZJ k (iL (Z8 []) 0 1 fun v4=>ZT 0 [(49,Z4 [])] (Zw [] (Z1a b ((vs.length+1:Nat):Int) (k+1) [] (hk:=om) (hz:=(by simp only [XP];omega))) (Z1 1 (ic [] (Zae (Te ((vs.length+1:Nat):Int) (Tz ((vs.length+1:Nat):Int) (b.steps.drop (k+1)) []) b.result) ls) ?_))))))))))))))))))
  rintro _ _ ⟨zs1,rfl,rfl,ZY⟩
  have hun:=ZY
  refine Z0 (ar (K6 6 [(55,Z4 vs),(57,Z4 ms)] [4,1] (ic [] (Z9a n vs x1 ms zs1 (mm+k) (hf:=hfS)) ?_)))
  rintro _ _ ⟨zs2,rfl,rfl,Yf⟩
  have hdu:=Yf
  have hq1:=Zx.cnts (op:=14) (.inl rfl) (vs:=zs2) (fun v hv=>hfS.args v (hdu.2 v hv))
  have hl1:=hq1.len
  refine ic [] (A5 14 zs2) ?_
  rintro _ _ ⟨v5,rfl,rfl⟩
  refine ZT 0 [(60,Vl (zs2.map (ZC 14)))] (ip 7 (ZG (xs++(zs2.map (ZC 14)))) (ZG xs) (ZG (zs2.map (ZC 14))) v none 5 (Xw _) (Xw _) (UO _) (by simp<;>omega) (by simp [V0,ZG]) fun v6=>Z0 (ar (K6 6 [(64,Z4 vs),(66,Z4 ms)] [6,3] (ic [] (Z96 n vs x1 ms zs1 (mm+k) b.sz (hf:=hfS) (h11:=hoS.1) (hop:=hoS.2) (hor:=XY) (ih:=ih)) ?_))))
  rintro _ _ ⟨y1,rfl,rfl,YJ⟩
  have hkt:=YJ
  have hq2:=hq1.kt hkt
  have hl2:=hq2.len
  refine TN [YD y1] (ZG [y1]) (VH [y1]).symm 1 5 fun v7=>ZT 0 [(69,Vl [y1])] (ip 1 (ZG ((xs++(zs2.map (ZC 14)))++[y1])) (ZG (xs++(zs2.map (ZC 14)))) (ZG [y1]) v6 none 5 (Xw _) (Xw _) (UO _) (by simp<;>omega) (by simp [V0,ZG]) fun v8=>Z0 (ar (K6 5 [(72,Z4 vs),(74,Z4 ms)] [7,4] (ic [] (Z9o n vs x1 ms zs1 (mm+k) (hf:=hfS)) ?_))))
  rintro _ _ ⟨zs3,v9,rfl,rfl,YT⟩
  have hla:=YT
  refine Z0 (ar (K6 4 [(79,Z4 zs3)] [8,5] (ic [] (Z9p n x1 zs3 zs1 (mm+k) (hf:=hfS)) ?_)))
  rintro _ _ ⟨zs4,rfl,rfl,Xk⟩
  have hld:=Xk
  have hq3:=hq2.cnts (op:=15) (.inr rfl) (vs:=zs4) (fun v hv=>by have:=hfS.args v (hld.2 v hv);omega)
  have hl3:=hq3.len
  refine Z0 (Y1 2 (ic [] (A5 15 zs4) ?_))
  rintro _ _ ⟨v10,rfl,rfl⟩
  refine ZT 0 [(84,Vl (zs4.map (ZC 15)))] (ip 2 (ZG (((xs++(zs2.map (ZC 14)))++[y1])++(zs4.map (ZC 15)))) (ZG ((xs++(zs2.map (ZC 14)))++[y1])) (ZG (zs4.map (ZC 15))) v8 none 5 (Xw _) (Xw _) (UO _) (by simp<;>omega) (by simp [V0,ZG]) fun v11=>?_)
  refine Z0 (Yo (ab 2 (Y3 (fun fz gz m F h=>∃(j:Nat) (m3:LI) (u3:Value) (v3:Value) (w3:Value),(j<=zs4.length)/\(m3.length<=os.length+k)/\(∀v∈m3,0<=v/\v<((mm+k:Nat):Int))/\F=sF [4,5,7,10,14,16,17,18,19] fz [(11,X9 (((xs++(zs2.map (ZC 14)))++[y1])++(zs4.map (ZC 15))) v3),(12,ZQ vs w3),(13,ZQ m3 u3),(20,.i j)]/\h=[Ze gz 7,Ze gz 8,Ze gz 9,.tail u3 1,.tail v3 5,.tail w3 1]/\m=zs4.length-j) _ _ _ ⟨0,zs3,v9,v11,w,ob,ob,(fun v hv=>XY v (hla.2 v hv)),rfl,rfl,rfl⟩ (wk [7,7,7,2,0,6] (fw (fr (Ya fl)))) ?_)))
  rintro m F h ⟨j,m3,u3,v3,w3,Um,Wa,W6,rfl,rfl,rfl⟩
  refine YP 2 (iw (Yc zs4) (Y9 ((j:Int)<(zs4.length:Int)) (fun Zg=>?_) (fun Zg=>?_)))
  ·refine ak (aq (ab 3 (az (Z1 3 ?_))))
   obtain ⟨x2,Zs⟩:=Zt zs4 j om
   refine Zq (Zm none (j:Int) 1 (Y2 Zs)) (ZT 1 [(92,Z4 m3)] (ic [] (Pu m3 x2) ?_))
   rintro _ _ ⟨v12,rfl,rfl⟩
   exact Z0 (az (Z1 1 (ZJ j (Z0 (ZK ⟨j+1,(QC m3 x2),v12,v3,w3,ob,(VL (EQ _ _) Wa),(fun v hv=>W6 v (DE hv)),rfl,rfl,rfl⟩ (wk [1,1,1,0,1,1] (fw (fr (ZO j fl)))))))))
  refine ax 2 (Y1 2 (iL (Z8 [Y0 n vs x1]) 1 1 fun v13=>ZT 0 [(100,Z4 [Y0 n vs x1])] (ip 6 (Z8 (vs++[Y0 n vs x1])) (Z8 vs) (Z8 [Y0 n vs x1]) w3 none 1 (YK _) (YK _) (WA _) (by simp<;>omega) (by simp [Wz,Z8]) fun v14=>Z0 (ar (Xx [4,5,7,10,11,12,13,14,16,17] [(108,.b (((Y0 n vs x1) != 0)&&(decide ((vs.length:Int)∈zs1))))] (fun gz=>gz) ?_ ?_)))))
  ·refine Z1 3 (ib (b:=((Y0 n vs x1) != 0)) 104 (fun Zb=>?_) (fun Zb=>?_))
   ·exact Z1 2 (Zw [] (Tw zs1 (vs.length:Int)) (Z0 (ZF 7 (Zu (decide ((vs.length:Int)∈zs1)) Zb fl))))
   exact Z0 (ZF 7 (Zu false Zb fl))
  refine ac (((Y0 n vs x1) != 0)&&(decide ((vs.length:Int)∈zs1))) (p:=((Y0 n vs x1)≠0)/\((vs.length:Int)∈zs1)) (YG Y6 dq) (fun ZH=>?_) (fun ZH=>?_)
  ·exact az (Z1 2 (iL (Z8 [(vs.length:Int)]) 1 1 fun v15=>ZT 0 [(111,Z4 [(vs.length:Int)])] (ip 6 (Z8 (m3++[(vs.length:Int)])) (Z8 m3) (Z8 [(vs.length:Int)]) u3 none 1 (YK _) (YK _) (WA _) (by simp<;>omega) (by simp [Wz,Z8]) fun v16=>Z0 (az (Z1 1 (ZJ k (Z0 (ZK ⟨k+1,(vs++[Y0 n vs x1]),v14,(m3++[(vs.length:Int)]),v16,(((xs++(zs2.map (ZC 14)))++[y1])++(zs4.map (ZC 15))),v3,ob,ob,(by first|exact hq3.le om|exact (hq3.cnt (op:=15) (.inr rfl) om).le om),ob,(by first|exact XW (fun v hv=>by have:=W6 v hv;omega) om|exact (fun v hv=>by have:=W6 v hv;omega)),rfl,rfl,rfl⟩ (wk [4,4,4,0,3,1] (fw (fr (ZO k fl))))))))))))
  refine ar (YE ((Y0 n vs x1) != 0) Y6 (fun Yj=>?_) (fun Yj=>?_))
  ·exact az (Z1 2 (Zw [] (Bb 15 (vs.length:Int)) (TN [YD (ZC 15 (vs.length:Int))] (ZG [(ZC 15 (vs.length:Int))]) (VH [(ZC 15 (vs.length:Int))]).symm 1 5 fun v17=>ZT 0 [(118,Vl [(ZC 15 (vs.length:Int))])] (ip 7 (ZG ((((xs++(zs2.map (ZC 14)))++[y1])++(zs4.map (ZC 15)))++[(ZC 15 (vs.length:Int))])) (ZG (((xs++(zs2.map (ZC 14)))++[y1])++(zs4.map (ZC 15)))) (ZG [(ZC 15 (vs.length:Int))]) v3 none 5 (Xw _) (Xw _) (UO _) (by simp<;>omega) (by simp [V0,ZG]) fun v18=>Z0 (az (Z1 1 (ZJ k (Z0 (ZK ⟨k+1,(vs++[Y0 n vs x1]),v14,m3,u3,((((xs++(zs2.map (ZC 14)))++[y1])++(zs4.map (ZC 15)))++[(ZC 15 (vs.length:Int))]),v18,ob,ob,(by first|exact hq3.le om|exact (hq3.cnt (op:=15) (.inr rfl) om).le om),ob,(by first|exact XW (fun v hv=>by have:=W6 v hv;omega) om|exact (fun v hv=>by have:=W6 v hv;omega)),rfl,rfl,rfl⟩ (wk [4,4,4,4,0,1] (fw (fr (ZO k fl)))))))))))))
  exact ak (az (Z1 1 (ZJ k (Z0 (ZK ⟨k+1,(vs++[Y0 n vs x1]),v14,m3,u3,(((xs++(zs2.map (ZC 14)))++[y1])++(zs4.map (ZC 15))),v3,ob,ob,(by first|exact hq3.le om|exact (hq3.cnt (op:=15) (.inr rfl) om).le om),ob,(by first|exact XW (fun v hv=>by have:=W6 v hv;omega) om|exact (fun v hv=>by have:=W6 v hv;omega)),rfl,rfl,rfl⟩ (wk [2,2,2,2,2,0] (fw (fr (ZO k fl)))))))))
 have hxl:=Zx.len
 have htl:=Bc b.steps k
 refine ax 0 (Yi 3 [1] ?_)
 obtain ⟨x3,YL⟩:=Zt vs b.result.toNat om
 refine Zq (Zm (some w) b.result 1 (Y2 YL)) (Xx [7,10,11] [(138,.b ((x3 != 0)&&((decide (b.result∈ls))||(!(decide (b.result∈ms))))))] (fun gz=>gz) ?_ ?_)
 ·refine Z1 3 (ib (b:=(x3 != 0)) 126 (fun Zz=>?_) (fun Zz=>?_))
  ·refine ZL 3 [1] (Zw [] (Tw ls b.result) (Z1 1 (ib (b:=(decide (b.result∈ls))) 131 (fun Yp=>?_) (fun Yp=>?_))))
   ·exact Z0 (ZF 6 (Zu true (And.intro Zz Yp) fl))
   exact K6 3 [(132,Z4 ms)] [1] (Zw [] (Tw ms b.result) (Z0 (ZF 6 (Zu (!(decide (b.result∈ms))) (And.intro Zz Yp) fl))))
  exact Z0 (ZF 6 (Zu false Zz fl))
 refine ac ((x3 != 0)&&((decide (b.result∈ls))||(!(decide (b.result∈ms))))) (p:=(x3≠0)/\((b.result∈ls)∨(¬(b.result∈ms)))) (YG Y6 (Yh dq (Ym dq))) (fun Xh=>?_) (fun Xh=>?_)
 ·exact az (ZL 3 [1] (Zw [] (Bb 14 b.result) (TN [YD (ZC 14 b.result)] (ZG [ZC 14 b.result]) (VH [ZC 14 b.result]).symm 1 5 fun v19=>ZT 0 [(143,Vl [ZC 14 b.result])] (ip 5 (ZG (xs++[ZC 14 b.result])) (ZG xs) (ZG [ZC 14 b.result]) v none 5 (Xw _) (Xw _) (UO _) (by simp<;>omega) (by simp [V0,ZG]) fun v20=>Z0 (Zv 4 [3] (ZA 2 b3 [X9 (xs++[ZC 14 b.result]) v20,.i b.result] (ie (ZB (r3 [] [.agg [X9 (xs++[ZC 14 b.result]) v20,.i b.result]] [0] [(b3,b3)] ⟨(Z7.mk (xs++[ZC 14 b.result]) b.result),rfl,rfl,(((Zx.cnt (op:=14) (.inl rfl) om).block om).le (by have:=Bc b.steps k;omega))⟩ (Zc.agg (.cons (Zc.forget _ _) (.cons (lr _) .nil))))))))))))
 exact ak (Zv 4 [1] (ZA 0 b3 [X9 xs v,.i b.result] (ie (ZB (r3 [] [.agg [X9 xs v,.i b.result]] [0] [(b3,b3)] ⟨(Z7.mk xs b.result),rfl,rfl,((Zx.block om).le (by have:=Bc b.steps k;omega))⟩ (Zc.agg (.cons (Zc.forget _ _) (.cons (lr _) .nil))))))))
theorem Z92 (n:Zl) (us:LI) (b:Z7) (os:LI) (ls:LI) (mm:Nat) (hn:X3 n:=by exact ob) (hf:fB n.decls n.routines.length mm b:=by exact ob) (hop:UA WZ b:=by exact ob) (hul:us.length=mm:=by exact ob) (hm:mm+4*b.sz<=100000:=by exact ob) (hor:∀v∈os,0<=v/\v<(mm:Int)) (hol:os.length+4*b.sz<=730:=by exact ob) (hal:ls.length+2000*b.sz<=1000000:=by exact ob) (hbz:b.sz<=500:=by exact ob):Zi 202 [Yr n,Z4 us,ZZ b,Z4 os,Z4 ls] [] (fun r h=>∃(y:Z7),r=ZZ y/\h=[]/\KB n.decls n.routines.length mm y (4500*b.sz)):=by
 have key:∀k:Nat,∀(us2:LI) (b2:Z7) (os2:LI) (as2:LI) (m2:Nat),(fB n.decls n.routines.length m2 b2)->(UA WZ b2)->(us2.length=m2)->(m2+4*b2.sz<=100000)->(∀v∈os2,0<=v/\v<(m2:Int))->(os2.length+4*b2.sz<=730)->(as2.length+2000*b2.sz<=1000000)->(b2.sz<=500)->(b2.sz<k)->Zi 202 [Yr n,Z4 us2,ZZ b2,Z4 os2,Z4 as2] [] (fun r h=>∃(y:Z7),r=ZZ y/\h=[]/\KB n.decls n.routines.length m2 y (4500*b2.sz)):=by
  intro k
  induction k with
  | zero=>intro us2 b2 os2 as2 m2 h1 h2 h3 h4 h5 h6 h7 h8 h9;omega
  | succ k ih=>intro us2 b2 os2 as2 m2 h1 h2 h3 h4 h5 h6 h7 h8 h9;exact Z93 n us2 b2 os2 as2 m2 hn h1 h2 h3 h4 h5 h6 h7 h8 fun us3 b3 os3 as3 m3 q1 q2 q3 q4 q5 q6 q7 q8 q9=>ih us3 b3 os3 as3 m3 q1 q2 q3 q4 q5 q6 q7 q8 om
 exact key (b.sz+1) us b os ls mm hf hop hul hm hor hol hal hbz om
theorem Z94 (n:Zl) (rt:Yb) (qz:Nat) (hn:X3 n:=by exact ob) (hr:RF n.decls n.routines.length qz WZ rt:=by exact ob) (hqz:qz<=181:=by exact ob):Zi 146 [Yr n,QJ rt] [] (fun r h=>∃(y:Z7),r=ZZ y/\h=[]/\KB n.decls n.routines.length rt.params.length y (4500*qz+10)):=by
 have hrp:rt.params.length<=3:=(Qn.bd (f:=⟨rt.params,rt.result,default⟩) hr.sig).1
 have hrl:=hr.lent.1
 have hrz:=hr.body.2
 refine ZE 65 Tryz.func146 (ar (iA (YV n) fun b1=>iA (Tt rt) fun b2=>iA [nl,.i 0] fun b3=>ie (Zv 4 [1,1] (iw (Yc rt.params) (Zw [] (Z1m rt.body (rt.params.length:Int)) ?_)))))
 have hub:=HE (n:=(rt.params.length:Int)) rt.body []
 simp only [XP,Vy] at hub
 refine Z0 (ar (iL (Z8 []) 0 1 fun v1=>Z0 (ar (iL (Z8 []) 0 1 fun v2=>?_))))
 refine Z0 (Yo (ab 0 (Y3 (fun fz gz m F h=>∃(k:Nat) (os:LI) (u:Value) (dr:LI) (w:Value),(k<=rt.params.length)/\(os.length<=k)/\(dr.length<=k)/\(∀v∈os,0<=v/\v<(rt.params.length:Int))/\(∀v∈dr,0<=v/\v<(rt.params.length:Int))/\F=sF [2,3,4,5] fz [(6,ZQ os u),(7,ZQ dr w),(8,.i k)]/\h=[Ze gz 2,Ze gz 3,Ze gz 4,.tail u 1,.tail w 1]/\m=rt.params.length-k) _ _ _ ⟨0,[],v1,[],v2,ob,ob,ob,(fun v hv=>by cases hv),(fun v hv=>by cases hv),rfl,rfl,rfl⟩ (wk [2,2,2,1,0] (fw (Ya fl))) ?_)))
 rintro m F h ⟨k,os,u,dr,w,Ye,Zk,Zx,Yy,XY,rfl,rfl,rfl⟩
 refine Yi 3 [1] (iw (Yc rt.params) (Y9 ((k:Int)<(rt.params.length:Int)) (fun Za=>?_) (fun Za=>?_)))
 ·refine ak (aq (ab 1 (Zv 3 [1] ?_)))
  obtain ⟨x1,Z3⟩:=Zt rt.params k om
  refine Zq (Zm none (k:Int) 1 (Y2 Z3)) (Xx [2,3,4,5,6,7,8] [(37,.b ((x1 != 0)&&(!(decide ((k:Int)∈rt.lent)))))] (fun gz=>gz) ?_ ?_)
  ·refine Z1 3 (ib (b:=(x1 != 0)) 31 (fun Zb=>?_) (fun Zb=>?_))
   ·exact ZL 3 [1] (Zw [] (Tw rt.lent (k:Int)) (Z0 (ZF 5 (Zu (!(decide ((k:Int)∈rt.lent))) Zb fl))))
   exact Z0 (ZF 5 (Zu false Zb fl))
  refine ac ((x1 != 0)&&(!(decide ((k:Int)∈rt.lent)))) (p:=(x1≠0)/\(¬((k:Int)∈rt.lent))) (YG Y6 (Ym dq)) (fun Zg=>?_) (fun Zg=>?_)
  ·refine Y1 2 (Zw [] (Tw (Ty (rt.params.length:Int) rt.body []) (k:Int)) (ie (XF ((k:Int)∈(Ty (rt.params.length:Int) rt.body [])) (fun ZH=>?_) (fun ZH=>?_))))
   ·exact az (Z1 2 (iL (Z8 [(k:Int)]) 1 1 fun v3=>ZT 0 [(43,Z4 [(k:Int)])] (ip 4 (Z8 (os++[(k:Int)])) (Z8 os) (Z8 [(k:Int)]) u none 1 (YK _) (YK _) (WA _) (by simp<;>omega) (by simp [Wz,Z8]) fun v4=>Z0 (az (Z1 1 (ZJ k (Z0 (ZK ⟨k+1,(os++[(k:Int)]),v4,dr,w,ob,ob,ob,(by first|exact Yy|exact XW Yy om),(by first|exact XY|exact XW XY om),rfl,rfl,rfl⟩ (wk [2,2,2,0,1] (fw (ZO k fl)))))))))))
   exact az (Z1 2 (iL (Z8 [(k:Int)]) 1 1 fun v5=>ZT 0 [(47,Z4 [(k:Int)])] (ip 5 (Z8 (dr++[(k:Int)])) (Z8 dr) (Z8 [(k:Int)]) w none 1 (YK _) (YK _) (WA _) (by simp<;>omega) (by simp [Wz,Z8]) fun v6=>Z0 (az (Z1 1 (ZJ k (Z0 (ZK ⟨k+1,os,u,(dr++[(k:Int)]),v6,ob,ob,ob,(by first|exact Yy|exact XW Yy om),(by first|exact XY|exact XW XY om),rfl,rfl,rfl⟩ (wk [2,2,2,2,0] (fw (ZO k fl)))))))))))
  exact ak (az (Z1 1 (ZJ k (Z0 (ZK ⟨k+1,os,u,dr,w,ob,ob,ob,(by first|exact Yy|exact XW Yy om),(by first|exact XY|exact XW XY om),rfl,rfl,rfl⟩ (ZF 5 (fw (ZO k fl))))))))
 refine ax 0 (Zv 6 [2,1,1] (iL (Z8 []) 0 1 fun v7=>ZT 0 [(54,Z4 os),(55,Z4 [])] (ic [] (Z92 n rt.params rt.body os [] rt.params.length (hf:=hr.body.1) (hop:=hr.op) (hor:=Yy) (hal:=(by simp only [XP];omega))) ?_)))
 rintro _ _ ⟨y1,rfl,rfl,YJ⟩
 have hkb:=YJ
 have hkl:=hkb.len
 refine iA [nl,.i 0] fun b4=>ZA 0 b4 (Xu y1) (ie (aD 9 (Eb 4 9 [0,2,3,5,6] [(57,Z4 dr)] [0,0] (Z9 1 (dc 1 [] [0,0] [b4,b4] (A5 15 dr) ?_)))))
 rintro _ _ ⟨v8,rfl,rfl⟩
 exact Z9 4 (dp 4 0 [0] [b4] (ZG ((dr.map (ZC 15))++y1.steps)) (ZG (dr.map (ZC 15))) (ZG y1.steps) v8 none 5 (Xw _) (Xw _) (UO _) (by simp<;>omega) (by simp [V0,ZG]) fun v9=>Zj 1 2 [7] (Z9 8 (YM 8 3 [] [] b3 [X9 ((dr.map (ZC 15))++y1.steps) v9,.i y1.result] (de (ZB (r3 [] [.agg [X9 ((dr.map (ZC 15))++y1.steps) v9,.i y1.result]] [0] [(b3,b3)] ⟨(Z7.mk ((dr.map (ZC 15))++y1.steps) y1.result),rfl,rfl,((hkb.put1 (op:=15) (.inr rfl) XY).le om)⟩ (Zc.agg (.cons (Zc.forget _ _) (.cons (lr _) .nil)))))))))
theorem Z97 (n:Zl) (qz:Nat) (hn:FO n qz WZ:=by exact ob) (hqz:qz<=181:=by exact ob):Zi 85 [Yr n] [] (fun r h=>∃(n2:Zl),r=Yr n2/\h=[]/\FO n2 (4500*qz+10) JT):=by
 have hnl:=hn.fn.len
 have XC:=hn.fn.decls.ok
 have hok:=hn.fn.ok
 refine ZE 36 Tryz.func85 (ar (iA (YV n) fun b1=>iA [nl,nl] fun b2=>ie (Zv 2 [1] (Zw [] (Fd n.decls) (iL (YX []) 0 5 fun v1=>Z1 1 (iA [nl,nl] fun b3=>?_))))))
 refine ZA 0 b3 [ZM n.decls,VD [] v1] (ie (Yo (ab 0 (Y3 (fun fz gz m F h=>∃(k:Nat) (rs:List Yb) (u:Value),(k<=n.routines.length)/\(rs.length=k)/\(∀r∈rs,RF n.decls n.routines.length (4500*qz+10) JT r)/\F=sF [1,2,3] fz [(4,.i k)]/\h=[.obj b3 [ZM n.decls,VD rs u],Ze gz 2,Ze gz 3,.tail u 5]/\m=n.routines.length-k) _ _ _ ⟨0,[],v1,ob,ob,(fun r hr=>by cases hr),rfl,rfl,rfl⟩ (wk [0,1,1,0] (Ya fl)) ?_))))
 rintro m F h ⟨k,rs,u,Ye,Zk,Zx,rfl,rfl,rfl⟩
 refine Yi 3 [2] (iw (Ug n.routines) (Y9 ((k:Int)<(n.routines.length:Int)) (fun Za=>?_) (fun Za=>?_)))
 ·refine ak (aq (ab 1 (aE 19 (ZI 14 19 [0,1,2,3,4] [0,2] ?_))))
  obtain ⟨x1,Z3⟩:=Zt n.routines k om
  have hrf:=hn.rf (Y4 Z3)
  have hrp:(x1).params.length<=3:=(Qn.bd (f:=⟨(x1).params,(x1).result,default⟩) hrf.sig).1
  have hrl:=hrf.lent.1
  have hrz:=hrf.body.2
  refine dx 5 (Zm none (k:Int) 5 (WW Z3)) (ZI 8 13 [6,7,8,9,10] [2,2] (dx 11 (Zm none (k:Int) 5 (WW Z3)) (Zj 6 7 [12] (Z9 13 (dc 13 [] [2,0] [b1,b3] (Z94 n x1 qz (hr:=hrf)) ?_)))))
  rintro _ _ ⟨y1,rfl,rfl,ZY⟩
  have hkb:=ZY
  exact Z9 14 (Yz 14 [] [0] [b3] (Hw x1 y1 (hp:=om) (hl:=om)) (Z9 15 (dL 15 [0] [b3] (YX [Yb.mk x1.params x1.lent x1.result y1]) 1 5 fun v2=>YA 3 3 [] [(32,Kh [Yb.mk x1.params x1.lent x1.result y1])] (Z9 16 (dp 16 4 [] [] (YX (rs++[Yb.mk x1.params x1.lent x1.result y1])) (YX rs) (YX [Yb.mk x1.params x1.lent x1.result y1]) u none 5 (TX _) (TX _) (Cq _) (by simp<;>omega) (by simp [Cp,YX]) fun v3=>Zj 1 2 [17] (Z9 18 (YM 18 2 [] [] b3 [ZM n.decls,VD (rs++[Yb.mk x1.params x1.lent x1.result y1]) v3] (de (az (Z1 1 (ZJ k (Z0 (ZK ⟨k+1,(rs++[Yb.mk x1.params x1.lent x1.result y1]),v3,ob,ob,(XW Zx (by first|exact hrf.with hkb.fb hkb.sz hkb.op|(rw [Z7.eta];exact hrf.with hkb.fb hkb.sz hkb.op))),rfl,rfl,rfl⟩ (wk [0,2,2,0] (ZO k fl)))))))))))))))
 exact ax 0 (Zv 1 [0] (ZA 1 b2 [ZM n.decls,VD rs u] (ie (ZB (r3 [] [.agg [ZM n.decls,VD rs u]] [0] [(b2,b2)] ⟨(Zl.mk n.decls rs),rfl,rfl,(FO.fin hn.fn om Zx).1⟩ (Zc.agg (.cons (lr _) (.cons (Zc.forget _ _) .nil))))))))
theorem Z8z (n:Zl) (us:LI) (s:Z5) (mm:Nat) (hn:X3 n:=by exact ob) (hf:FS n.decls n.routines.length mm s:=by exact ob) (hvl:us.length=mm:=by exact ob) (hm:mm<=100000000:=by exact ob):Zi 204 [Yr n,Z4 us,YD s] [] (fun r h=>∃(zs:LI),r=Z4 zs/\h=[]/\zs.length<=s.args.length/\∀z∈zs,z∈s.args):=by
 have hal:=hf.alen
 refine ZE 31 Tryz.func204 (ar (iA (YV n) fun b1=>iA (Xz s) fun b2=>Z0 (ar (iL (Z8 []) 0 1 fun v1=>?_))))
 refine Z0 (Yo (ab 0 (Y3 (fun fz gz m F h=>∃(k:Nat) (zs:LI) (u:Value),(k<=s.args.length)/\(zs.length<=k)/\(∀z∈zs,z∈s.args)/\F=sF [1,3,5] fz [(7,ZQ zs u),(8,.i k)]/\h=[Ze gz 1,Ze gz 2,.tail u 1]/\m=s.args.length-k) _ _ _ ⟨0,[],v1,ob,ob,(fun z hz=>by cases hz),rfl,rfl,rfl⟩ (wk [1,1,0] (fr (Ya fl))) ?_)))
 rintro m F h ⟨k,zs,u,Ye,Zk,Zx,rfl,rfl,rfl⟩
 refine Yi 3 [0] (iw (Yc s.args) (Y9 ((k:Int)<(s.args.length:Int)) (fun Za=>?_) (fun Za=>?_)))
 ·obtain ⟨a1,ha1⟩:=Zt s.args k om
  have har:=hf.args a1 (Y4 ha1)
  refine ak (aq (ab 1 (Zv 4 [1,0] (Zw [] (Hv n us s k a1 (hnum:=hf.call) (ha:=ha1)) (ie (ac (TH n us s.op s.num a1 k) Iff.rfl (fun Zg=>?_) (fun Zg=>?_)))))))
  ·exact az (ZL 4 [0] (Zq (Zm none (k:Int) 1 (Y2 ha1)) (Z1 1 (iL (Z8 [a1]) 1 1 fun v2=>ZT 0 [(28,Z4 [a1])] (ip 3 (Z8 (zs++[a1])) (Z8 zs) (Z8 [a1]) u none 1 (YK _) (YK _) (WA _) (by simp<;>omega) (by simp [Wz,Z8]) fun v3=>Z0 (az (Z1 1 (ZJ k (Z0 (ZK ⟨k+1,(zs++[a1]),v3,ob,ob,(by first|exact Zx|exact XW Zx (Y4 ha1)),rfl,rfl,rfl⟩ (wk [2,2,0] (fr (ZO k fl)))))))))))))
  exact ak (az (Z1 1 (ZJ k (Z0 (ZK ⟨k+1,zs,u,ob,ob,(by first|exact Zx|exact XW Zx (Y4 ha1)),rfl,rfl,rfl⟩ (ZF 3 (fr (ZO k fl))))))))
 exact ax 0 (ar (Zp (r2 [] [ZQ zs u] ⟨zs,rfl,rfl,⟨by omega,Zx⟩⟩ (Zc.forget _ _))))
theorem Z9m (n:Zl) (us:LI) (s:Z5) (mm:Nat) (bb:Nat) (hn:X3 n:=by exact ob) (hf:FS n.decls n.routines.length mm s:=by exact ob) (h11:s.op<=11:=by exact ob) (hop:Jb WZ s.kids:=by exact ob) (hul:us.length=mm:=by exact ob) (hm:mm+4*s.sz<=100000:=by exact ob) (hbz:s.sz<=500:=by exact ob) (hb:s.sz<=bb:=by exact ob) (ih:∀(us2:LI) (b2:Z7) (mi2:LI) (m2:Nat),(fB n.decls n.routines.length m2 b2)->(UA WZ b2)->(us2.length=m2)->(m2+4*b2.sz<=100000)->(∀v∈mi2,0<=v/\v<(m2:Int))->(mi2.length<=3)->(b2.sz<=500)->(b2.sz<bb)->Zi 147 [Yr n,Z4 us2,ZZ b2,Z4 mi2] [] (fun r h=>∃(y:Z7),r=ZZ y/\h=[]/\KB n.decls n.routines.length m2 y (60*b2.sz))):Zi 205 [Yr n,Z4 us,YD s] [] (fun r h=>∃(y:Z5),r=YD y/\h=[]/\KT n.decls n.routines.length mm y (60*Xl s.kids+23)):=by
 have XC:=hn.decls
 have hkf:=hf.few XC
 have hsa:=hf.alen
 refine ZE 72 Tryz.func205 (ar (iA (YV n) fun b1=>iA (Xz s) fun b2=>iA [.i 0,.i 0,.i 0,nl,nl] fun b3=>ie (ar (iL (YR []) 0 2 fun v1=>Z0 (Zv 4 [3,2] (ic [] (Ba n.decls s.num) ?_))))))
 rintro _ _ ⟨v2,rfl,rfl⟩
 refine Z0 (Yo (ab 0 (Y3 (fun fz gz m F h=>∃(k:Nat) (ks:List Z7) (u:Value),(k<=s.kids.length)/\(ks.length=k)/\(KK n.decls n.routines.length (QE n.decls s.op s.num mm) ks (60*Xl (s.kids.take k)+6*k))/\F=sF [1,3,5,6] fz [(7,Q4 ks u),(8,Z4 (ZV n.decls s.num)),(9,.i k)]/\h=[Ze gz 2,Ze gz 3,Ze gz 4,.tail u 2]/\m=s.kids.length-k) _ _ _ ⟨0,[],v1,ob,ob,(KK.nil.le (Ac _)),rfl,rfl,rfl⟩ (wk [2,2,2,1] (fr (fc (x:=ZQ (ZV n.decls s.num) v2) (Zc.forget _ _) (Ya fl)))) ?_)))
 rintro m F h ⟨k,ks,u,Ye,Zk,Zx,rfl,rfl,rfl⟩
 refine Yi 3 [1] (iw (Uf s.kids) (Y9 ((k:Int)<(s.kids.length:Int)) (fun Za=>?_) (fun Za=>?_)))
 ·refine ak (aq (ab 1 (ar (iL (Z8 []) 0 1 fun v3=>?_))))
  refine Z0 (Xa (VY [2] (Wm (fun fz gz F h=>∃(fds:LI),(QE n.decls s.op s.num mm k=mm+fds.length)/\(fds.length<=3)/\F=sF [1,3,5,6,7,8,9] fz [(10,Z4 fds)]/\h=[Ze gz 1,Ze gz 2,Ze gz 3,Ze gz 4]) ?_ ?_)))
  ·refine ac (s.op==8) Zr (fun Zg=>?_) (fun Zg=>?_)
   ·refine aE 8 (ZI 4 8 [0,1,2,3] [3] ?_)
    obtain ⟨x1,Z3⟩:=Zt (ZV n.decls s.num) k (by have:=hf.k8 (by assumption);omega)
    have hcf:=UF XC x1
    exact dx 4 (Zm none (k:Int) 1 (Y2 Z3)) (Zj 2 3 [5] (Z9 6 (Yz 6 [] [] [] (JE n.decls x1) (Zj 0 1 [7] (de (ZU ⟨ZX n.decls x1,(Mz (by assumption) Z3),ob,rfl,rfl⟩ (wk [1,1,1,1] fl)))))))
   exact ak (ZU ⟨[],(by rw [MA (by assumption)];rfl),ob,rfl,rfl⟩ (wk [1,1,1,1] fl))
  rintro F h ⟨fds,KF,GS,rfl,rfl⟩
  refine Y1 2 (iw (Yc us) (ic [] (Pm fds us.length) ?_))
  rintro _ _ ⟨xs1,rfl,rfl,ZY⟩
  have hhf:=ZY
  refine Z0 (aD 13 (ZI 7 13 [0,1,2,4,5,6] [2,1] ?_))
  obtain ⟨x2,Zs⟩:=Zt s.kids k om
  have hkz:=Tq Zs
  have hfk:=Gd hf.kids Zs
  rw [Vy,KF] at hfk
  have hok:=EP.1 hop x2 (Y4 Zs)
  have hbt:=If Zs
  have hba:=FM Zs
  refine dx 7 (Zm none (k:Int) 2 (T3 Zs)) (Zj 4 6 [8,9] (Jq (fun fz gz F h=>∃(y1:Z7) (b4:Nat),(KB n.decls n.routines.length (mm+fds.length) y1 (60*x2.sz))/\F=sF [1,3,5,6,7,8,9,11] fz [(12,.p b4 0)]/\h=[.obj b4 (Xu y1),Ze gz 0,Ze gz 1,Ze gz 2,Ze gz 3]) ?_ ?_))
  ·refine VN 3 11 ?_ ?_
   ·refine dc 3 [] [1,2] [b2,b1] (KN us fds) ?_
    rintro _ _ ⟨v4,rfl,rfl⟩
    refine YA 3 3 [] [(44,Z4 (us++fds))] (VN 10 11 ?_ ?_)
    ·refine dc 10 [] [] [] (ih (us++fds) x2 xs1 (mm+fds.length) hfk hok (by rw [Yq,hul]) ob (fun v hv=>by have:=hhf.2 v hv;omega) ob ob ob) ?_
     rintro _ _ ⟨y1,rfl,rfl,Yf⟩
     have hkb:=Yf
     have hkl:=hkb.len
     exact Z9 11 (dA 11 [] [] [nl,.i 0] fun b4=>Z9 12 (YM 12 0 [] [] b4 (Xu y1) (de (ZU ⟨_,b4,(by assumption),rfl,rfl⟩ (wk [0,1,1,1,1] fl)))))
    refine dA 11 [1,2] [b2,b1] [nl,.i 0] fun b5=>Z9 10 (dc 10 [] [] [] (ih (us++fds) x2 xs1 (mm+fds.length) hfk hok (by rw [Yq,hul]) ob (fun v hv=>by have:=hhf.2 v hv;omega) ob ob ob) ?_)
    rintro _ _ ⟨y2,rfl,rfl,YJ⟩
    have hkb:=YJ
    have hkl:=hkb.len
    exact Z9 12 (YM 12 0 [] [] b5 (Xu y2) (de (ZU ⟨_,b5,(by assumption),rfl,rfl⟩ (wk [0,1,1,1,1] fl))))
   refine dA 11 [1,2] [b2,b1] [nl,.i 0] fun b6=>Z9 3 (dc 3 [] [2,3] [b2,b1] (KN us fds) ?_)
   rintro _ _ ⟨v5,rfl,rfl⟩
   refine YA 2 2 [] [(44,Z4 (us++fds))] (Z9 10 (dc 10 [] [] [] (ih (us++fds) x2 xs1 (mm+fds.length) hfk hok (by rw [Yq,hul]) ob (fun v hv=>by have:=hhf.2 v hv;omega) ob ob ob) ?_))
   rintro _ _ ⟨y3,rfl,rfl,YT⟩
   have hkb:=YT
   have hkl:=hkb.len
   exact Z9 12 (YM 12 1 [] [] b6 (Xu y3) (de (ZU ⟨_,b6,(by assumption),rfl,rfl⟩ (wk [0,1,1,1,1] fl))))
  rintro F h ⟨y1,b4,Yf,rfl,rfl⟩
  have hkb:=Yf
  have hkl:=hkb.len
  refine aE 12 (ZI 6 12 [0,1,3,4,6,7] [0,0] (Z9 2 (dc 2 [] [0,0] [b4,b4] (A5 14 xs1) ?_)))
  rintro _ _ ⟨v6,rfl,rfl⟩
  exact Z9 5 (dp 5 0 [0] [b4] (ZG ((xs1.map (ZC 14))++y1.steps)) (ZG (xs1.map (ZC 14))) (ZG y1.steps) v6 none 5 (Xw _) (Xw _) (UO _) (by simp<;>omega) (by simp [V0,ZG]) fun v7=>YA 3 4 [8] [(60,.agg [Vl ((xs1.map (ZC 14))++y1.steps),.i y1.result])] (Z9 9 (WU 9 [] [] [ZZ (Z7.mk ((xs1.map (ZC 14))++y1.steps) y1.result)] (YR [Z7.mk ((xs1.map (ZC 14))++y1.steps) y1.result]) (TW [Z7.mk ((xs1.map (ZC 14))++y1.steps) y1.result]).symm 1 2 fun v8=>YA 2 2 [] [(61,XO [Z7.mk ((xs1.map (ZC 14))++y1.steps) y1.result])] (Z9 10 (dp 10 6 [] [] (YR (ks++[Z7.mk ((xs1.map (ZC 14))++y1.steps) y1.result])) (YR ks) (YR [Z7.mk ((xs1.map (ZC 14))++y1.steps) y1.result]) u none 2 (Kd _) (Kd _) (Iy _) (by simp<;>omega) (by simp [BA,YR]) fun v9=>Zj 0 1 [11] (de (az (Z1 1 (ZJ k (Z0 (ZK ⟨k+1,(ks++[Z7.mk ((xs1.map (ZC 14))++y1.steps) y1.result]),v9,ob,ob,((Zx.snoc Zk (by rw [KF];exact hkb.put1 (op:=14) (.inl rfl) (fun v hv=>by have:=hhf.2 v hv;omega))).le om),rfl,rfl,rfl⟩ (wk [4,4,4,0] (fw (ZO k fl))))))))))))))
 refine ax 0 (aD 10 (ZI 3 10 [0,1,2,3,4,5,7] [1,1,1] (Z9 6 (dc 6 [] [1,1] [b2,b2] (Tc s.args) ?_))))
 rintro _ _ ⟨v10,rfl,rfl⟩
 exact Zj 1 2 [8] (Z9 9 (YM 9 1 [] [] b3 [.i s.op,.i s.num,.i 0,ZQ s.args v10,Q4 ks u] (de (ZB (r3 [] [.agg [.i s.op,.i s.num,.i 0,ZQ s.args v10,Q4 ks u]] [0] [(b3,b3)] ⟨(Z5.mk s.op s.num 0 s.args ks),rfl,rfl,((KT.of (into:=0) hf h11 om om Zx).le (by have:=NS (xs:=s.kids) (k:=k) om;omega))⟩ (Zc.agg (.cons (lr _) (.cons (lr _) (.cons (lr _) (.cons (Zc.forget _ _) (.cons (Zc.forget _ _) .nil)))))))))))
theorem Z9l (n:Zl) (us:LI) (b:Z7) (mi:LI) (mm:Nat) (hn:X3 n) (hf:fB n.decls n.routines.length mm b) (hop:UA WZ b) (hul:us.length=mm) (hm:mm+4*b.sz<=100000) (hmr:∀v∈mi,0<=v/\v<(mm:Int)) (hml:mi.length<=3) (hbz:b.sz<=500) (ih:∀(us2:LI) (b2:Z7) (mi2:LI) (m2:Nat),(fB n.decls n.routines.length m2 b2)->(UA WZ b2)->(us2.length=m2)->(m2+4*b2.sz<=100000)->(∀v∈mi2,0<=v/\v<(m2:Int))->(mi2.length<=3)->(b2.sz<=500)->(b2.sz<b.sz)->Zi 147 [Yr n,Z4 us2,ZZ b2,Z4 mi2] [] (fun r h=>∃(y:Z7),r=ZZ y/\h=[]/\KB n.decls n.routines.length m2 y (60*b2.sz))):Zi 147 [Yr n,Z4 us,ZZ b,Z4 mi] [] (fun r h=>∃(y:Z7),r=ZZ y/\h=[]/\KB n.decls n.routines.length mm y (60*b.sz)):=by
 have XC:=hn.decls
 have hbe:=b.sz_eq
 have ZP:=Td b
 obtain ⟨hfs,hr1,hr2⟩:=(Gc b).1 hf
 have hos:=DD.1 ((M3 b).1 hop)
 have hdn:=Is hos
 have hdl:=hdn b.steps.length (X6 _)
 rw [Vw] at hdl
 refine ZE 80 Tryz.func147 (ar (iA (YV n) fun b1=>iA (Xu b) fun b2=>iA [nl,.i 0] fun b3=>ie (ar (iL (ZG []) 0 5 fun v1=>Z0 (Y1 1 (ic [] (Tc us) ?_))))))
 rintro _ _ ⟨v2,rfl,rfl⟩
 refine Z0 (Y1 1 (ic [] (Tc mi) ?_))
 rintro _ _ ⟨v3,rfl,rfl⟩
 refine Z0 (Yo (ab 0 (Y3 (fun fz gz m F h=>∃(k:Nat) (vs:LI) (w:Value) (ow:LI) (u:Value) (xs:List Z5) (v:Value) (z0:Nat),(k<=b.steps.length)/\(vs.length=mm+k)/\(CL n.decls n.routines.length mm xs k z0)/\(z0+2*ow.length<=60*Yk (b.steps.take k)+2*mi.length)/\(∀v∈ow,0<=v/\v<((mm+k:Nat):Int))/\F=sF [4,6,8] fz [(9,X9 xs v),(10,ZQ vs w),(11,ZQ ow u),(12,.i k)]/\h=[Ze gz 3,Ze gz 4,Ze gz 5,.tail u 1,.tail v 5,.tail w 1]/\m=b.steps.length-k) _ _ _ ⟨0,us,v2,mi,v3,[],v1,0,ob,ob,CL.nil,(by simp),hmr,rfl,rfl,rfl⟩ (wk [3,3,3,0,1,0] (fw (fr (Ya fl)))) ?_)))
 rintro m F h ⟨k,vs,w,ow,u,xs,v,z0,Ye,Zk,Zx,Yy,XY,rfl,rfl,rfl⟩
 refine Yi 3 [1] (iw (VU b.steps) (Y9 ((k:Int)<(b.steps.length:Int)) (fun Za=>?_) (fun Za=>?_)))
 ·refine ak (aq (ab 1 (Zv 3 [1] ?_)))
  obtain ⟨x1,Z3⟩:=Zt b.steps k om
  have Xv:=Fh Z3
  have hfS:=(IW x1).1 (Ge hfs Z3)
  rw [hdn k om] at hfS
  have hoS:=(Hb x1).1 (hos x1 (Y4 Z3))
  have htk:=Z1t Z3
  have hse:=(x1).sz_eq
  have hal4:=hfS.alen
  have hxl:=Zx.len
  have htl:=Bc b.steps (k+1)
  refine Zq (Zm none (k:Int) 5 (VP Z3)) (Z1 1 (iA [.i 0,.i 0,.i 0,nl,nl] fun b4=>ZA 0 b4 (Xz x1) (ie (ar (K6 3 [(33,Z4 vs)] [3,0] (Zw [] (MN n vs x1 ob ob) (Z0 (ar (K6 4 [(38,Z4 vs)] [3,0] (ic [] (Z8z n vs x1 (mm+k) (hf:=hfS)) ?_))))))))))
  rintro _ _ ⟨zs1,rfl,rfl,ZY⟩
  have hdu:=ZY
  have hq1:=Zx.cnts (op:=14) (.inl rfl) (vs:=zs1) (fun v hv=>hfS.args v (hdu.2 v hv))
  have hl1:=hq1.len
  refine ic [] (A5 14 zs1) ?_
  rintro _ _ ⟨v4,rfl,rfl⟩
  refine ZT 0 [(41,Vl (zs1.map (ZC 14)))] (ip 6 (ZG (xs++(zs1.map (ZC 14)))) (ZG xs) (ZG (zs1.map (ZC 14))) v none 5 (Xw _) (Xw _) (UO _) (by simp<;>omega) (by simp [V0,ZG]) fun v5=>Z0 (ar (K6 4 [(45,Z4 vs)] [5,2] (ic [] (Z9m n vs x1 (mm+k) b.sz (hf:=hfS) (h11:=hoS.1) (hop:=hoS.2) (ih:=ih)) ?_))))
  rintro _ _ ⟨y1,rfl,rfl,Yf⟩
  have hkt:=Yf
  have hq2:=hq1.kt hkt
  have hl2:=hq2.len
  refine TN [YD y1] (ZG [y1]) (VH [y1]).symm 1 5 fun v6=>ZT 0 [(48,Vl [y1])] (ip 1 (ZG ((xs++(zs1.map (ZC 14)))++[y1])) (ZG (xs++(zs1.map (ZC 14)))) (ZG [y1]) v5 none 5 (Xw _) (Xw _) (UO _) (by simp<;>omega) (by simp [V0,ZG]) fun v7=>Z0 (Xa (YE ((Y0 n vs x1) != 0) Y6 (fun Zg=>?_) (fun Zg=>?_))))
  ·exact az (Z1 2 (iw (Yc vs) (iL (Z8 [(vs.length:Int)]) 1 1 fun v8=>ZT 0 [(55,Z4 [(vs.length:Int)])] (ip 8 (Z8 (ow++[(vs.length:Int)])) (Z8 ow) (Z8 [(vs.length:Int)]) u none 1 (YK _) (YK _) (WA _) (by simp<;>omega) (by simp [Wz,Z8]) fun v9=>Z0 (az (Z1 2 (iL (Z8 [Y0 n vs x1]) 1 1 fun v10=>ZT 0 [(59,Z4 [Y0 n vs x1])] (ip 10 (Z8 (vs++[Y0 n vs x1])) (Z8 vs) (Z8 [Y0 n vs x1]) w none 1 (YK _) (YK _) (WA _) (by simp<;>omega) (by simp [Wz,Z8]) fun v11=>Z0 (az (Z1 1 (ZJ k (Z0 (ZK ⟨k+1,(vs++[Y0 n vs x1]),v11,(ow++[(vs.length:Int)]),v9,((xs++(zs1.map (ZC 14)))++[y1]),v7,_,ob,ob,hq2,(by (try simp only [Yq,X5,XP]);omega),(by first|exact XW (fun v hv=>by have:=XY v hv;omega) om|exact (fun v hv=>by have:=XY v hv;omega)),rfl,rfl,rfl⟩ (wk [8,8,8,2,3,0] (fw (fr (ZO k fl)))))))))))))))))
  exact ak (az (Z1 2 (iL (Z8 [Y0 n vs x1]) 1 1 fun v12=>ZT 0 [(59,Z4 [Y0 n vs x1])] (ip 9 (Z8 (vs++[Y0 n vs x1])) (Z8 vs) (Z8 [Y0 n vs x1]) w none 1 (YK _) (YK _) (WA _) (by simp<;>omega) (by simp [Wz,Z8]) fun v13=>Z0 (az (Z1 1 (ZJ k (Z0 (ZK ⟨k+1,(vs++[Y0 n vs x1]),v13,ow,u,((xs++(zs1.map (ZC 14)))++[y1]),v7,_,ob,ob,hq2,(by (try simp only [Yq,X5,XP]);omega),(by first|exact XW (fun v hv=>by have:=XY v hv;omega) om|exact (fun v hv=>by have:=XY v hv;omega)),rfl,rfl,rfl⟩ (wk [6,6,6,6,2,0] (fw (fr (ZO k fl)))))))))))))
 have hxl:=Zx.len
 have htl:=Bc b.steps k
 refine ax 0 (Yi 3 [1] ?_)
 obtain ⟨x2,Zs⟩:=Zt vs b.result.toNat om
 refine Zq (Zm (some w) b.result 1 (Y2 Zs)) (YE (x2 != 0) Y6 (fun ZH=>?_) (fun ZH=>?_))
 ·refine az (ZL 3 [1] (Zw [] (Bb 14 b.result) (TN [YD (ZC 14 b.result)] (ZG [ZC 14 b.result]) (VH [ZC 14 b.result]).symm 1 5 fun v14=>ZT 0 [(71,Vl [ZC 14 b.result])] (ip 5 (ZG (xs++[ZC 14 b.result])) (ZG xs) (ZG [ZC 14 b.result]) v none 5 (Xw _) (Xw _) (UO _) (by simp<;>omega) (by simp [V0,ZG]) fun v15=>Z0 (aD 8 (Eb 4 8 [0,1,4,5] [(74,Z4 ow)] [3] (Z9 2 (dc 2 [] [1] [b2] (A5 15 ow) ?_))))))))
  rintro _ _ ⟨v16,rfl,rfl⟩
  exact YA 3 3 [] [(75,Vl (ow.map (ZC 15)))] (Z9 3 (dp 3 1 [1] [b2] (ZG ((xs++[ZC 14 b.result])++(ow.map (ZC 15)))) (ZG (xs++[ZC 14 b.result])) (ZG (ow.map (ZC 15))) v15 none 5 (Xw _) (Xw _) (UO _) (by simp<;>omega) (by simp [V0,ZG]) fun v17=>Zj 1 2 [6] (Z9 7 (YM 7 3 [] [] b3 [X9 ((xs++[ZC 14 b.result])++(ow.map (ZC 15))) v17,.i b.result] (de (ZB (r3 [] [.agg [X9 ((xs++[ZC 14 b.result])++(ow.map (ZC 15))) v17,.i b.result]] [0] [(b3,b3)] ⟨(Z7.mk ((xs++[ZC 14 b.result])++(ow.map (ZC 15))) b.result),rfl,rfl,((((Zx.cnt (op:=14) (.inl rfl) om).cnts (op:=15) (.inr rfl) (fun v hv=>by have:=XY v hv;omega)).block om).le (by have:=Bc b.steps k;omega))⟩ (Zc.agg (.cons (Zc.forget _ _) (.cons (lr _) .nil))))))))))
 refine ak (aD 8 (Eb 4 8 [0,1,4,5] [(74,Z4 ow)] [1] (Z9 2 (dc 2 [] [1] [b2] (A5 15 ow) ?_))))
 rintro _ _ ⟨v18,rfl,rfl⟩
 exact YA 3 3 [] [(75,Vl (ow.map (ZC 15)))] (Z9 3 (dp 3 5 [1] [b2] (ZG (xs++(ow.map (ZC 15)))) (ZG xs) (ZG (ow.map (ZC 15))) v none 5 (Xw _) (Xw _) (UO _) (by simp<;>omega) (by simp [V0,ZG]) fun v19=>Zj 1 2 [6] (Z9 7 (YM 7 2 [] [] b3 [X9 (xs++(ow.map (ZC 15))) v19,.i b.result] (de (ZB (r3 [] [.agg [X9 (xs++(ow.map (ZC 15))) v19,.i b.result]] [0] [(b3,b3)] ⟨(Z7.mk (xs++(ow.map (ZC 15))) b.result),rfl,rfl,(((Zx.cnts (op:=15) (.inr rfl) (fun v hv=>by have:=XY v hv;omega)).block om).le (by have:=Bc b.steps k;omega))⟩ (Zc.agg (.cons (Zc.forget _ _) (.cons (lr _) .nil))))))))))
theorem Z9k (n:Zl) (us:LI) (b:Z7) (mi:LI) (mm:Nat) (hn:X3 n:=by exact ob) (hf:fB n.decls n.routines.length mm b:=by exact ob) (hop:UA WZ b:=by exact ob) (hul:us.length=mm:=by exact ob) (hm:mm+4*b.sz<=100000:=by exact ob) (hmr:∀v∈mi,0<=v/\v<(mm:Int)) (hml:mi.length<=3:=by exact ob) (hbz:b.sz<=500:=by exact ob):Zi 147 [Yr n,Z4 us,ZZ b,Z4 mi] [] (fun r h=>∃(y:Z7),r=ZZ y/\h=[]/\KB n.decls n.routines.length mm y (60*b.sz)):=by
 have key:∀k:Nat,∀(us2:LI) (b2:Z7) (mi2:LI) (m2:Nat),(fB n.decls n.routines.length m2 b2)->(UA WZ b2)->(us2.length=m2)->(m2+4*b2.sz<=100000)->(∀v∈mi2,0<=v/\v<(m2:Int))->(mi2.length<=3)->(b2.sz<=500)->(b2.sz<k)->Zi 147 [Yr n,Z4 us2,ZZ b2,Z4 mi2] [] (fun r h=>∃(y:Z7),r=ZZ y/\h=[]/\KB n.decls n.routines.length m2 y (60*b2.sz)):=by
  intro k
  induction k with
  | zero=>intro us2 b2 mi2 m2 h1 h2 h3 h4 h5 h6 h7 h9;omega
  | succ k ih=>intro us2 b2 mi2 m2 h1 h2 h3 h4 h5 h6 h7 h9;exact Z9l n us2 b2 mi2 m2 hn h1 h2 h3 h4 h5 h6 h7 fun us3 b3 mi3 m3 q1 q2 q3 q4 q5 q6 q7 q9=>ih us3 b3 mi3 m3 q1 q2 q3 q4 q5 q6 q7 om
 exact key (b.sz+1) us b mi mm hf hop hul hm hmr hml hbz om
theorem Za3 (rt:Yb) (hp:rt.params.length<=1000000:=by exact ob) (hl:rt.lent.length<=1000000:=by exact ob):Zi 148 [QJ rt] [] (fun r h=>∃(os:LI),r=Z4 os/\h=[]/\os.length<=rt.params.length/\∀v∈os,0<=v/\v<(rt.params.length:Int)):=by
 refine ZE 31 Tryz.func148 (ar (iA (Tt rt) fun b1=>Z0 (ar (iL (Z8 []) 0 1 fun v1=>?_))))
 refine Z0 (Yo (ab 0 (Y3 (fun fz gz m F h=>∃(k:Nat) (os:LI) (u:Value),(k<=rt.params.length)/\(os.length<=k)/\(∀v∈os,0<=v/\v<(rt.params.length:Int))/\F=sF [1] fz [(3,ZQ os u),(4,.i k)]/\h=[Ze gz 1,.tail u 1]/\m=rt.params.length-k) _ _ _ ⟨0,[],v1,ob,ob,(fun v hv=>by cases hv),rfl,rfl,rfl⟩ (wk [1,0] (fr (Ya fl))) ?_)))
 rintro m F h ⟨k,os,u,Ye,Zk,Zx,rfl,rfl,rfl⟩
 refine Yi 3 [0] (iw (Yc rt.params) (Y9 ((k:Int)<(rt.params.length:Int)) (fun Za=>?_) (fun Za=>?_)))
 ·refine ak (aq (ab 1 (Zv 3 [0] ?_)))
  obtain ⟨x1,Z3⟩:=Zt rt.params k om
  refine Zq (Zm none (k:Int) 1 (Y2 Z3)) (Xx [1,3,4] [(25,.b ((x1 != 0)&&(!(decide ((k:Int)∈rt.lent)))))] (fun gz=>gz) ?_ ?_)
  ·refine Z1 3 (ib (b:=(x1 != 0)) 19 (fun Zb=>?_) (fun Zb=>?_))
   ·exact ZL 3 [0] (Zw [] (Tw rt.lent (k:Int)) (Z0 (wk [0,0] (Zu (!(decide ((k:Int)∈rt.lent))) Zb fl))))
   exact Z0 (wk [0,0] (Zu false Zb fl))
  refine ac ((x1 != 0)&&(!(decide ((k:Int)∈rt.lent)))) (p:=(x1≠0)/\(¬((k:Int)∈rt.lent))) (YG Y6 (Ym dq)) (fun Zg=>?_) (fun Zg=>?_)
  ·exact az (Z1 2 (iL (Z8 [(k:Int)]) 1 1 fun v2=>ZT 0 [(28,Z4 [(k:Int)])] (ip 2 (Z8 (os++[(k:Int)])) (Z8 os) (Z8 [(k:Int)]) u none 1 (YK _) (YK _) (WA _) (by simp<;>omega) (by simp [Wz,Z8]) fun v3=>Z0 (az (Z1 1 (ZJ k (Z0 (ZK ⟨k+1,(os++[(k:Int)]),v3,ob,ob,(by first|exact Zx|exact XW Zx om),rfl,rfl,rfl⟩ (wk [2,0] (fr (ZO k fl)))))))))))
  exact ak (az (Z1 1 (ZJ k (Z0 (ZK ⟨k+1,os,u,ob,ob,(by first|exact Zx|exact XW Zx om),rfl,rfl,rfl⟩ (wk [0,0] (fr (ZO k fl))))))))
 exact ax 0 (ar (Zp (r2 [] [ZQ os u] ⟨os,rfl,rfl,⟨by omega,Zx⟩⟩ (Zc.forget _ _))))
theorem Z9j (n:Zl) (qz:Nat) (hn:FO n qz WZ:=by exact ob) (hqz:qz<=181:=by exact ob):Zi 86 [Yr n] [] (fun r h=>∃(n2:Zl),r=Yr n2/\h=[]/\FO n2 (60*qz) JT):=by
 have hnl:=hn.fn.len
 have XC:=hn.fn.decls.ok
 have hok:=hn.fn.ok
 refine ZE 39 Tryz.func86 (ar (iA (YV n) fun b1=>iA [nl,nl] fun b2=>ie (Zv 2 [1] (Zw [] (Fd n.decls) (iL (YX []) 0 5 fun v1=>Z1 1 (iA [nl,nl] fun b3=>?_))))))
 refine ZA 0 b3 [ZM n.decls,VD [] v1] (ie (Yo (ab 0 (Y3 (fun fz gz m F h=>∃(k:Nat) (rs:List Yb) (u:Value),(k<=n.routines.length)/\(rs.length=k)/\(∀r∈rs,RF n.decls n.routines.length (60*qz) JT r)/\F=sF [1,2,3] fz [(4,.i k)]/\h=[.obj b3 [ZM n.decls,VD rs u],Ze gz 2,Ze gz 3,.tail u 5]/\m=n.routines.length-k) _ _ _ ⟨0,[],v1,ob,ob,(fun r hr=>by cases hr),rfl,rfl,rfl⟩ (wk [0,1,1,0] (Ya fl)) ?_))))
 rintro m F h ⟨k,rs,u,Ye,Zk,Zx,rfl,rfl,rfl⟩
 refine Yi 3 [2] (iw (Ug n.routines) (Y9 ((k:Int)<(n.routines.length:Int)) (fun Za=>?_) (fun Za=>?_)))
 ·refine ak (aq (ab 1 (Zv 3 [2] ?_)))
  obtain ⟨x1,Z3⟩:=Zt n.routines k om
  have hrf:=hn.rf (Y4 Z3)
  have hrp:(x1).params.length<=3:=(Qn.bd (f:=⟨(x1).params,(x1).result,default⟩) hrf.sig).1
  have hrl:=hrf.lent.1
  have hrz:=hrf.body.2
  refine Zq (Zm none (k:Int) 5 (WW Z3)) (Z1 1 (iA [nl,nl,.i 0,nl,.i 0] fun b4=>ZA 0 b4 (Tt x1) (ie (aE 16 (ZI 7 16 [0,1,2,3,4,5,6,7,8] [1,0,3,0,0,0] (Z9 9 (dc 9 [] [0,0,3,0,1] [b4,b4,b1,b4,b3] (Za3 x1) ?_)))))))
  rintro _ _ ⟨os1,rfl,rfl,ZY⟩
  have hop:=ZY
  refine Z9 10 (dc 10 [] [0,1] [b4,b3] (Z9k n x1.params x1.body os1 _ (hf:=hrf.body.1) (hop:=hrf.op) (hul:=rfl) (hmr:=hop.2)) ?_)
  rintro _ _ ⟨y1,rfl,rfl,Yf⟩
  have hkb0:=Yf
  have hkb:=hkb0.le (z2:=60*qz) om
  exact Z9 11 (Yz 11 [] [1] [b3] (Hw x1 y1 (hp:=om) (hl:=om)) (Z9 12 (dL 12 [1] [b3] (YX [Yb.mk x1.params x1.lent x1.result y1]) 1 5 fun v2=>YA 3 3 [] [(35,Kh [Yb.mk x1.params x1.lent x1.result y1])] (Z9 13 (dp 13 5 [] [] (YX (rs++[Yb.mk x1.params x1.lent x1.result y1])) (YX rs) (YX [Yb.mk x1.params x1.lent x1.result y1]) u none 5 (TX _) (TX _) (Cq _) (by simp<;>omega) (by simp [Cp,YX]) fun v3=>Zj 1 2 [14] (Z9 15 (YM 15 3 [] [] b3 [ZM n.decls,VD (rs++[Yb.mk x1.params x1.lent x1.result y1]) v3] (de (az (Z1 1 (ZJ k (Z0 (ZK ⟨k+1,(rs++[Yb.mk x1.params x1.lent x1.result y1]),v3,ob,ob,(XW Zx (by first|exact hrf.with hkb.fb hkb.sz hkb.op|(rw [Z7.eta];exact hrf.with hkb.fb hkb.sz hkb.op))),rfl,rfl,rfl⟩ (wk [0,3,3,0] (ZO k fl)))))))))))))))
 exact ax 0 (Zv 1 [0] (ZA 1 b2 [ZM n.decls,VD rs u] (ie (ZB (r3 [] [.agg [ZM n.decls,VD rs u]] [0] [(b2,b2)] ⟨(Zl.mk n.decls rs),rfl,rfl,(FO.fin hn.fn om Zx).1⟩ (Zc.agg (.cons (lr _) (.cons (Zc.forget _ _) .nil))))))))
theorem Zip (s:Z5) :Zi 224 [YD s] [] (Yl (.b ((s.op==14)||(s.op==15)))):=by
 refine ZE 11 Tryz.func224 (ar (iA (Xz s) fun b1=>Z0 (ar (XA 8 [] [(10,.b ((s.op==14)||(s.op==15)))] (fun gz=>gz) ?_ (fun hj1=>?_)))))
 ·exact Zp (C1)
 refine ZL 4 [0] (ib (b:=(s.op==14)) 6 (fun Zb=>?_) (fun Zb=>?_))
 ·exact Z1 4 (Yn (wk [0] (Zu true Zb fl)) hj1)
 exact ZL 4 [0] (Yn (wk [0] (Zu (s.op==15) Zb fl)) hj1)
theorem RI (b:Nat) (ga:Hd) (gb:Hd) (gc:Hd) (gd:Hd) (ge:Hd) (gf:Hd) (n:Zl) (s:Z5) (L:Zo) (ln:LI) (q:Int) (i:Nat) (kb0:Z7) (m:LI) (hn:X3 n:=by exact ob) (hk:X7 n.decls L q:=by exact ob) (hf:AG n L.vars s:=by exact ob) (hop:s.op=7∨s.op=8:=by exact ob) (hkb:s.kids[i]? = some kb0:=by exact ob) (harm:(X8 n.decls s.op s.num)[i]? = some m:=by exact ob) (hbt:0<=YS n (L.vars++m) kb0:=by exact ob) (hb:L.vars.length+4*s.sz<=1000000000:=by exact ob) (hq:0<=q/\q+4*s.sz<=999999990:=by exact ob) (hln:ln.length<=4294967296:=by exact ob) (ih:∀(b2:Z7) (c:Nat) (ra:Hd) (rb:Hd) (rc:Hd) (rd:Hd) (re:Hd) (rf:Hd) (M:Zo) (mm:Nat) (p:Int),(b2.sz<s.sz)->(X7 n.decls M p)->(0<=YS n M.vars b2)->(mm<=M.vars.length)->(M.vars.length+4*b2.sz<=1000000000)->(0<=p/\p+4*b2.sz<=999999990)->Zi 170 [.p c 0,Yr n,ZZ b2,.i mm] [.obj c [.h ra,.h rb,.h rc,.h rd,.h re,.h rf,Z4 ln],rV ra M.vars,rV rb M.own,rV rc M.par,rV rd M.con,rV re M.fst,rV rf M.tok] (fun r h=>(∃(wa:Hd) (wb:Hd) (wc:Hd) (wd:Hd) (we:Hd) (wf:Hd) (M':Zo),r=.b true/\h=[.obj c [.h wa,.h wb,.h wc,.h wd,.h we,.h wf,Z4 ln],rV wa M'.vars,rV wb M'.own,rV wc M'.par,rV wd M'.con,rV we M'.fst,rV wf M'.tok]/\Wi n ln M mm b2=some M')∨(r=.b false/\h=[]/\Wi n ln M mm b2=none))):Zi 259 [.p b 0,Yr n,YD s,.i i] [.obj b [.h ga,.h gb,.h gc,.h gd,.h ge,.h gf,Z4 ln],rV ga L.vars,rV gb L.own,rV gc L.par,rV gd L.con,rV ge L.fst,rV gf L.tok] (fun r h=>(∃(c:Nat) (wa:Hd) (wb:Hd) (wc:Hd) (wd:Hd) (we:Hd) (wf:Hd) (L':Zo),r=.tup [.p c 0,.b true]/\h=[.obj c [.h wa,.h wb,.h wc,.h wd,.h we,.h wf,Z4 ln],rV wa L'.vars,rV wb L'.own,rV wc L'.par,rV wd L'.con,rV we L'.fst,rV wf L'.tok,.obj b [.h ga,.h gb,.h gc,.h gd,.h ge,.h gf,Z4 ln],rV ga L.vars,rV gb L.own,rV gc L.par,rV gd L.con,rV ge L.fst,rV gf L.tok]/\Wi n ln (WI n.decls L s.op s.num s.args i) L.vars.length kb0=some L')∨(r=.tup [.any,.b false]/\h=[.obj b [.h ga,.h gb,.h gc,.h gd,.h ge,.h gf,Z4 ln],rV ga L.vars,rV gb L.own,rV gc L.par,rV gd L.con,rV ge L.fst,rV gf L.tok]/\Wi n ln (WI n.decls L s.op s.num s.args i) L.vars.length kb0=none)):=by
 obtain ⟨e1,e2,e3,e4,e5⟩:=hk.len
 have XC:=hn.decls
 have hkz:=Ts s
 have haz:=QK s
 have hK:=CG hk hq.1 hf hop harm
 have hm3:=E4 XC harm
 have hkl:=(Xs.1 hkb).1
 have hks:=Tq hkb
 refine ZE 83 Tryz.func259 (ar (iA (YV n) fun b1=>iA (Xz s) fun b2=>Z0 (Zv 4 [2] (Zq (JO 3 ga L.vars) (Z0 (Y1 1 (ic [2,2,2,2,2,2,2] (Zdh b ga gb gc gd ge gf L ln (hlk:=hk.len)) ?_)))))))
 rintro _ _ ⟨c1,wa1,wb1,wc1,wd1,we1,wf1,rfl,rfl⟩
 refine Z0 (Xa (VY [14] (ac (s.op==8) Zr (fun Za=>?_) (fun Za=>?_))))
 ·obtain ⟨x,hxa⟩:=hf.one om
  have ha:s.args[0]? = some x:=by rw [hxa];rfl
  have hx:=hf.args x (by rw [hxa];simp)
  obtain ⟨cc,hcc,hmc⟩:=FG Za harm
  have hal:=(Xs.1 ha).1
  have hcl:=(Xs.1 hcc).1
  have hm4:=hm3
  rw [hmc] at hm4
  refine Zv 4 [15,14] (ic [] (Ba n.decls s.num) ?_)
  rintro _ _ ⟨v1,rfl,rfl⟩
  refine Z1 1 (Zq (Zm (some v1) (i:Int) 1 (Y2 hcc)) (Z0 (Zv 3 [16] (Zw [] (JE n.decls cc) (Z0 (aD 11 (ZI 5 11 [0,1,2,3,4,5] [1,15] (dx 6 (Zm none 0 1 (Y2 ha)) (Zj 2 4 [7,8] (dx 9 (Wy 5 wd1 L.con x x.toNat (hq:=rfl)) (Z9 10 (Ak 10 5 [] [] wd1 L.con x.toNat cc (de (aD 11 (ZI 5 11 [0,1,2,3,4,5] [2,15] (dx 6 (Zm none 0 1 (Y2 ha)) (Zj 2 4 [7,8] (dx 9 (Wy 6 we1 L.fst x x.toNat (hq:=rfl)) (Z9 10 (Ak 10 6 [] [] we1 L.fst x.toNat (L.vars.length:Int) (de (Zy (ab 0 (Y3 (fun fz gz m F h=>∃(k:Nat) (L3:Zo) (ka:Hd) (kb:Hd) (kc:Hd) (kd:Hd) (ke:Hd) (kf:Hd),(k<=(ZX n.decls cc).length)/\(WK L3)/\(L3.vars.length=L.vars.length+k)/\(Ju L3 x ((ZX n.decls cc).drop k)=KX n.decls L x cc)/\F=sF [3,5,6,10,11,13] fz [(14,.i k)]/\h=[.obj c1 [.h ka,.h kb,.h kc,.h kd,.h ke,.h kf,Z4 ln],Ze gz 8,Ze gz 9,Ze gz 10,Ze gz 11,Ze gz 12,Ze gz 13,Ze gz 14,Ze gz 15,Ze gz 16,rV ka L3.vars,rV kb L3.own,rV kc L3.par,rV kd L3.con,rV ke L3.fst,rV kf L3.tok]/\m=(ZX n.decls cc).length-k) _ _ _ ⟨0,(Zo.mk L.vars L.own L.par (L.con.set x.toNat cc) (L.fst.set x.toNat (L.vars.length:Int)) L.tok),wa1,wb1,wc1,wd1,we1,wf1,ob,(WK.arm hk.len),ob,(by rw [KX];rfl),rfl,rfl,rfl⟩ (wk [3,7,7,7,7,7,7,7,7,7,3,3,3,1,0,1] (Ya fl) (e:=(rc (rc (rc (rc (rc (rc (rc (rc (rc (rc (rv (xs:=L.vars) ob (rv (xs:=L.own) ob (rv (xs:=L.par) ob (rv (xs:=(L.con.set x.toNat cc)) ob (rv (xs:=(L.fst.set x.toNat (L.vars.length:Int))) ob (rv (xs:=L.tok) ob rz)))))))))))))))))) ?_))))))))))))))))))))))))
  rintro m F h ⟨k,L3,ka,kb,kc,kd,ke,kf,Ye,Zk,Zx,Yy,rfl,rfl,rfl⟩
  refine YP 2 (io (.i (((ZX n.decls cc).length:Nat):Int)) (.i (((Z8 (ZX n.decls cc)).length:Nat):Int)) (li (by rw [Yc])) (Y9 ((k:Int)<(((ZX n.decls cc).length:Nat):Int)) (fun Zg=>?_) (fun Zg=>?_)))
  ·refine ak (aq (ab 1 (aE 10 (Zj 7 10 [0,1,2] ?_))))
   obtain ⟨x1,Z3⟩:=Zt (ZX n.decls cc) k om
   refine dx 3 (Zm none (k:Int) 1 (Y2 Z3)) (ZI 3 6 [4,5,6] [8] (dx 7 (Zm none 0 1 (Y2 ha)) (Zj 1 2 [8] (Z9 9 (dc 9 [0,9,9,9,9,9,9] [] [] (J9 c1 ka kb kc kd ke kf L3 ln x1 0 x (hlk:=Zk)) ?_)))))
   rintro _ _ ⟨wa2,wb2,wc2,wd2,we2,wf2,rfl⟩
   exact de (az (Z1 1 (ZJ k (Z0 (ZK ⟨k+1,(L3.grow x1 0 x),wa2,wb2,wc2,wd2,we2,wf2,ob,(WK.grow Zk),(by simp [Zo.grow];omega),(by rw [Y5 Z3,Ju] at Yy;exact Yy),rfl,rfl,rfl⟩ (wk [0,6,6,6,6,6,6,6,6,6,0,0,0,0,0,0] (ZO k fl)))))))
  have hE:WI n.decls L s.op s.num s.args i=L3:=by rw [Rl Za ha hcc,<-Yy,Xm om];rfl
  refine ax 0 (aD 12 (ZI 6 12 [0,1,2,3,4,5] [9,8] (dx 6 (Zm none (i:Int) 2 (T3 hkb)) (Zj 3 5 [7,8] (Z9 9 (dc 9 [0,9,9,9,9,9,9] [] [] (ih kb0 c1 ka kb kc kd ke kf L3 L.vars.length q ob (by rw [<-hE];exact hK.1) (by rw [<-hE,hK.2];exact hbt) (by rw [<-hE,hK.2];simp) (by rw [<-hE,hK.2,Yq];omega) ob) ?_))))))
  rintro _ _ (⟨wa3,wb3,wc3,wd3,we3,wf3,M'1,rfl,rfl,ZY⟩|⟨rfl,rfl,Yf⟩)
  ·exact Zj 0 2 [10,11] (de (ZB (r2 [0,0,0,0,0,0,0,0,0,0,0,0,0,0] [.p c1 0,.b true] (.inl ⟨c1,wa3,wb3,wc3,wd3,we3,wf3,M'1,rfl,rfl,(by rw [hE];exact ZY)⟩) (lr _))))
  exact Zj 0 2 [10,11] (de (ZB (r2 [0,0,0,0,0,0,0] [.p c1 0,.b false] (.inr ⟨rfl,rfl,(by rw [hE];exact Yf)⟩) (Zc.tup (.cons (Zc.any _) (.cons (lr _) .nil))))))
 have hE:=Zcy (ds:=n.decls) (L:=L) (num:=s.num) (args:=s.args) (i:=i) Za
 refine ak (aD 12 (ZI 6 12 [0,1,2,3,4,5] [15,14] (dx 6 (Zm none (i:Int) 2 (T3 hkb)) (Zj 3 5 [7,8] (Z9 9 (dc 9 [0,0,0,0,0,0,0] [] [] (ih kb0 c1 wa1 wb1 wc1 wd1 we1 wf1 L L.vars.length q ob (by rw [<-hE];exact hK.1) (by rw [<-hE,hK.2];exact hbt) (by rw [<-hE,hK.2];simp) (by rw [<-hE,hK.2,Yq];omega) ob) ?_))))))
 rintro _ _ (⟨wa4,wb4,wc4,wd4,we4,wf4,M'2,rfl,rfl,YJ⟩|⟨rfl,rfl,YT⟩)
 ·exact Zj 0 2 [10,11] (de (ZB (r2 [0,0,0,0,0,0,0,0,0,0,0,0,0,0] [.p c1 0,.b true] (.inl ⟨c1,wa4,wb4,wc4,wd4,we4,wf4,M'2,rfl,rfl,(by rw [hE];exact YJ)⟩) (lr _))))
 exact Zj 0 2 [10,11] (de (ZB (r2 [0,0,0,0,0,0,0] [.p c1 0,.b false] (.inr ⟨rfl,rfl,(by rw [hE];exact YT)⟩) (Zc.tup (.cons (Zc.any _) (.cons (lr _) .nil))))))
theorem Zdg (b:Nat) (ga:Hd) (gb:Hd) (gc:Hd) (gd:Hd) (ge:Hd) (gf:Hd) (n:Zl) (s:Z5) (L:Zo) (ln:LI) (q:Int) (hn:X3 n:=by exact ob) (hk:X7 n.decls L q:=by exact ob) (hf:AG n L.vars s:=by exact ob) (hop:s.op=7∨s.op=8:=by exact ob) (hb:L.vars.length+4*s.sz<=1000000000:=by exact ob) (hq:0<=q/\q+4*s.sz<=999999990:=by exact ob) (hln:ln.length<=4294967296:=by exact ob) (ih:∀(b2:Z7) (c:Nat) (ra:Hd) (rb:Hd) (rc:Hd) (rd:Hd) (re:Hd) (rf:Hd) (M:Zo) (mm:Nat) (p:Int),(b2.sz<s.sz)->(X7 n.decls M p)->(0<=YS n M.vars b2)->(mm<=M.vars.length)->(M.vars.length+4*b2.sz<=1000000000)->(0<=p/\p+4*b2.sz<=999999990)->Zi 170 [.p c 0,Yr n,ZZ b2,.i mm] [.obj c [.h ra,.h rb,.h rc,.h rd,.h re,.h rf,Z4 ln],rV ra M.vars,rV rb M.own,rV rc M.par,rV rd M.con,rV re M.fst,rV rf M.tok] (fun r h=>(∃(wa:Hd) (wb:Hd) (wc:Hd) (wd:Hd) (we:Hd) (wf:Hd) (M':Zo),r=.b true/\h=[.obj c [.h wa,.h wb,.h wc,.h wd,.h we,.h wf,Z4 ln],rV wa M'.vars,rV wb M'.own,rV wc M'.par,rV wd M'.con,rV we M'.fst,rV wf M'.tok]/\Wi n ln M mm b2=some M')∨(r=.b false/\h=[]/\Wi n ln M mm b2=none))):Zi 209 [.p b 0,Yr n,YD s] [.obj b [.h ga,.h gb,.h gc,.h gd,.h ge,.h gf,Z4 ln],rV ga L.vars,rV gb L.own,rV gc L.par,rV gd L.con,rV ge L.fst,rV gf L.tok] (fun r h=>(∃(wa:Hd) (wb:Hd) (wc:Hd) (wd:Hd) (we:Hd) (wf:Hd) (L':Zo),r=.b true/\h=[.obj b [.h wa,.h wb,.h wc,.h wd,.h we,.h wf,Z4 ln],rV wa L'.vars,rV wb L'.own,rV wc L'.par,rV wd L'.con,rV we L'.fst,rV wf L'.tok]/\JV n ln L s=some L')∨(r=.b false/\h=[]/\JV n ln L s=none)):=by
 obtain ⟨e1,e2,e3,e4,e5⟩:=hk.len
 have XC:=hn.decls
 have hkz:=Ts s
 have haz:=QK s
 obtain ⟨hk1,hk2,hk3⟩:=hf.kids hop
 obtain ⟨kd,hkd⟩:=Zt s.kids 0 om
 obtain ⟨m0,hm0⟩:=Zt (X8 n.decls s.op s.num) 0 om
 obtain ⟨x,hxa⟩:=hf.one om
 have ha:s.args[0]? = some x:=by rw [hxa];rfl
 have hx:=hf.args x (by rw [hxa];simp)
 have hgx:=JZ ha
 have hal:=(Xs.1 ha).1
 refine ZE 88 Tryz.func209 (ar (iA (YV n) fun b1=>iA (Xz s) fun b2=>Z0 (Xa (Xx [0,4,5] [(23,.b ((s.op==8)&&(!XT L ln x)))] (fun gz=>[Ze gz 2,Ze gz 3,Ze gz 4,Ze gz 5,Ze gz 6,Ze gz 7,Ze gz 8,Ze gz 0,Ze gz 1]) ?_ ?_))))
 ·refine ZL 4 [0] (ib (b:=(s.op==8)) 15 (fun Zb=>?_) (fun Zb=>?_))
  ·exact ZL 3 [0] (Zq (Zm none 0 1 (Y2 ha)) (Z1 1 (Zw [2,2,2,2,2,2,2] (H0 b ga gb gc gd ge gf L ln x (hlk:=hk.len) (hd:=hk.down)) (Z0 (ZF 9 (Zu (!XT L ln x) Zb fl))))))
  exact Z0 (wk [2,2,2,2,2,2,2,0,0] (Zu false Zb fl))
 refine ac ((s.op==8)&&(!XT L ln x)) (p:=(s.op=8)/\(¬(XT L ln x=true))) (YG Zr (Ym Iff.rfl)) (fun Za=>?_) (fun Za=>?_)
 ·exact ar (Zp (r1 [] (.inr ⟨rfl,rfl,(by rw [JV,Zd (by rw [hgx];exact Za)])⟩)))
 have hgo:=NY (n:=n) (ln:=ln) (L:=L) (s:=s) (by rw [hgx];exact Za) hkd
 refine ak (Zv 3 [8,7] (ic [0,0,0,0,0,0,0] (RI b ga gb gc gd ge gf n s L ln q 0 kd m0 (hkb:=hkd) (harm:=hm0) (hbt:=(hk3 0 kd m0 hkd hm0)) (ih:=ob)) ?_))
 rintro _ _ (⟨c1,wa1,wb1,wc1,wd1,we1,wf1,L'1,rfl,rfl,YJ⟩|⟨rfl,rfl,YT⟩)
 ·have hone:=YJ
  obtain ⟨l1,l2⟩:=Rs hn hk hq.1 hf hop hkd hm0 (hk3 0 kd m0 hkd hm0) hone
  refine Z0 (Yo (WF (ak (Yo (ab 0 (Y3 (fun fz gz m F h=>∃(k:Nat),(1<=k/\k<=s.kids.length)/\(Uy n ln L s.op s.num s.args L'1 (s.kids.drop k) k=Uy n ln L s.op s.num s.args L'1 (s.kids.drop 1) 1)/\F=sF [0,4,5,7] fz [(9,.i k)]/\h=gz/\m=s.kids.length-k) _ _ _ ⟨1,ob,ob,rfl,rfl,rfl⟩ (ZF 16 (fc (x:=.i 1) li fl)) ?_))))))
  rintro m F h ⟨k,Ye,Zk,rfl,rfl,rfl⟩
  refine Yi 3 [14] (iw (Uf s.kids) (Y9 ((k:Int)<(s.kids.length:Int)) (fun Zg=>?_) (fun Zg=>?_)))
  ·obtain ⟨ke,hke⟩:=Zt s.kids k om
   obtain ⟨mk,hmk⟩:=Zt (X8 n.decls s.op s.num) k om
   have hcs:=EF (n:=n) (ln:=ln) (L:=L) (op:=s.op) (num:=s.num) (args:=s.args) (one:=L'1) hke
   refine ak (aq (ab 1 (Zv 4 [15,14] (ic [7,7,7,7,7,7,7] (RI b ga gb gc gd ge gf n s L ln q k ke mk (hkb:=hke) (harm:=hmk) (hbt:=(hk3 k ke mk hke hmk)) (ih:=ob)) ?_))))
   rintro _ _ (⟨c2,wa2,wb2,wc2,wd2,we2,wf2,L'2,rfl,rfl,Xk⟩|⟨rfl,rfl,W4⟩)
   ·have htwo:=Xk
    obtain ⟨l3,l4⟩:=Rs hn hk hq.1 hf hop hke hmk (hk3 k ke mk hke hmk) htwo
    refine Z0 (aD 26 (ZI 15 26 [0,1,2,3,4,5,6,7,8,9,10] [14,0] (Z9 11 (Tl 11 [16,2] [] [] [rV wb1 L'1.own,rV wb2 L'2.own] (Z1j L'1.own L'2.own) D8 (gL (v:=wb1) 0 (gL (v:=wb2) 1 gN)) (Uz (Uz Tu)) ?_))))
    rintro _ _ ⟨rfl,rfl⟩
    refine Aj [0,4,5,7,9] [(73,.b ((!(decide (L'1.own=L'2.own)))||(!(decide (L'1.tok=L'2.tok)))))] (fun gz=>gz) ?_ ?_
    ·refine Zj 11 14 [12,13,14] (db (b:=(!(decide (L'1.own=L'2.own)))) 62 (fun Zz=>?_) (fun Zz=>?_))
     ·exact Zj 0 11 [15,16,17,18,19,20,21,22,23,24,25] (de (ZF 23 (Zu true Zz fl)))
     refine ZI 3 11 [15,16,17,18,19,20,21,22] [15,2] (Z9 23 (Tl 23 [20,7] [] [] [rV wf1 L'1.tok,rV wf2 L'2.tok] (Z1j L'1.tok L'2.tok) D8 (gL (v:=wf1) 0 (gL (v:=wf2) 1 gN)) (Uz (Uz Tu)) ?_))
     rintro _ _ ⟨rfl,rfl⟩
     exact Zj 0 2 [24,25] (de (wk [2,2,2,2,2,2,2,1,1,1,1,1,1,1,1,1,1,1,1,1,0,0,0] (Zu (!(decide (L'1.tok=L'2.tok))) Zz fl)))
    refine ac ((!(decide (L'1.own=L'2.own)))||(!(decide (L'1.tok=L'2.tok)))) (p:=(¬(L'1.own=L'2.own))∨(¬(L'1.tok=L'2.tok))) (Yh (Ym dq) (Ym dq)) (fun ZH=>?_) (fun ZH=>?_)
    ·exact ar (Zp (r1 [] (.inr ⟨rfl,rfl,(by rw [hgo,hone];exact EI (by rw [<-Zk,hcs,htwo];exact Z0h ZH))⟩)))
    exact ak (az (Z1 1 (ZJ k (Z0 (ZK ⟨k+1,ob,(by rw [hcs,htwo,Z0i ZH] at Zk;exact Zk),rfl,rfl,rfl⟩ (wk [15,15,0,14,14,14,14,7,7,7,7,7,7,7,7,7] (ZO k fl)))))))
   have htwo:=W4
   exact Z0 (aD 26 (Zj 0 26 [0,1,2,3,4,5,6,7,8,9,10,11,12,13,14,15,16,17,18,19,20,21,22,23,24,25] (de (Wg (ar (Zp (r1 [] (.inr ⟨rfl,rfl,(by rw [hgo,hone];exact EI (by rw [<-Zk,hcs,htwo];rfl))⟩))))))))
  have hE:Uy n ln L s.op s.num s.args L'1 (s.kids.drop 1) 1=true:=by rw [<-Zk,Xm om,Uy]
  exact ax 0 (Zv 7 [0] (ZA 7 b [.h ga,.h wb1,.h gc,.h gd,.h ge,.h gf,Z4 ln] (ie (Zv 7 [1] (ZA 0 b [.h ga,.h wb1,.h gc,.h gd,.h ge,.h wf1,Z4 ln] (ie (ar (Zp (r1 [0,7,2,7,7,7,5] (.inl ⟨ga,wb1,gc,gd,ge,wf1,(Zo.mk L.vars L'1.own L.par L.con L.fst L'1.tok),rfl,rfl,(by rw [hgo,hone];exact RT hE)⟩) (eq:=(rc (rv (xs:=L.vars) ob (rv (xs:=L'1.own) ob (rv (xs:=L.par) ob (rv (xs:=L.con) ob (rv (xs:=L.fst) ob (rv (xs:=L'1.tok) ob rz)))))))))))))))))
 have hone:=YT
 exact Z0 (Yo (Wg (ar (Zp (r1 [] (.inr ⟨rfl,rfl,(by rw [hgo,hone];rfl)⟩))))))
theorem RJ (b:Nat) (ga:Hd) (gb:Hd) (gc:Hd) (gd:Hd) (ge:Hd) (gf:Hd) (n:Zl) (s:Z5) (L:Zo) (ln:LI) (q:Int) (hn:X3 n:=by exact ob) (hk:X7 n.decls L q:=by exact ob) (ht:0<=Y0 n L.vars s:=by exact ob) (hb:L.vars.length+4*s.sz<=1000000000:=by exact ob) (hq:0<=q/\q+4*s.sz<=999999990:=by exact ob) (hln:ln.length<=4294967296:=by exact ob) (ih:∀(b2:Z7) (c:Nat) (ra:Hd) (rb:Hd) (rc:Hd) (rd:Hd) (re:Hd) (rf:Hd) (M:Zo) (mm:Nat) (p:Int),(b2.sz<s.sz)->(X7 n.decls M p)->(0<=YS n M.vars b2)->(mm<=M.vars.length)->(M.vars.length+4*b2.sz<=1000000000)->(0<=p/\p+4*b2.sz<=999999990)->Zi 170 [.p c 0,Yr n,ZZ b2,.i mm] [.obj c [.h ra,.h rb,.h rc,.h rd,.h re,.h rf,Z4 ln],rV ra M.vars,rV rb M.own,rV rc M.par,rV rd M.con,rV re M.fst,rV rf M.tok] (fun r h=>(∃(wa:Hd) (wb:Hd) (wc:Hd) (wd:Hd) (we:Hd) (wf:Hd) (M':Zo),r=.b true/\h=[.obj c [.h wa,.h wb,.h wc,.h wd,.h we,.h wf,Z4 ln],rV wa M'.vars,rV wb M'.own,rV wc M'.par,rV wd M'.con,rV we M'.fst,rV wf M'.tok]/\Wi n ln M mm b2=some M')∨(r=.b false/\h=[]/\Wi n ln M mm b2=none))):Zi 151 [.p b 0,Yr n,YD s] [.obj b [.h ga,.h gb,.h gc,.h gd,.h ge,.h gf,Z4 ln],rV ga L.vars,rV gb L.own,rV gc L.par,rV gd L.con,rV ge L.fst,rV gf L.tok] (fun r h=>(∃(wa:Hd) (wb:Hd) (wc:Hd) (wd:Hd) (we:Hd) (wf:Hd) (L':Zo),r=.b true/\h=[.obj b [.h wa,.h wb,.h wc,.h wd,.h we,.h wf,Z4 ln],rV wa L'.vars,rV wb L'.own,rV wc L'.par,rV wd L'.con,rV we L'.fst,rV wf L'.tok]/\WM n ln L s=some L')∨(r=.b false/\h=[]/\WM n ln L s=none)):=by
 obtain ⟨e1,e2,e3,e4,e5⟩:=hk.len
 have XC:=hn.decls
 have hkz:=Ts s
 have haz:=QK s
 have hf:=Be ht
 refine ZE 89 Tryz.func151 (ar (iA (YV n) fun b1=>iA (Xz s) fun b2=>Z0 (aD 8 (ZI 2 8 [0,1,2,3,4,5] [1,2,0] (Z9 6 (Tl 6 [3] [] [] [rV ga L.vars] (MN n L.vars s ob ob) D8 (gS (gL (v:=ga) 0 (gS gN))) (Uz Tu) ?_))))))
 rintro _ _ ⟨rfl,rfl⟩
 refine Zj 0 1 [7] (de (Zy (Xa (VY [1] (ab 0 (ar (YE (s.op==14) Zr (fun Za=>?_) (fun Za=>?_))))))))
 ·obtain ⟨x,hxa⟩:=hf.one om
  have ha:s.args[0]? = some x:=by rw [hxa];rfl
  have hx:=hf.args x (by rw [hxa];simp)
  have hgx:=JZ ha
  have hal:=(Xs.1 ha).1
  obtain ⟨xo,hxo⟩:=Zt L.own x.toNat om
  have hgo:=VQ hxo
  have hob:=hk.bd xo (Y4 hxo)
  have hon:=hk.nn xo (Y4 hxo)
  refine Zv 3 [1] (Zq (Zm none 0 1 (Y2 ha)) (Z1 1 (Zw [3,0,2,2,2,2,2] (H0 b ga gb gc gd ge gf L ln x (hlk:=hk.len) (hd:=hk.down)) (Z0 (aE 21 (ZI 15 21 [0,1,2,3,4,5] [0,7] (dx 6 (Zm none 0 1 (Y2 ha)) (ZI 7 14 [7,8,9,10,11,12,13] [0,7] (dx 14 (Zm none 0 1 (Y2 ha)) (Zj 5 6 [15] (dx 16 (Wy 2 gb L.own x x.toNat (hq:=rfl)) (Uo 17 (Ub 2 gb L.own x.toNat xo hxo) (da 18 ((xo+1)) ((xo)+(1)) (dx 19 (Wy 2 gb L.own x x.toNat (hq:=rfl)) (Z9 20 (Ak 20 2 [] [] gb L.own x.toNat (xo+1) (de (Xa (YE (!XT L ln x) (p:=¬(XT L ln x=true)) (Ym Iff.rfl) (fun Zg=>?_) (fun Zg=>?_))))))))))))))))))))
  ·have hP:=(ES (n:=n) (ln:=ln) (L:=L) Za hgx).trans (Z73 Zg)
   exact ar (Zp (r1 [] (.inr ⟨rfl,rfl,(by rw [U9,hP];first|rfl|exact TL (by assumption)|exact TM (by assumption) (by assumption)|exact To (by assumption))⟩)))
  have hP:=(ES (n:=n) (ln:=ln) (L:=L) Za hgx).trans (Z74 Zg hgo)
  obtain ⟨kx,hxv⟩:=BP hn hk hq.1 hf hP
  refine ak (Yi 2 [7] (Zw [] (JF s.op) (Xx [0,5,7] [(80,.b (W7 s.op&&((Y0 n L.vars s) != 0)))] (fun gz=>gz) ?_ ?_)))
  ·refine Z1 1 (ib (b:=W7 s.op) 77 (fun Zb=>?_) (fun Zb=>?_))
   ·exact Z0 (ZF 9 (Zu ((Y0 n L.vars s) != 0) Zb fl))
   exact Z0 (ZF 9 (Zu false Zb fl))
  refine ac (W7 s.op&&((Y0 n L.vars s) != 0)) (p:=(W7 s.op=true)/\((Y0 n L.vars s)≠0)) (YG Iff.rfl Y6) (fun ZH=>?_) (fun ZH=>?_)
  ·refine az (Z1 2 (ic [1,1,0,0,0,0,0] (J9 b ga gb gc gd ge gf (Zo.mk L.vars (L.own.set x.toNat (xo+1)) L.par L.con L.fst L.tok) ln (Y0 n L.vars s) 1 (-1) (hlb:=(by rw [hxv];omega)) (hlk:=kx.len)) ?_))
   rintro _ _ ⟨wa1,wb1,wc1,wd1,we1,wf1,rfl⟩
   exact ie (ar (Zp (r1 [0,0,0,0,0,0,0] (.inl ⟨wa1,wb1,wc1,wd1,we1,wf1,((Zo.mk L.vars (L.own.set x.toNat (xo+1)) L.par L.con L.fst L.tok).grow (Y0 n L.vars s) 1 (-1)),rfl,rfl,(by rw [U9,hP];first|rfl|exact TL (by assumption)|exact TM (by assumption) (by assumption)|exact To (by assumption))⟩))))
  refine Zv 2 [7] (Zw [] (JF s.op) (ie (ac (W7 s.op) Iff.rfl (fun Yj=>?_) (fun Yj=>?_))))
  ·refine az (Z1 1 (ic [1,1,0,0,0,0,0] (J9 b ga gb gc gd ge gf (Zo.mk L.vars (L.own.set x.toNat (xo+1)) L.par L.con L.fst L.tok) ln 0 0 (-1) (hlb:=(by rw [hxv];omega)) (hlk:=kx.len)) ?_))
   rintro _ _ ⟨wa2,wb2,wc2,wd2,we2,wf2,rfl⟩
   exact ie (ar (Zp (r1 [0,0,0,0,0,0,0] (.inl ⟨wa2,wb2,wc2,wd2,we2,wf2,((Zo.mk L.vars (L.own.set x.toNat (xo+1)) L.par L.con L.fst L.tok).grow 0 0 (-1)),rfl,rfl,(by rw [U9,hP];first|rfl|exact TL (by assumption)|exact TM (by assumption) (by assumption)|exact To (by assumption))⟩))))
  exact ak (ar (Zp (r1 [1,1,0,0,0,0,0] (.inl ⟨ga,gb,gc,gd,ge,gf,(Zo.mk L.vars (L.own.set x.toNat (xo+1)) L.par L.con L.fst L.tok),rfl,rfl,(by rw [U9,hP];first|rfl|exact TL (by assumption)|exact TM (by assumption) (by assumption)|exact To (by assumption))⟩) (eq:=(rc (rv (xs:=L.vars) ob (rv (xs:=(L.own.set x.toNat (xo+1))) ob (rv (xs:=L.par) ob (rv (xs:=L.con) ob (rv (xs:=L.fst) ob (rv (xs:=L.tok) ob rz)))))))))))
 refine ar (YE (s.op==15) Zr (fun Xh=>?_) (fun Xh=>?_))
 ·obtain ⟨x,hxa⟩:=hf.one om
  have ha:s.args[0]? = some x:=by rw [hxa];rfl
  have hx:=hf.args x (by rw [hxa];simp)
  have hgx:=JZ ha
  have hal:=(Xs.1 ha).1
  refine az (ZL 3 [1] (Zq (Zm none 0 1 (Y2 ha)) (Z1 1 (ic [3,0,2,2,2,2,2] (H1 b ga gb gc gd ge gf L ln x (hlk:=hk.len) (hq:=(fun y hy=>⟨hk.nn y hy,by have:=hk.bd y hy;omega⟩))) ?_))))
  rintro _ _ (⟨wa3,wb3,wc3,wd3,we3,wf3,L'1,rfl,rfl,YJ⟩|⟨rfl,rfl,YT⟩)
  ·have hP:=(ET (n:=n) (ln:=ln) (L:=L) Xh hgx).trans (YJ)
   obtain ⟨kx,hxv⟩:=BP hn hk hq.1 hf hP
   refine Z0 (Yo (WF (ak (Yi 2 [7] (Zw [] (JF s.op) (Xx [0,5,7] [(80,.b (W7 s.op&&((Y0 n L.vars s) != 0)))] (fun gz=>gz) ?_ ?_))))))
   ·refine Z1 1 (ib (b:=W7 s.op) 77 (fun Zz=>?_) (fun Zz=>?_))
    ·exact Z0 (ZF 9 (Zu ((Y0 n L.vars s) != 0) Zz fl))
    exact Z0 (ZF 9 (Zu false Zz fl))
   refine ac (W7 s.op&&((Y0 n L.vars s) != 0)) (p:=(W7 s.op=true)/\((Y0 n L.vars s)≠0)) (YG Iff.rfl Y6) (fun Xn=>?_) (fun Xn=>?_)
   ·refine az (Z1 2 (ic [0,0,0,0,0,0,0] (J9 b wa3 wb3 wc3 wd3 we3 wf3 L'1 ln (Y0 n L.vars s) 1 (-1) (hlb:=(by rw [hxv];omega)) (hlk:=kx.len)) ?_))
    rintro _ _ ⟨wa4,wb4,wc4,wd4,we4,wf4,rfl⟩
    exact ie (ar (Zp (r1 [0,0,0,0,0,0,0] (.inl ⟨wa4,wb4,wc4,wd4,we4,wf4,(L'1.grow (Y0 n L.vars s) 1 (-1)),rfl,rfl,(by rw [U9,hP];first|rfl|exact TL (by assumption)|exact TM (by assumption) (by assumption)|exact To (by assumption))⟩))))
   refine Zv 2 [7] (Zw [] (JF s.op) (ie (ac (W7 s.op) Iff.rfl (fun U2=>?_) (fun U2=>?_))))
   ·refine az (Z1 1 (ic [0,0,0,0,0,0,0] (J9 b wa3 wb3 wc3 wd3 we3 wf3 L'1 ln 0 0 (-1) (hlb:=(by rw [hxv];omega)) (hlk:=kx.len)) ?_))
    rintro _ _ ⟨wa5,wb5,wc5,wd5,we5,wf5,rfl⟩
    exact ie (ar (Zp (r1 [0,0,0,0,0,0,0] (.inl ⟨wa5,wb5,wc5,wd5,we5,wf5,(L'1.grow 0 0 (-1)),rfl,rfl,(by rw [U9,hP];first|rfl|exact TL (by assumption)|exact TM (by assumption) (by assumption)|exact To (by assumption))⟩))))
   exact ak (ar (Zp (r1 [0,0,0,0,0,0,0] (.inl ⟨wa3,wb3,wc3,wd3,we3,wf3,L'1,rfl,rfl,(by rw [U9,hP];first|rfl|exact TL (by assumption)|exact TM (by assumption) (by assumption)|exact To (by assumption))⟩))))
  have hP:=(ET (n:=n) (ln:=ln) (L:=L) Xh hgx).trans (YT)
  exact Z0 (Yo (Wg (ar (Zp (r1 [] (.inr ⟨rfl,rfl,(by rw [U9,hP];first|rfl|exact TL (by assumption)|exact TM (by assumption) (by assumption)|exact To (by assumption))⟩))))))
 refine Yo (Wm (fun fz gz F h=>F=sF [0,4,5,7,17] fz [(58,.b ((s.op==16)||(s.op==17)))]/\h=gz) ?_ ?_)
 ·refine ac (s.op==16) Zr (fun VV=>?_) (fun VV=>?_)
  ·exact ak (ZU ⟨rfl,rfl⟩ (ZF 9 (fc (x:=.b (s.op==16)) (lb (by first|rfl|(rw [Zd VV])|(rw [Z6 VV])|(simp [VV];done)|(rw [XM];simp [VV];done)|omega)) fl)))
  exact T6 (ZU ⟨rfl,rfl⟩ (ZF 9 (fc (x:=.b (s.op==17)) (lb (by first|rfl|(rw [Zd VV])|(rw [Z6 VV])|(simp [VV];done)|(rw [XM];simp [VV];done)|omega)) fl)))
 rintro F h ⟨rfl,rfl⟩
 refine ac ((s.op==16)||(s.op==17)) (p:=(s.op=16)∨(s.op=17)) (Yh Zr Zr) (fun VW=>?_) (fun VW=>?_)
 ·obtain ⟨x,hxa⟩:=hf.one om
  have ha:s.args[0]? = some x:=by rw [hxa];rfl
  have hx:=hf.args x (by rw [hxa];simp)
  have hgx:=JZ ha
  have hal:=(Xs.1 ha).1
  refine az (ZL 3 [2,1] (ic [3,0,2,2,2,2,2] (Zdj b ga gb gc gd ge gf n s L ln q x) ?_))
  rintro _ _ (⟨wa6,wb6,wc6,wd6,we6,wf6,L'2,rfl,rfl,WB⟩|⟨rfl,rfl,V1⟩)
  ·have hP:=(Hf (n:=n) (ln:=ln) (L:=L) VW hgx).trans (WB)
   obtain ⟨kx,hxv⟩:=BP hn hk hq.1 hf hP
   refine Z0 (Yo (WF (ak (Yi 2 [7] (Zw [] (JF s.op) (Xx [0,5,7] [(80,.b (W7 s.op&&((Y0 n L.vars s) != 0)))] (fun gz=>gz) ?_ ?_))))))
   ·refine Z1 1 (ib (b:=W7 s.op) 77 (fun Yp=>?_) (fun Yp=>?_))
    ·exact Z0 (ZF 9 (Zu ((Y0 n L.vars s) != 0) Yp fl))
    exact Z0 (ZF 9 (Zu false Yp fl))
   refine ac (W7 s.op&&((Y0 n L.vars s) != 0)) (p:=(W7 s.op=true)/\((Y0 n L.vars s)≠0)) (YG Iff.rfl Y6) (fun TZ=>?_) (fun TZ=>?_)
   ·refine az (Z1 2 (ic [0,0,0,0,0,0,0] (J9 b wa6 wb6 wc6 wd6 we6 wf6 L'2 ln (Y0 n L.vars s) 1 (-1) (hlb:=(by rw [hxv];omega)) (hlk:=kx.len)) ?_))
    rintro _ _ ⟨wa7,wb7,wc7,wd7,we7,wf7,rfl⟩
    exact ie (ar (Zp (r1 [0,0,0,0,0,0,0] (.inl ⟨wa7,wb7,wc7,wd7,we7,wf7,(L'2.grow (Y0 n L.vars s) 1 (-1)),rfl,rfl,(by rw [U9,hP];first|rfl|exact TL (by assumption)|exact TM (by assumption) (by assumption)|exact To (by assumption))⟩))))
   refine Zv 2 [7] (Zw [] (JF s.op) (ie (ac (W7 s.op) Iff.rfl (fun A0=>?_) (fun A0=>?_))))
   ·refine az (Z1 1 (ic [0,0,0,0,0,0,0] (J9 b wa6 wb6 wc6 wd6 we6 wf6 L'2 ln 0 0 (-1) (hlb:=(by rw [hxv];omega)) (hlk:=kx.len)) ?_))
    rintro _ _ ⟨wa8,wb8,wc8,wd8,we8,wf8,rfl⟩
    exact ie (ar (Zp (r1 [0,0,0,0,0,0,0] (.inl ⟨wa8,wb8,wc8,wd8,we8,wf8,(L'2.grow 0 0 (-1)),rfl,rfl,(by rw [U9,hP];first|rfl|exact TL (by assumption)|exact TM (by assumption) (by assumption)|exact To (by assumption))⟩))))
   exact ak (ar (Zp (r1 [0,0,0,0,0,0,0] (.inl ⟨wa6,wb6,wc6,wd6,we6,wf6,L'2,rfl,rfl,(by rw [U9,hP];first|rfl|exact TL (by assumption)|exact TM (by assumption) (by assumption)|exact To (by assumption))⟩))))
  have hP:=(Hf (n:=n) (ln:=ln) (L:=L) VW hgx).trans (V1)
  exact Z0 (Yo (Wg (ar (Zp (r1 [] (.inr ⟨rfl,rfl,(by rw [U9,hP];first|rfl|exact TL (by assumption)|exact TM (by assumption) (by assumption)|exact To (by assumption))⟩))))))
 refine Yo (Wm (fun fz gz F h=>F=sF [0,4,5,7] fz [(65,.b ((s.op==7)||(s.op==8)))]/\h=gz) ?_ ?_)
 ·refine ac (s.op==7) Zr (fun Qu=>?_) (fun Qu=>?_)
  ·exact ak (ZU ⟨rfl,rfl⟩ (ZF 9 (fc (x:=.b (s.op==7)) (lb (by first|rfl|(rw [Zd Qu])|(rw [Z6 Qu])|(simp [Qu];done)|(rw [XM];simp [Qu];done)|omega)) fl)))
  exact T6 (ZU ⟨rfl,rfl⟩ (ZF 9 (fc (x:=.b (s.op==8)) (lb (by first|rfl|(rw [Zd Qu])|(rw [Z6 Qu])|(simp [Qu];done)|(rw [XM];simp [Qu];done)|omega)) fl)))
 rintro F h ⟨rfl,rfl⟩
 refine ac ((s.op==7)||(s.op==8)) (p:=(s.op=7)∨(s.op=8)) (Yh Zr Zr) (fun Jy=>?_) (fun Jy=>?_)
 ·refine az (ZL 3 [2,1] (ic [3,0,2,2,2,2,2] (Zdg b ga gb gc gd ge gf n s L ln q (ih:=ob)) ?_))
  rintro _ _ (⟨wa9,wb9,wc9,wd9,we9,wf9,L'3,rfl,rfl,T8⟩|⟨rfl,rfl,T9⟩)
  ·have hP:=(Hg (n:=n) (ln:=ln) (L:=L) Jy).trans (T8)
   obtain ⟨kx,hxv⟩:=BP hn hk hq.1 hf hP
   refine Z0 (Yo (WF (ak (Yi 2 [7] (Zw [] (JF s.op) (Xx [0,5,7] [(80,.b (W7 s.op&&((Y0 n L.vars s) != 0)))] (fun gz=>gz) ?_ ?_))))))
   ·refine Z1 1 (ib (b:=W7 s.op) 77 (fun Xe=>?_) (fun Xe=>?_))
    ·exact Z0 (ZF 9 (Zu ((Y0 n L.vars s) != 0) Xe fl))
    exact Z0 (ZF 9 (Zu false Xe fl))
   refine ac (W7 s.op&&((Y0 n L.vars s) != 0)) (p:=(W7 s.op=true)/\((Y0 n L.vars s)≠0)) (YG Iff.rfl Y6) (fun CA=>?_) (fun CA=>?_)
   ·refine az (Z1 2 (ic [0,0,0,0,0,0,0] (J9 b wa9 wb9 wc9 wd9 we9 wf9 L'3 ln (Y0 n L.vars s) 1 (-1) (hlb:=(by rw [hxv];omega)) (hlk:=kx.len)) ?_))
    rintro _ _ ⟨wa10,wb10,wc10,wd10,we10,wf10,rfl⟩
    exact ie (ar (Zp (r1 [0,0,0,0,0,0,0] (.inl ⟨wa10,wb10,wc10,wd10,we10,wf10,(L'3.grow (Y0 n L.vars s) 1 (-1)),rfl,rfl,(by rw [U9,hP];first|rfl|exact TL (by assumption)|exact TM (by assumption) (by assumption)|exact To (by assumption))⟩))))
   refine Zv 2 [7] (Zw [] (JF s.op) (ie (ac (W7 s.op) Iff.rfl (fun Lk=>?_) (fun Lk=>?_))))
   ·refine az (Z1 1 (ic [0,0,0,0,0,0,0] (J9 b wa9 wb9 wc9 wd9 we9 wf9 L'3 ln 0 0 (-1) (hlb:=(by rw [hxv];omega)) (hlk:=kx.len)) ?_))
    rintro _ _ ⟨wa11,wb11,wc11,wd11,we11,wf11,rfl⟩
    exact ie (ar (Zp (r1 [0,0,0,0,0,0,0] (.inl ⟨wa11,wb11,wc11,wd11,we11,wf11,(L'3.grow 0 0 (-1)),rfl,rfl,(by rw [U9,hP];first|rfl|exact TL (by assumption)|exact TM (by assumption) (by assumption)|exact To (by assumption))⟩))))
   exact ak (ar (Zp (r1 [0,0,0,0,0,0,0] (.inl ⟨wa9,wb9,wc9,wd9,we9,wf9,L'3,rfl,rfl,(by rw [U9,hP];first|rfl|exact TL (by assumption)|exact TM (by assumption) (by assumption)|exact To (by assumption))⟩))))
  have hP:=(Hg (n:=n) (ln:=ln) (L:=L) Jy).trans (T9)
  exact Z0 (Yo (Wg (ar (Zp (r1 [] (.inr ⟨rfl,rfl,(by rw [U9,hP];first|rfl|exact TL (by assumption)|exact TM (by assumption) (by assumption)|exact To (by assumption))⟩))))))
 refine az (ZL 3 [2,1] (ic [3,0,2,2,2,2,2] (Zdi b ga gb gc gd ge gf n s L ln q (hnum:=hf.num) (hargs:=hf.args) (hinto:=(fun q=>(hf.into om).2))) ?_))
 rintro _ _ (⟨wa12,wb12,wc12,wd12,we12,wf12,L'4,rfl,rfl,Jz⟩|⟨rfl,rfl,J8⟩)
 ·have hP:=(Sx (n:=n) (ln:=ln) (L:=L) Za Xh VW Jy).trans (Jz)
  obtain ⟨kx,hxv⟩:=BP hn hk hq.1 hf hP
  refine Z0 (Yo (WF (ak (Yi 2 [7] (Zw [] (JF s.op) (Xx [0,5,7] [(80,.b (W7 s.op&&((Y0 n L.vars s) != 0)))] (fun gz=>gz) ?_ ?_))))))
  ·refine Z1 1 (ib (b:=W7 s.op) 77 (fun Wn=>?_) (fun Wn=>?_))
   ·exact Z0 (ZF 9 (Zu ((Y0 n L.vars s) != 0) Wn fl))
   exact Z0 (ZF 9 (Zu false Wn fl))
  refine ac (W7 s.op&&((Y0 n L.vars s) != 0)) (p:=(W7 s.op=true)/\((Y0 n L.vars s)≠0)) (YG Iff.rfl Y6) (fun Ll=>?_) (fun Ll=>?_)
  ·refine az (Z1 2 (ic [0,0,0,0,0,0,0] (J9 b wa12 wb12 wc12 wd12 we12 wf12 L'4 ln (Y0 n L.vars s) 1 (-1) (hlb:=(by rw [hxv];omega)) (hlk:=kx.len)) ?_))
   rintro _ _ ⟨wa13,wb13,wc13,wd13,we13,wf13,rfl⟩
   exact ie (ar (Zp (r1 [0,0,0,0,0,0,0] (.inl ⟨wa13,wb13,wc13,wd13,we13,wf13,(L'4.grow (Y0 n L.vars s) 1 (-1)),rfl,rfl,(by rw [U9,hP];first|rfl|exact TL (by assumption)|exact TM (by assumption) (by assumption)|exact To (by assumption))⟩))))
  refine Zv 2 [7] (Zw [] (JF s.op) (ie (ac (W7 s.op) Iff.rfl (fun A1=>?_) (fun A1=>?_))))
  ·refine az (Z1 1 (ic [0,0,0,0,0,0,0] (J9 b wa12 wb12 wc12 wd12 we12 wf12 L'4 ln 0 0 (-1) (hlb:=(by rw [hxv];omega)) (hlk:=kx.len)) ?_))
   rintro _ _ ⟨wa14,wb14,wc14,wd14,we14,wf14,rfl⟩
   exact ie (ar (Zp (r1 [0,0,0,0,0,0,0] (.inl ⟨wa14,wb14,wc14,wd14,we14,wf14,(L'4.grow 0 0 (-1)),rfl,rfl,(by rw [U9,hP];first|rfl|exact TL (by assumption)|exact TM (by assumption) (by assumption)|exact To (by assumption))⟩))))
  exact ak (ar (Zp (r1 [0,0,0,0,0,0,0] (.inl ⟨wa12,wb12,wc12,wd12,we12,wf12,L'4,rfl,rfl,(by rw [U9,hP];first|rfl|exact TL (by assumption)|exact TM (by assumption) (by assumption)|exact To (by assumption))⟩))))
 have hP:=(Sx (n:=n) (ln:=ln) (L:=L) Za Xh VW Jy).trans (J8)
 exact Z0 (Yo (Wg (ar (Zp (r1 [] (.inr ⟨rfl,rfl,(by rw [U9,hP];first|rfl|exact TL (by assumption)|exact TM (by assumption) (by assumption)|exact To (by assumption))⟩))))))
theorem Zdf (c:Nat) (ga:Hd) (gb:Hd) (gc:Hd) (gd:Hd) (ge:Hd) (gf:Hd) (n:Zl) (b:Z7) (L:Zo) (ln:LI) (q:Int) (mm:Nat) (hn:X3 n) (hk:X7 n.decls L q) (ht:0<=YS n L.vars b) (hm:mm<=L.vars.length) (hb:L.vars.length+4*b.sz<=1000000000) (hq:0<=q/\q+4*b.sz<=999999990) (hln:ln.length<=4294967296) (ih:∀(s2:Z5) (c:Nat) (ra:Hd) (rb:Hd) (rc:Hd) (rd:Hd) (re:Hd) (rf:Hd) (M:Zo) (p:Int),(s2.sz<b.sz)->(X7 n.decls M p)->(0<=Y0 n M.vars s2)->(M.vars.length+4*s2.sz<=1000000000)->(0<=p/\p+4*s2.sz<=999999990)->Zi 151 [.p c 0,Yr n,YD s2] [.obj c [.h ra,.h rb,.h rc,.h rd,.h re,.h rf,Z4 ln],rV ra M.vars,rV rb M.own,rV rc M.par,rV rd M.con,rV re M.fst,rV rf M.tok] (fun r h=>(∃(wa:Hd) (wb:Hd) (wc:Hd) (wd:Hd) (we:Hd) (wf:Hd) (M':Zo),r=.b true/\h=[.obj c [.h wa,.h wb,.h wc,.h wd,.h we,.h wf,Z4 ln],rV wa M'.vars,rV wb M'.own,rV wc M'.par,rV wd M'.con,rV we M'.fst,rV wf M'.tok]/\WM n ln M s2=some M')∨(r=.b false/\h=[]/\WM n ln M s2=none))):Zi 170 [.p c 0,Yr n,ZZ b,.i mm] [.obj c [.h ga,.h gb,.h gc,.h gd,.h ge,.h gf,Z4 ln],rV ga L.vars,rV gb L.own,rV gc L.par,rV gd L.con,rV ge L.fst,rV gf L.tok] (fun r h=>(∃(wa:Hd) (wb:Hd) (wc:Hd) (wd:Hd) (we:Hd) (wf:Hd) (L':Zo),r=.b true/\h=[.obj c [.h wa,.h wb,.h wc,.h wd,.h we,.h wf,Z4 ln],rV wa L'.vars,rV wb L'.own,rV wc L'.par,rV wd L'.con,rV we L'.fst,rV wf L'.tok]/\Wi n ln L mm b=some L')∨(r=.b false/\h=[]/\Wi n ln L mm b=none)):=by
 have hbz:=b.sz_eq
 obtain ⟨vs,rt,hvs,hres,hrt⟩:=Cg ht
 have hri:=J0 hres
 have Xv:=Td b
 refine ZE 45 Tryz.func170 (ar (iA (YV n) fun b1=>iA (Xu b) fun b2=>?_))
 refine Z0 (Yo (ab 0 (Y3 (fun fz gz m F h=>∃(k:Nat) (q2:Int) (L2:Zo) (ka:Hd) (kb:Hd) (kc:Hd) (kd:Hd) (ke:Hd) (kf:Hd),(k<=b.steps.length)/\(X7 n.decls L2 q2)/\(0<=q2/\q2+4*Yk (b.steps.drop k)<=999999990)/\(L2.vars.length+4*Yk (b.steps.drop k)<=1000000000)/\(Xj n (b.steps.drop k) L2.vars=some vs)/\(Xt n ln L2 (b.steps.drop k)=Xt n ln L b.steps)/\(L.vars.length<=L2.vars.length)/\F=sF [0,3,5,6] fz [(9,.i k)]/\h=[Ze gz 0,Ze gz 1,.obj c [.h ka,.h kb,.h kc,.h kd,.h ke,.h kf,Z4 ln],rV ka L2.vars,rV kb L2.own,rV kc L2.par,rV kd L2.con,rV ke L2.fst,rV kf L2.tok]/\m=b.steps.length-k) _ _ _ ⟨0,q,L,ga,gb,gc,gd,ge,gf,ob,hk,(by rw [KS];omega),(by rw [KS];omega),hvs,rfl,om,rfl,rfl,rfl⟩ (ZF 9 (Ya fl)) ?_)))
 rintro m F h ⟨k,q2,L2,ka,kb,kc,kd,ke,kf,Ye,Zk,Zx,Yy,XY,TF,Ih,rfl,rfl,rfl⟩
 refine Yi 3 [0] (iw (VU b.steps) (Y9 ((k:Int)<(b.steps.length:Int)) (fun Za=>?_) (fun Za=>?_)))
 ·obtain ⟨s1,hs1⟩:=Zt b.steps k om
  have hss:=JK hs1
  have hdr:=Y5 hs1
  have hz:Yk (b.steps.drop k)=s1.sz+Yk (b.steps.drop (k+1)):=by rw [hdr,Yk]
  rw [hdr] at XY TF
  obtain ⟨g1,g2⟩:=CS XY
  refine ak (aq (ab 1 (aD 9 (ZI 4 9 [0,1,2,3,4] [1,0] (dx 5 (Zm none (k:Int) 5 (VP hs1)) (Zj 2 3 [6] (Z9 7 (dc 7 [2,2,2,2,2,2,2] [] [] (ih s1 c ka kb kc kd ke kf L2 q2 ob Zk g1 om om) ?_))))))))
  rintro _ _ (⟨wa1,wb1,wc1,wd1,we1,wf1,M'1,rfl,rfl,ZY⟩|⟨rfl,rfl,Yf⟩)
  ·have hP:=ZY
   have kx:=Fg hn Zk Zx.1 g1 hP
   exact Zj 0 1 [8] (de (WF (ak (az (Z1 1 (ZJ k (Z0 (ZK ⟨k+1,(q2+4*s1.sz),M'1,wa1,wb1,wc1,wd1,we1,wf1,ob,kx.1,om,(by rw [kx.2];have:=F7 n L2.vars s1;omega),(by rw [kx.2];exact g2),(by rw [<-TF,Xt,hP];rfl),(by rw [kx.2];have:=F7 n L2.vars s1;omega),rfl,rfl,rfl⟩ (wk [7,7,0,0,0,0,0,0,0] (ZO k fl))))))))))
  have hP:=Yf
  exact Zj 0 1 [8] (de (Wg (ar (Zp (r1 [] (.inr ⟨rfl,rfl,(by rw [J1,<-TF,Xt,hP];rfl)⟩))))))
 rw [Xm om] at XY TF
 have hvv:L2.vars=vs:=by rw [Xj] at XY;exact UY XY
 have hB:Wi n ln L mm b=Uh mm b.result L2:=by rw [J1,<-TF,Xt];rfl
 obtain ⟨xr,hxr⟩:=Zt L2.vars b.result.toNat (by rw [hvv];omega)
 have hgr:=VQ hxr
 have hrl:0<=b.result/\b.result<L2.vars.length:=by rw [hvv];omega
 rw [Xj] at XY
 refine ax 0 (aq (aD 16 (ZI 10 16 [0,1,2,3,4,5] [2,0] (dx 6 (Wy 3 ka L2.vars b.result b.result.toNat (hq:=rfl)) (Uo 7 (Ub 3 ka L2.vars b.result.toNat xr hxr) (Zj 6 8 [8,9] (db (b:=(xr != 0)) 35 (fun Zb=>?_) (fun Zb=>?_))))))))
 ·have YJ:xr≠0:=(Y6).1 Zb
  refine ZI 3 6 [10,11,12] [0] (Z9 13 (dc 13 [2,2,2,2,2,2,2] [] [] (H1 c ka kb kc kd ke kf L2 ln b.result (hlk:=Zk.len) (hq:=(fun y hy=>⟨Zk.nn y hy,by have:=Zk.bd y hy;omega⟩))) ?_))
  rintro _ _ (⟨wa2,wb2,wc2,wd2,we2,wf2,L'1,rfl,rfl,YT⟩|⟨rfl,rfl,Xk⟩)
  ·have hE:=hB.trans (Z7u hgr (by assumption) YT)
   have kx:=Zk.take YT
   have hxv:L'1.vars.length=L2.vars.length:=by rw [(KP YT).2.1]
   refine Zj 0 2 [14,15] (de (WF (ak (Y1 2 (ic [0,0,0,0,0,0,0] (LL c wa2 wb2 wc2 wd2 we2 wf2 L'1 ln mm (hlk:=(by first|exact kx.len|exact Zk.len)) (hlb:=om) (hm:=om)) ?_)))))
   rintro _ _ (⟨wa3,wb3,wc3,wd3,we3,wf3,L'2,rfl,rfl,W4⟩|⟨rfl,rfl,WB⟩)
   ·exact Zp (r1 [0,0,0,0,0,0,0] (.inl ⟨wa3,wb3,wc3,wd3,we3,wf3,L'2,rfl,rfl,(by first|exact hE|(rw [hE];exact W4)|(rw [hB,Ei hgr (by assumption)];exact W4))⟩))
   exact Zp (r1 [] (.inr ⟨rfl,rfl,(by first|exact hE|(rw [hE];exact WB)|(rw [hB,Ei hgr (by assumption)];exact WB))⟩))
  have hE:=hB.trans (Z7t hgr (by assumption) Xk)
  exact Zj 0 2 [14,15] (de (Wg (ar (Zp (r1 [] (.inr ⟨rfl,rfl,(by first|exact hE|(rw [hE];exact Xk)|(rw [hB,Ei hgr (by assumption)];exact Xk))⟩))))))
 have V1:¬(xr≠0):=Y8 Y6 Zb
 refine Zj 0 6 [10,11,12,13,14,15] (de (WF (ak (Y1 2 (ic [2,2,2,2,2,2,2] (LL c ka kb kc kd ke kf L2 ln mm (hlk:=(by first|exact kx.len|exact Zk.len)) (hlb:=om) (hm:=om)) ?_)))))
 rintro _ _ (⟨wa4,wb4,wc4,wd4,we4,wf4,L'3,rfl,rfl,Vu⟩|⟨rfl,rfl,UR⟩)
 ·exact Zp (r1 [0,0,0,0,0,0,0] (.inl ⟨wa4,wb4,wc4,wd4,we4,wf4,L'3,rfl,rfl,(by first|exact hE|(rw [hE];exact Vu)|(rw [hB,Ei hgr (by assumption)];exact Vu))⟩))
 exact Zp (r1 [] (.inr ⟨rfl,rfl,(by first|exact hE|(rw [hE];exact UR)|(rw [hB,Ei hgr (by assumption)];exact UR))⟩))
theorem RH (n:Zl) (ln:LI) (hn:X3 n) (hln:ln.length<=4294967296) (m:Nat):∀(b2:Z7) (c:Nat) (ra:Hd) (rb:Hd) (rc:Hd) (rd:Hd) (re:Hd) (rf:Hd) (M:Zo) (mm:Nat) (p:Int),(b2.sz<m+1)->(X7 n.decls M p)->(0<=YS n M.vars b2)->(mm<=M.vars.length)->(M.vars.length+4*b2.sz<=1000000000)->(0<=p/\p+4*b2.sz<=999999990)->Zi 170 [.p c 0,Yr n,ZZ b2,.i mm] [.obj c [.h ra,.h rb,.h rc,.h rd,.h re,.h rf,Z4 ln],rV ra M.vars,rV rb M.own,rV rc M.par,rV rd M.con,rV re M.fst,rV rf M.tok] (fun r h=>(∃(wa:Hd) (wb:Hd) (wc:Hd) (wd:Hd) (we:Hd) (wf:Hd) (M':Zo),r=.b true/\h=[.obj c [.h wa,.h wb,.h wc,.h wd,.h we,.h wf,Z4 ln],rV wa M'.vars,rV wb M'.own,rV wc M'.par,rV wd M'.con,rV we M'.fst,rV wf M'.tok]/\Wi n ln M mm b2=some M')∨(r=.b false/\h=[]/\Wi n ln M mm b2=none)):=by
 induction m with
 | zero=>intro b c ga gb gc gd ge gf L mm q h;have:=b.sz_pos;omega
 | succ m ih=>
  intro b c ga gb gc gd ge gf L mm q h1 hk ht hm hb hp
  exact Zdf c ga gb gc gd ge gf n b L ln q mm hn hk ht hm hb hp hln fun s c ga gb gc gd ge gf L q h2 hk ht hb hp=>RJ c ga gb gc gd ge gf n s L ln q hn hk ht hb hp hln
   fun b2 c ga gb gc gd ge gf L mm q h3 hk ht hm hb hp=>ih b2 c ga gb gc gd ge gf L mm q om hk ht hm hb hp
theorem Zdl (n:Zl) (ln:LI) (hn:X3 n) (hln:ln.length<=4294967296) (m:Nat):∀(s2:Z5) (c:Nat) (ra:Hd) (rb:Hd) (rc:Hd) (rd:Hd) (re:Hd) (rf:Hd) (M:Zo) (p:Int),(s2.sz<m+1)->(X7 n.decls M p)->(0<=Y0 n M.vars s2)->(M.vars.length+4*s2.sz<=1000000000)->(0<=p/\p+4*s2.sz<=999999990)->Zi 151 [.p c 0,Yr n,YD s2] [.obj c [.h ra,.h rb,.h rc,.h rd,.h re,.h rf,Z4 ln],rV ra M.vars,rV rb M.own,rV rc M.par,rV rd M.con,rV re M.fst,rV rf M.tok] (fun r h=>(∃(wa:Hd) (wb:Hd) (wc:Hd) (wd:Hd) (we:Hd) (wf:Hd) (M':Zo),r=.b true/\h=[.obj c [.h wa,.h wb,.h wc,.h wd,.h we,.h wf,Z4 ln],rV wa M'.vars,rV wb M'.own,rV wc M'.par,rV wd M'.con,rV we M'.fst,rV wf M'.tok]/\WM n ln M s2=some M')∨(r=.b false/\h=[]/\WM n ln M s2=none)):=by
 intro s c ga gb gc gd ge gf L q h2 hk ht hb hp
 exact RJ c ga gb gc gd ge gf n s L ln q hn hk ht hb hp hln fun b2 c ga gb gc gd ge gf L mm q h3 hk ht hm hb hp=>RH n ln hn hln m b2 c ga gb gc gd ge gf L mm q om hk ht hm hb hp
theorem Zde (c:Nat) (ra:Hd) (rb:Hd) (rc:Hd) (rd:Hd) (re:Hd) (rf:Hd) (n:Zl) (b2:Z7) (M:Zo) (ln:LI) (mm:Nat) (p:Int) (hn:X3 n) (hln:ln.length<=4294967296) (hk:X7 n.decls M p) (ht:0<=YS n M.vars b2) (hm:mm<=M.vars.length) (hb:M.vars.length+4*b2.sz<=1000000000) (hp:0<=p/\p+4*b2.sz<=999999990):Zi 170 [.p c 0,Yr n,ZZ b2,.i mm] [.obj c [.h ra,.h rb,.h rc,.h rd,.h re,.h rf,Z4 ln],rV ra M.vars,rV rb M.own,rV rc M.par,rV rd M.con,rV re M.fst,rV rf M.tok] (fun r h=>(∃(wa:Hd) (wb:Hd) (wc:Hd) (wd:Hd) (we:Hd) (wf:Hd) (M':Zo),r=.b true/\h=[.obj c [.h wa,.h wb,.h wc,.h wd,.h we,.h wf,Z4 ln],rV wa M'.vars,rV wb M'.own,rV wc M'.par,rV wd M'.con,rV we M'.fst,rV wf M'.tok]/\Wi n ln M mm b2=some M')∨(r=.b false/\h=[]/\Wi n ln M mm b2=none)):=RH n ln hn hln b2.sz b2 c ra rb rc rd re rf M mm p om hk ht hm hb hp
theorem Zdk (c:Nat) (ra:Hd) (rb:Hd) (rc:Hd) (rd:Hd) (re:Hd) (rf:Hd) (n:Zl) (s2:Z5) (M:Zo) (ln:LI) (p:Int) (hn:X3 n) (hln:ln.length<=4294967296) (hk:X7 n.decls M p) (ht:0<=Y0 n M.vars s2) (hb:M.vars.length+4*s2.sz<=1000000000) (hp:0<=p/\p+4*s2.sz<=999999990):Zi 151 [.p c 0,Yr n,YD s2] [.obj c [.h ra,.h rb,.h rc,.h rd,.h re,.h rf,Z4 ln],rV ra M.vars,rV rb M.own,rV rc M.par,rV rd M.con,rV re M.fst,rV rf M.tok] (fun r h=>(∃(wa:Hd) (wb:Hd) (wc:Hd) (wd:Hd) (we:Hd) (wf:Hd) (M':Zo),r=.b true/\h=[.obj c [.h wa,.h wb,.h wc,.h wd,.h we,.h wf,Z4 ln],rV wa M'.vars,rV wb M'.own,rV wc M'.par,rV wd M'.con,rV we M'.fst,rV wf M'.tok]/\WM n ln M s2=some M')∨(r=.b false/\h=[]/\WM n ln M s2=none)):=Zdl n ln hn hln s2.sz s2 c ra rb rc rd re rf M p om hk ht hb hp
theorem Z1i (rt:Yb) (hp:rt.params.length<=1000000:=by exact ob) (hl:rt.lent.length<=4294967296:=by exact ob):Zi 150 [QJ rt] [] (fun r h=>∃(c:Nat) (wa:Hd) (wb:Hd) (wc:Hd) (wd:Hd) (we:Hd) (wf:Hd),r=.p c 0/\h=[.obj c [.h wa,.h wb,.h wc,.h wd,.h we,.h wf,Z4 rt.lent],rV wa ((U6 rt).vars),rV wb ((U6 rt).own),rV wc ((U6 rt).par),rV wd ((U6 rt).con),rV we ((U6 rt).fst),rV wf ((U6 rt).tok)]):=by
 refine ZE 45 Tryz.func150 (ar (iA (Tt rt) fun b1=>Z0 (Zv 2 [0] (ic [] (Tc rt.lent) ?_))))
 rintro _ _ ⟨v1,rfl,rfl⟩
 refine ZT 1 [(8,.agg [nl,nl,nl,nl,nl,nl,Z4 rt.lent])] (iA [nl,nl,nl,nl,nl,nl,Z4 rt.lent] fun b2=>?_)
 refine Wd (Z2d 0 b2 [nl,nl,nl,nl,nl,nl,Z4 rt.lent] [.h hN,.h hN,.h hN,.h hN,.h hN,.h hN,Z4 rt.lent] (.cons (Zc.hd (v:=hN)) (.cons (Zc.hd (v:=hN)) (.cons (Zc.hd (v:=hN)) (.cons (Zc.hd (v:=hN)) (.cons (Zc.hd (v:=hN)) (.cons (Zc.hd (v:=hN)) (.cons (lr _) .nil)))))))) (Wd (A7) (Wd (A7) (Wd (A7) (Wd (A7) (Wd (A7) (Wd (A7) (Z0 (Yo (ab 0 (Y3 (fun fz gz m F h=>∃(k:Nat) (L2:Zo) (ka:Hd) (kb:Hd) (kc:Hd) (kd:Hd) (ke:Hd) (kf:Hd),(k<=rt.params.length)/\(WK L2)/\(L2.vars.length=k)/\(KI rt.lent (rt.params.drop k) k L2=U6 rt)/\F=sF [1,3] fz [(4,.i k)]/\h=[.obj b2 [.h ka,.h kb,.h kc,.h kd,.h ke,.h kf,Z4 rt.lent],Ze gz 8,rV ka L2.vars,rV kb L2.own,rV kc L2.par,rV kd L2.con,rV ke L2.fst,rV kf L2.tok]/\m=rt.params.length-k) _ _ _ ⟨0,(Zo.mk [] [] [] [] [] []),hN,hN,hN,hN,hN,hN,ob,⟨rfl,rfl,rfl,rfl,rfl⟩,rfl,rfl,rfl,rfl,rfl⟩ (wk [6,7,0,0,0,0,0,0] (Ya fl) (e:=(rc (rc (rv (xs:=[]) ob (rv (xs:=[]) ob (rv (xs:=[]) ob (rv (xs:=[]) ob (rv (xs:=[]) ob (rv (xs:=[]) ob rz)))))))))) ?_))))))))))
 rintro m F h ⟨k,L2,ka,kb,kc,kd,ke,kf,Ye,Zk,Zx,Yy,rfl,rfl,rfl⟩
 refine Yi 3 [1] (iw (Yc rt.params) (Y9 ((k:Int)<(rt.params.length:Int)) (fun Za=>?_) (fun Za=>?_)))
 ·refine ak (aq (ab 1 (Zv 3 [1] ?_)))
  obtain ⟨x1,Z3⟩:=Zt rt.params k om
  refine Zq (Zm none (k:Int) 1 (Y2 Z3)) (Xx [1,3,4] [(29,.b ((x1 != 0)&&(!(decide ((k:Int)∈rt.lent)))))] (fun gz=>gz) ?_ ?_)
  ·refine Z1 3 (ib (b:=(x1 != 0)) 23 (fun Zb=>?_) (fun Zb=>?_))
   ·exact ZL 3 [1] (Zw [] (Tw rt.lent (k:Int)) (Z0 (ZF 8 (Zu (!(decide ((k:Int)∈rt.lent))) Zb fl))))
   exact Z0 (ZF 8 (Zu false Zb fl))
  refine ac ((x1 != 0)&&(!(decide ((k:Int)∈rt.lent)))) (p:=(x1≠0)/\(¬((k:Int)∈rt.lent))) (YG Y6 (Ym dq)) (fun Zg=>?_) (fun Zg=>?_)
  ·refine az (ZL 4 [1] (Zq (Zm none (k:Int) 1 (Y2 Z3)) (Z1 1 (ic [0,1,1,1,1,1,1] (J9 b2 ka kb kc kd ke kf L2 rt.lent x1 1 (-1) (hlk:=Zk)) ?_))))
   rintro _ _ ⟨wa1,wb1,wc1,wd1,we1,wf1,rfl⟩
   exact ie (az (Z1 1 (ZJ k (Z0 (ZK ⟨k+1,(L2.grow x1 1 (-1)),wa1,wb1,wc1,wd1,we1,wf1,ob,(WK.grow Zk),(by simp [Zo.grow];omega),(by rw [Y5 Z3,KI] at Yy;first|(rw [Zd Zg] at Yy;exact Yy)|(rw [Z6 Zg] at Yy;exact Yy)),rfl,rfl,rfl⟩ (wk [0,6,0,0,0,0,0,0] (ZO k fl)))))))
  refine az (ZL 4 [1] (Zq (Zm none (k:Int) 1 (Y2 Z3)) (Z1 1 (ic [0,1,1,1,1,1,1] (J9 b2 ka kb kc kd ke kf L2 rt.lent x1 0 (-1) (hlk:=Zk)) ?_))))
  rintro _ _ ⟨wa2,wb2,wc2,wd2,we2,wf2,rfl⟩
  exact ie (az (Z1 1 (ZJ k (Z0 (ZK ⟨k+1,(L2.grow x1 0 (-1)),wa2,wb2,wc2,wd2,we2,wf2,ob,(WK.grow Zk),(by simp [Zo.grow];omega),(by rw [Y5 Z3,KI] at Yy;first|(rw [Zd Zg] at Yy;exact Yy)|(rw [Z6 Zg] at Yy;exact Yy)),rfl,rfl,rfl⟩ (wk [0,6,0,0,0,0,0,0] (ZO k fl)))))))
 refine ax 0 (Zy ?_)
 have hNl:L2=U6 rt:=by rw [<-Yy,Xm om];rfl
 exact ZB (r1 [0,1,1,1,1,1,1] ⟨b2,ka,kb,kc,kd,ke,kf,rfl,rfl⟩ (eq:=(rc (rv (xs:=L2.vars) (by rw [hNl]) (rv (xs:=L2.own) (by rw [hNl]) (rv (xs:=L2.par) (by rw [hNl]) (rv (xs:=L2.con) (by rw [hNl]) (rv (xs:=L2.fst) (by rw [hNl]) (rv (xs:=L2.tok) (by rw [hNl]) rz)))))))))
theorem Zie (n:Zl) (f:Nat) (rt:Yb) (hn:X3 n:=by exact ob) (hr:n.routines[f]? = some rt:=by exact ob) (ht:0<=YS n rt.params rt.body:=by exact ob) (hz:rt.body.sz<=100000000:=by exact ob):Zi 109 [Yr n,.i f] [] (Yl (.b (Tj n rt))):=by
 have hfl:=(Xs.1 hr).1
 have hpl:=hn.params_at hr
 have hll:=hn.lent_at hr
 obtain ⟨hk,hkv⟩:=H8 n.decls rt
 refine ZE 26 Tryz.func109 (ar (iA (YV n) fun b1=>Z0 (Zv 3 [0] (Zq (Zm none (f:Int) 5 (WW hr)) (Z1 1 (iA [nl,nl,.i 0,nl,.i 0] fun b2=>ZA 0 b2 (Tt rt) (ie (Zv 1 [0] (ic [] (Z1i rt) ?_)))))))))
 rintro _ _ ⟨c1,wa1,wb1,wc1,wd1,we1,wf1,rfl,rfl⟩
 refine Z0 (Zv 6 [8,7,7] (iw (Yc rt.params) (ic [0,0,0,0,0,0,0] (Zde c1 wa1 wb1 wc1 wd1 we1 wf1 n rt.body (U6 rt) rt.lent rt.params.length 1 ob ob hk (by rw [hkv];exact ht) (by rw [hkv];omega) (by rw [hkv];omega) ob) ?_)))
 rintro _ _ (⟨wa2,wb2,wc2,wd2,we2,wf2,M'1,rfl,rfl,ZY⟩|⟨rfl,rfl,Yf⟩)
 ·have hB:=ZY
  obtain ⟨l1,l2⟩:=Z4y hn hk om (by rw [hkv];exact ht) (by rw [hkv];omega) hB
  refine Z1 2 (ic [0,0,0,0,0,0,0] (LL c1 wa2 wb2 wc2 wd2 we2 wf2 M'1 rt.lent 0 (hlk:=l1)) ?_)
  rintro _ _ (⟨wa3,wb3,wc3,wd3,we3,wf3,L'1,rfl,rfl,YJ⟩|⟨rfl,rfl,YT⟩)
  ·exact Zp (ZW (.b true) (lb (by rw [Tj,hB];exact (Z6d YJ).symm)))
  exact Zp (ZW (.b false) (lb (by rw [Tj,hB];exact (Z6c YT).symm)))
 have hB:=Yf
 exact Zp (ZW (.b false) (lb (by rw [Tj,hB])))
theorem Zif (n:Zl) (hz:V7 n:=by exact ob):Zi 48 [Yr n] [] (Yl (.b (WP n))):=by
 have hzl:=hz.len
 refine ZE 18 Tryz.func48 (ar (iA (YV n) fun b1=>Z0 (Yi 1 [0] (Zw [] (Z1n n) (YE (!XK n) (p:=¬(XK n=true)) (Ym Iff.rfl) (fun Za=>?_) (fun Za=>?_))))))
 ·exact ar (Zp (ZW (.b false) (lb (by first|rfl|omega|grind [WP]))))
 have hV:XK n=true:=Wc.1 Za
 obtain ⟨hok,hall⟩:=Ft hz hV
 refine ak (Yo (ab 0 (Y3 (fun fz gz m F h=>∃(k:Nat),(k<=n.routines.length)/\(Qp n (n.routines.drop k)=Qp n n.routines)/\F=sF [1] fz [(3,.i k)]/\h=gz/\m=n.routines.length-k) _ _ _ ⟨0,ob,ob,rfl,rfl,rfl⟩ (wk [0] (Ya fl)) ?_)))
 rintro m F h ⟨k,Ye,Zk,rfl,rfl,rfl⟩
 refine Yi 3 [0] (iw (Ug n.routines) (Y9 ((k:Int)<(n.routines.length:Int)) (fun Zg=>?_) (fun Zg=>?_)))
 ·obtain ⟨rt,hrt⟩:=Zt n.routines k om
  have hrm:=Y4 hrt
  refine ak (aq (ab 1 (Zv 2 [0] (Zw [] (Zie n k rt (hr:=hrt) (ht:=(hall rt hrm)) (hz:=(VL (hz.body rt hrm) om))) (YE (!Tj n rt) (p:=¬(Tj n rt=true)) (Ym Iff.rfl) (fun ZH=>?_) (fun ZH=>?_))))))
  ·refine Zy ?_
   rw [Y5 hrt] at Zk
   exact ZB (ZW (.b false) (lb (by first|rfl|omega|grind [Qp,WP])))
  refine ak (az (Z1 1 (ZJ k (Z0 ?_))))
  have hdr:=Y5 hrt
  exact ZK ⟨k+1,ob,(by rw [hdr] at Zk;clear hdr ;grind [Qp]),rfl,rfl,rfl⟩ (wk [0] (ZO k fl))
 refine ax 0 (Zy ?_)
 try rw [Xm (xs:=n.routines) (k:=k) om] at Zk
 exact ZB (ZW (.b true) (lb (by first|rfl|omega|grind [Qp,WP])))
end Go.Abs
