/-
  A part of the proofs of several laws (see the last file): no condition.
-/
import Derived.Test.YtfjgjacklgaioaaGreatViC
set_option linter.all false
set_option linter.unusedVariables false
set_option linter.unusedSimpArgs false
set_option linter.unusedSectionVars false
set_option maxRecDepth 10000
set_option maxHeartbeats 4000000
namespace Go.Abs
open Go.Proofs
theorem Ps (rd:Nat) (bs:LI) (p:Nat) (g:Wc) (gb:Nat) (rs:List Func) (vs:LI) (t:Int) (b:Nat) (ZO:∀z∈bs,0<=z/\z<=255) (hp:p+40000<=1000000000:=by exact ob) (hg:GP g:=by exact ob) (WB:g.funcs <+: rs:=by exact ob) (hv:vs.length+3*b<=900:=by exact ob) (hb:b<=20:=by exact ob):Zj 241 [.p rd 0,.agg (WF g gb),Z4 vs,.i t,.i b] [YE rd bs p,XW gb rs] (fun r h=>∃(e:Z1) (p2:Nat),r=Y8 e/\h=[YE rd bs p2,XW gb rs]/\GE g vs.length 30 e/\p<=p2/\p2<=p+40000):=by
 have Dl:=FC hb
 refine ZE 34 Tryz.func241 (ar (iA (WF g gb) fun b1=>iA [.i 0,.i 0,nl] fun b2=>ie (Zv 5 [1] (ic [2,2] (Kt rd bs p g gb rs vs t b (ZO:=ob)) ?_))))
 rintro _ _ ⟨e1,p21,rfl,rfl,ZY⟩
 have Xo:=ZY.1
 refine iA [.i 0,.i 0,nl] fun b3=>?_
 refine ZH 0 b3 (X2 e1) (ie (aq (ab 0 (Y4 (fun fz gz m F h=>∃(bq:Nat) (eQ:Z1) (pq:Nat),(GE g vs.length (bS bq) eQ)/\(bq<=b)/\(p<=pq/\pq+1900*bq<=p+1900*(b+1))/\F=sF [0,2,3,6,10,11] fz [(4,.i bq)]/\h=[.obj b3 (X2 eQ),YE rd bs pq,Zd gz 2,Zd gz 3,Zd gz 4]/\m=bq+1) _ _ _ ⟨b,e1,p21,Xo,ob,ob,rfl,rfl,rfl⟩ (ZG 5 fl) ?_))))
 rintro m F h ⟨bq,eQ,pq,Ye,Zk,Zw,rfl,rfl,rfl⟩
 refine Yk 1 [0] (ic [] (Py eQ (hz:=(by have h1:=Ye.2;have h2:=(FC (b:=bq) om).1;omega))) ?_)
 rintro _ _ ⟨w1,rfl,rfl,Yi⟩
 have Ez:=Yi
 have hq20:=FC (b:=bq) om
 have hq21:=FC (b:=bq / 2) om
 have Xu:=Ye.2
 refine Xv [0,2,3,4,6,10,11] [(24,.b ((decide (w1<0))&&(decide ((bq:Int)>2))))] (fun gz=>gz) ?_ ?_
 ·refine Z2 2 (ib (b:=(decide (w1<0))) 21 (fun Zb=>?_) (fun Zb=>?_))
  ·exact Z0 (ZG 5 (Zt (decide ((bq:Int)>2)) Zb fl))
  exact Z0 (ZG 5 (Zt false Zb fl))
 refine ac ((decide (w1<0))&&(decide ((bq:Int)>2))) (p:=(w1<0)/\((bq:Int)>2)) (YK dq dq) (fun Za=>?_) (fun Za=>?_)
 ·refine ak (ab 1 (Y1 1 (Zp (Cv bq 2 om om) (Z0 (az (ZL 5 [4] (ic [1,1] (Kt rd bs pq g gb rs vs t (bq / 2) (ZO:=ob)) ?_)))))))
  rintro _ _ ⟨e2,p22,rfl,rfl,Xk⟩
  have Xo:=Xk.1
  exact ZH 2 b3 (X2 e2) (ie (ZK ⟨(bq / 2),e2,p22,Xo,ob,ob,rfl,rfl,rfl⟩ (ZG 5 (fc (x:=.i (bq / 2:Nat)) li fl))))
 exact ax 0 (Zv 1 [0] (ZH 3 b2 (X2 eQ) (ie (ZB (r3 [2,2] [Y8 eQ] [0] [(b2,b2)] ⟨eQ,pq,rfl,rfl,⟨⟨Ye.1,by omega⟩,by omega⟩⟩ (lr _))))))
theorem Za9 (rd:Nat) (bs:LI) (p:Nat) (t:Int) (ZO:∀z∈bs,0<=z/\z<=255) (hp:p+14<=1000000000:=by exact ob):Zj 274 [.p rd 0,.i t] [YE rd bs p] (fun r h=>∃(e:Z1) (p2:Nat),r=Y8 e/\h=[YE rd bs p2]/\(∀g:Wc,SE g 9 e)/\p<=p2/\p2<=p+14):=by
 refine ZE 45 Tryz.func274 (ar (iA [.i 0,.i 0,nl] fun b1=>ie (ar (iL (Yt []) 0 3 fun v1=>ZT 0 [(10,XE [])] (Zx [] (XZ 6 0 []) (iA [.i 0,.i 0,nl] fun b2=>ZH 0 b2 (X2 (Z1.mk 6 0 [])) (ie (X7 (YD (t==3) Zq (fun Za=>?_) (fun Za=>?_))))))))))
 ·refine ar (iL (Yt []) 0 3 fun v2=>ZT 0 [(14,XE [])] (Zx [] (XZ 6 2 []) (iA [.i 0,.i 0,nl] fun b3=>?_)))
  refine ZH 0 b3 (X2 (Z1.mk 6 2 [])) (ie (aD 9 (ZI 6 9 [0,1,4] [0,0] (Jo (fun fz gz F h=>∃(k1:Int) (b4:Nat),(Pk 9 k1)/\F=sF [0,4,6] fz [(7,.p b4 0)]/\h=[.obj b4 (X2 (Z1.mk 6 3 [Z1.mk 6 2 [],Z1.mk 0 k1 [],Z1.mk 6 2 []])),.obj rd [Ui bs,.i (p+1:Nat)],Zd gz 0,Zd gz 1,Zd gz 2,Zd gz 3,Zd gz 4]) ?_ ?_))))
  ·refine VJ 2 7 ?_ ?_
   ·refine dc 2 [5] [0,0] [b3,b3] (WG rd bs p 9 (ZO:=ob)) ?_
    rintro _ _ ⟨k1,rfl,rfl,ZY⟩
    have qhp1:=ZY.lt om
    refine VJ 3 7 ?_ ?_
    ·refine Yz 3 [] [1,1] [b3,b3] (B0 k1) (VJ 5 7 ?_ ?_)
     ·refine WP 5 [] [] [Y8 (Z1.mk 6 2 []),Y8 (Z1.mk 0 k1 []),Y8 (Z1.mk 6 2 [])] (Yt [Z1.mk 6 2 [],Z1.mk 0 k1 [],Z1.mk 6 2 []]) (XV [Z1.mk 6 2 [],Z1.mk 0 k1 [],Z1.mk 6 2 []]).symm 3 3 fun v3=>YA 3 3 [] [(21,XE [Z1.mk 6 2 [],Z1.mk 0 k1 [],Z1.mk 6 2 []])] (VJ 6 7 ?_ ?_)
      ·exact Yz 6 [] [] [] (XZ 6 3 [Z1.mk 6 2 [],Z1.mk 0 k1 [],Z1.mk 6 2 []]) (Z9 7 (dA 7 [] [] [.i 0,.i 0,nl] fun b4=>Z9 8 (YO 8 0 [] [] b4 (X2 (Z1.mk 6 3 [Z1.mk 6 2 [],Z1.mk 0 k1 [],Z1.mk 6 2 []])) (de (ZV ⟨k1,b4,(by assumption),rfl,rfl⟩ (wk [0,1,1,1,1,1,1] fl))))))
      exact dA 7 [] [] [.i 0,.i 0,nl] fun b5=>Z9 6 (Yz 6 [] [] [] (XZ 6 3 [Z1.mk 6 2 [],Z1.mk 0 k1 [],Z1.mk 6 2 []]) (Z9 8 (YO 8 0 [] [] b5 (X2 (Z1.mk 6 3 [Z1.mk 6 2 [],Z1.mk 0 k1 [],Z1.mk 6 2 []])) (de (ZV ⟨k1,b5,(by assumption),rfl,rfl⟩ (wk [0,1,1,1,1,1,1] fl))))))
     exact dA 7 [1,1] [b3,b3] [.i 0,.i 0,nl] fun b6=>Z9 5 (WP 5 [] [] [Y8 (Z1.mk 6 2 []),Y8 (Z1.mk 0 k1 []),Y8 (Z1.mk 6 2 [])] (Yt [Z1.mk 6 2 [],Z1.mk 0 k1 [],Z1.mk 6 2 []]) (XV [Z1.mk 6 2 [],Z1.mk 0 k1 [],Z1.mk 6 2 []]).symm 3 3 fun v4=>YA 2 2 [] [(21,XE [Z1.mk 6 2 [],Z1.mk 0 k1 [],Z1.mk 6 2 []])] (Z9 6 (Yz 6 [] [] [] (XZ 6 3 [Z1.mk 6 2 [],Z1.mk 0 k1 [],Z1.mk 6 2 []]) (Z9 8 (YO 8 1 [] [] b6 (X2 (Z1.mk 6 3 [Z1.mk 6 2 [],Z1.mk 0 k1 [],Z1.mk 6 2 []])) (de (ZV ⟨k1,b6,(by assumption),rfl,rfl⟩ (wk [0,1,1,1,1,1,1] fl))))))))
    exact dA 7 [1,1] [b3,b3] [.i 0,.i 0,nl] fun b7=>Z9 3 (Yz 3 [] [2,2] [b3,b3] (B0 k1) (Z9 5 (WP 5 [] [] [Y8 (Z1.mk 6 2 []),Y8 (Z1.mk 0 k1 []),Y8 (Z1.mk 6 2 [])] (Yt [Z1.mk 6 2 [],Z1.mk 0 k1 [],Z1.mk 6 2 []]) (XV [Z1.mk 6 2 [],Z1.mk 0 k1 [],Z1.mk 6 2 []]).symm 3 3 fun v5=>YA 2 2 [] [(21,XE [Z1.mk 6 2 [],Z1.mk 0 k1 [],Z1.mk 6 2 []])] (Z9 6 (Yz 6 [] [] [] (XZ 6 3 [Z1.mk 6 2 [],Z1.mk 0 k1 [],Z1.mk 6 2 []]) (Z9 8 (YO 8 1 [] [] b7 (X2 (Z1.mk 6 3 [Z1.mk 6 2 [],Z1.mk 0 k1 [],Z1.mk 6 2 []])) (de (ZV ⟨k1,b7,(by assumption),rfl,rfl⟩ (wk [0,1,1,1,1,1,1] fl))))))))))
   refine dA 7 [0,0] [b3,b3] [.i 0,.i 0,nl] fun b8=>Z9 2 (dc 2 [6] [1,1] [b3,b3] (WG rd bs p 9 (ZO:=ob)) ?_)
   rintro _ _ ⟨k2,rfl,rfl,Yi⟩
   have qhp2:=Yi.lt om
   exact Z9 3 (Yz 3 [] [2,2] [b3,b3] (B0 k2) (Z9 5 (WP 5 [] [] [Y8 (Z1.mk 6 2 []),Y8 (Z1.mk 0 k2 []),Y8 (Z1.mk 6 2 [])] (Yt [Z1.mk 6 2 [],Z1.mk 0 k2 [],Z1.mk 6 2 []]) (XV [Z1.mk 6 2 [],Z1.mk 0 k2 [],Z1.mk 6 2 []]).symm 3 3 fun v6=>YA 2 2 [] [(21,XE [Z1.mk 6 2 [],Z1.mk 0 k2 [],Z1.mk 6 2 []])] (Z9 6 (Yz 6 [] [] [] (XZ 6 3 [Z1.mk 6 2 [],Z1.mk 0 k2 [],Z1.mk 6 2 []]) (Z9 8 (YO 8 2 [] [] b8 (X2 (Z1.mk 6 3 [Z1.mk 6 2 [],Z1.mk 0 k2 [],Z1.mk 6 2 []])) (de (ZV ⟨k2,b8,(by assumption),rfl,rfl⟩ (wk [0,1,1,1,1,1,1] fl))))))))))
  rintro F h ⟨k1,b4,ZY,rfl,rfl⟩
  have qhp1:=ZY.lt om
  refine aD 8 (ZI 5 8 [0,1,4] [0,2] (Z9 2 (dc 2 [1] [1,0] [b3,b4] (WG rd bs (p+1) 9 (ZO:=ob)) ?_)))
  rintro _ _ ⟨k3,rfl,rfl,YJ⟩
  have qhp3:=YJ.lt om
  exact Z9 3 (Yz 3 [] [2,1] [b3,b4] (B0 k3) (Z9 5 (WP 5 [] [] [Y8 (Z1.mk 6 3 [Z1.mk 6 2 [],Z1.mk 0 k1 [],Z1.mk 6 2 []]),Y8 (Z1.mk 0 k3 []),Y8 (Z1.mk 6 2 [])] (Yt [Z1.mk 6 3 [Z1.mk 6 2 [],Z1.mk 0 k1 [],Z1.mk 6 2 []],Z1.mk 0 k3 [],Z1.mk 6 2 []]) (XV [Z1.mk 6 3 [Z1.mk 6 2 [],Z1.mk 0 k1 [],Z1.mk 6 2 []],Z1.mk 0 k3 [],Z1.mk 6 2 []]).symm 3 3 fun v7=>YA 2 2 [] [(28,XE [Z1.mk 6 3 [Z1.mk 6 2 [],Z1.mk 0 k1 [],Z1.mk 6 2 []],Z1.mk 0 k3 [],Z1.mk 6 2 []])] (Z9 6 (Yz 6 [] [] [] (XZ 6 3 [Z1.mk 6 3 [Z1.mk 6 2 [],Z1.mk 0 k1 [],Z1.mk 6 2 []],Z1.mk 0 k3 [],Z1.mk 6 2 []]) (Z9 7 (YO 7 7 [] [] b1 (X2 (Z1.mk 6 3 [Z1.mk 6 3 [Z1.mk 6 2 [],Z1.mk 0 k1 [],Z1.mk 6 2 []],Z1.mk 0 k3 [],Z1.mk 6 2 []])) (de (ZB (r3 [2] [Y8 (Z1.mk 6 3 [Z1.mk 6 3 [Z1.mk 6 2 [],Z1.mk 0 k1 [],Z1.mk 6 2 []],Z1.mk 0 k3 [],Z1.mk 6 2 []])] [0] [(b1,b1)] ⟨(Z1.mk 6 3 [Z1.mk 6 3 [Z1.mk 6 2 [],Z1.mk 0 k1 [],Z1.mk 6 2 []],Z1.mk 0 k3 [],Z1.mk 6 2 []]),(p+1)+1,rfl,rfl,⟨fun g=>SE.three (s1:=4) (s2:=1) (s3:=1) om om (SE.three (s1:=1) (s2:=1) (s3:=1) om om (SE.nil om om om) (SE.int om om) (SE.nil om om om) om) (SE.int om om) (SE.nil om om om) om,by omega⟩⟩ (lr _)))))))))))
 refine ak (Zv 1 [0] (iA [.i 0,.i 0,nl] fun b9=>ZH 0 b9 (X2 (Z1.mk 6 0 [])) (ie (YP 1 (ic [4] (WG rd bs p 3 (ZO:=ob)) ?_)))))
 rintro _ _ ⟨k4,rfl,rfl,YR⟩
 have qhp4:=YR.lt om
 refine ia ((1+k4)) ((1)+(k4)) (Z0 (ab 0 (Y4 (fun fz gz m F h=>∃(j:Int) (eQ:Z1) (pq:Nat),(0<=j/\j<=3)/\(∀g:Wc,SE g (7-2*j.toNat) eQ)/\(p+1<=pq/\pq+4*j.toNat<=p+13)/\F=sF [0,4,8] fz [(9,.i j)]/\h=[YE rd bs pq,.obj b9 (X2 eQ),Zd gz 4]/\m=j.toNat) _ _ _ ⟨(1+k4),(Z1.mk 6 0 []),p+1,ob,(fun g=>SE.nil om om om),ob,rfl,rfl,rfl⟩ (wk [0,0,2] fl) ?_)))
 rintro m F h ⟨j,eQ,pq,Ye,Zk,Zw,rfl,rfl,rfl⟩
 refine X7 (Y9 (j>0) (fun Zg=>?_) (fun Zg=>?_))
 ·refine ak (aq (ab 1 (aE 7 (ZI 5 7 [0,3] [1] (Z9 1 (dc 1 [0] [0] [b9] (PA rd bs pq (ZO:=ob)) ?_))))))
  rintro _ _ ⟨z1,rfl,rfl,Xk⟩
  have hz:=Xk
  exact Z9 2 (Yz 2 [] [1] [b9] (B0 z1) (Z9 4 (WP 4 [] [] [Y8 (Z1.mk 0 z1 []),Y8 eQ] (Yt [Z1.mk 0 z1 [],eQ]) (XV [Z1.mk 0 z1 [],eQ]).symm 2 3 fun v8=>YA 2 2 [] [(42,XE [Z1.mk 0 z1 [],eQ])] (Z9 5 (Yz 5 [] [] [] (XZ 6 1 [Z1.mk 0 z1 [],eQ]) (Z9 6 (YO 6 2 [] [] b9 (X2 (Z1.mk 6 1 [Z1.mk 0 z1 [],eQ])) (de (az (Z2 1 (ia ((j-1)) ((j)-(1)) (Z0 (ZK ⟨(j-1),(Z1.mk 6 1 [Z1.mk 0 z1 [],eQ]),pq+4,ob,(fun g=>SE.two om om (SE.int (q:=1) om om) (Zk g) om),ob,rfl,rfl,rfl⟩ (wk [2,0,1] fl))))))))))))))
 exact ax 0 (Zv 1 [1] (ZH 2 b1 (X2 eQ) (ie (ZB (r3 [1] [Y8 eQ] [0] [(b1,b1)] ⟨eQ,pq,rfl,rfl,⟨fun g=>(⟨(Zk g).1,by have:=(Zk g).2;omega⟩:SE g 9 _),by omega⟩⟩ (lr _))))))
theorem Zac (rd:Nat) (bs:LI) (p:Nat) (g:Wc) (gb:Nat) (rs:List Func) (ZO:∀z∈bs,0<=z/\z<=255) (hp:p+1600<=1000000000:=by exact ob) (hg:GP g:=by exact ob) (WB:g.funcs <+: rs:=by exact ob):Zj 237 [.p rd 0,.agg (WF g gb)] [YE rd bs p,XW gb rs] (fun r h=>∃(e:Z1) (p2:Nat),r=Y8 e/\h=[YE rd bs p2,XW gb rs]/\GE g 0 200 e/\p<=p2/\p2<=p+1600):=by
 have hbv:=E7
 refine ZE 27 Tryz.func237 (ar (iA (WF g gb) fun b1=>iA [.i 0,.i 0,nl] fun b2=>ie (Y1 1 (iL (Z8 [1,1,3]) 3 1 fun v1=>ZT 0 [(8,Z4 [1,1,3])] (ic [3] (Uh rd bs p [1,1,3] (ZO:=ob)) ?_)))))
 rintro _ _ ⟨z1,rfl,rfl,ZY⟩
 have hz:=BN (a:=1) (b:=3) ZY (by decide)
 refine Z0 (Zv 3 [3] (iL (Z8 [z1]) 1 1 fun v2=>ZT 0 [(13,Z4 [z1])] (ic [1,4] (Kt rd bs (p+1) g gb rs [z1] 0 16 (ZO:=ob) (hv:=(by simp))) ?_)))
 rintro _ _ ⟨e1,p21,rfl,rfl,Yi⟩
 have Xo:=Yi.1
 have Ku:=Yi.2
 rw [hbv.2.2.2.1] at Xo
 refine iA [.i 0,.i 0,nl] fun b3=>ZH 0 b3 (X2 e1) (ie (YP 1 (ic [1] (WG rd bs p21 3 (ZO:=ob)) ?_)))
 rintro _ _ ⟨k1,rfl,rfl,YJ⟩
 have qhp3:=YJ.lt om
 refine Z0 (Wj (fun fz gz F h=>∃(eQ:Z1),(GE g 1 151 eQ)/\F=sF [0,4,5,6] fz []/\h=[Zd gz 0,.obj b3 (X2 eQ),Zd gz 2,Zd gz 5]) ?_ ?_)
 ·refine ac (k1==0) Zq (fun Za=>?_) (fun Za=>?_)
  ·exact az (ZL 1 [1] (TC [Y8 e1] (Yt [e1]) (XV [e1]).symm 1 3 fun v3=>ZT 0 [(19,XE [e1])] (Zx [] (XZ 5 0 [e1]) (ZH 2 b3 (X2 (Z1.mk 5 0 [e1])) (ie (ZV ⟨(Z1.mk 5 0 [e1]),(GE.one om om Xo om),rfl,rfl⟩ (wk [2,0,1,3] fl)))))))
  exact ak (ZV ⟨e1,(GE.le Xo om),rfl,rfl⟩ (wk [0,0,0,2] fl))
 rintro F h ⟨eQ,B8,rfl,rfl⟩
 refine aD 7 (ZI 4 7 [0,1,3] [1] (Z9 2 (dc 2 [0] [0] [b3] (Za9 rd bs (p21+1) z1 (ZO:=ob)) ?_)))
 rintro _ _ ⟨e2,p22,rfl,rfl,YR⟩
 have hli:=YR.1
 exact Z9 4 (WP 4 [] [] [Y8 e2,Y8 eQ] (Yt [e2,eQ]) (XV [e2,eQ]).symm 2 3 fun v4=>YA 2 2 [] [(25,XE [e2,eQ])] (Z9 5 (Yz 5 [] [] [] (XZ 13 0 [e2,eQ]) (Z9 6 (YO 6 4 [] [] b2 (X2 (Z1.mk 13 0 [e2,eQ])) (de (ZB (r3 [2,3] [Y8 (Z1.mk 13 0 [e2,eQ])] [0] [(b2,b2)] ⟨(Z1.mk 13 0 [e2,eQ]),p22,rfl,rfl,⟨GE.letS ((hli g).ge (YU _)) B8 om,by omega⟩⟩ (lr _)))))))))
theorem Zaj (rd:Nat) (bs:LI) (p:Nat) (g:Wc) (gb:Nat) (rs:List Func) (f:Func) (i:Int) (w:Int) (ZO:∀z∈bs,0<=z/\z<=255) (hp:p+1000<=1000000000:=by exact ob) (hg:GP g:=by exact ob) (WB:g.funcs <+: rs:=by exact ob) (hi:0<=i:=by exact ob) (hf:g.funcs[i.toNat]? = some f:=by exact ob) (hw:0<=w/\w<f.params.length:=by exact ob):Zj 238 [.p rd 0,.agg (WF g gb),.i i,.i w] [YE rd bs p,XW gb rs] (fun r h=>∃(e:Z1) (p2:Nat),r=Y8 e/\h=[YE rd bs p2,XW gb rs]/\GE g f.params.length 200 e/\p<=p2/\p2<=p+1000):=by
 obtain ⟨hil,_⟩:=Xq.1 hf
 have hgl:=hg.len
 have hso:=(hg.sigs f (Y0 hf)).bd
 have hbv:=E7
 refine ZE 136 Tryz.func238 (ar (iA (WF g gb) fun b1=>iA [.i 0,.i 0,nl] fun b2=>ie (Zv 3 [1] (Zp (Ws gb g.funcs.length 4 i.toNat 5 i) (Z2 1 (V7 (Vx 3 gb 4 4 5 (i.toNat * 5+0) (Zi (Xw rs)) [Z4 f.params] 31 (Z4 f.params) (UW WB hf 0 rfl (Vk rfl))) (Z0 (Y1 1 (iw (Ya f.params) (Z0 (Y1 1 (iL (Z8 [0,1]) 2 1 fun v1=>ZT 0 [(26,Z4 [0,1])] (ic [] (KG f.params [0,1]) ?_)))))))))))))
 rintro _ _ ⟨v2,rfl,rfl⟩
 refine Z0 (ar (iL (Yt []) 0 3 fun v3=>?_))
 refine Z0 (Ym (ab 0 (Y4 (fun fz gz m F h=>∃(k:Nat) (ys:List Z1) (u:Value) (pq:Nat),(k<=f.params.length)/\(ys.length=k)/\(∀e∈ys,GE g (f.params.length+2) 3 e)/\(p<=pq/\pq<=p+k)/\F=sF [0,2,3,5,8,9,10] fz [(11,Z4 (f.params++[0,1])),(12,K9 ys u),(13,.i k)]/\h=[Zd gz 3,Zd gz 4,YE rd bs pq,Zd gz 6,.tail u 3]/\m=f.params.length-k) _ _ _ ⟨0,[],v3,p,ob,ob,(fun e he=>by cases he),ob,rfl,rfl,rfl⟩ (wk [3,3,3,3,0] (fc (x:=ZQ (f.params++[0,1]) v2) (Zc.forget _ _) (fr (Yb fl)))) ?_)))
 rintro m F h ⟨k,ys,u,pq,Ye,Zk,Zw,Yy,rfl,rfl,rfl⟩
 refine X7 (Y9 ((k:Int)<(f.params.length:Int)) (fun Za=>?_) (fun Za=>?_))
 ·refine ak (aq (ab 1 (ar (YD ((k:Int)==w) Zq (fun Zg=>?_) (fun Zg=>?_)))))
  ·exact az (Z2 2 (ia (((f.params.length+1:Nat):Int)) (((f.params.length:Int))+(1)) (Zx [] (QJ ((f.params.length+1:Nat):Int)) (TC [Y8 (Z1.mk 12 ((f.params.length+1:Nat):Int) [])] (Yt [(Z1.mk 12 ((f.params.length+1:Nat):Int) [])]) (XV [(Z1.mk 12 ((f.params.length+1:Nat):Int) [])]).symm 1 3 fun v4=>ZT 0 [(41,XE [(Z1.mk 12 ((f.params.length+1:Nat):Int) [])])] (ip 5 (Yt (ys++[(Z1.mk 12 ((f.params.length+1:Nat):Int) [])])) (Yt ys) (Yt [(Z1.mk 12 ((f.params.length+1:Nat):Int) [])]) u none 3 (Tx _) (Tx _) (Aq _) (by simp<;>omega) (by simp [Ap,Yt]) fun v5=>Z0 (az (Z2 1 (ZJ k (Z0 (ZK ⟨k+1,(ys++[(Z1.mk 12 ((f.params.length+1:Nat):Int) [])]),v5,pq,ob,ob,(XS Zw (GE.var om om om)),ob,rfl,rfl,rfl⟩ (wk [2,2,2,2,0] (fw (ZM k fl)))))))))))))
  refine aq (Wj (fun fz gz F h=>∃(wb:Bool) (p5:Nat),(pq<=p5/\p5<=pq+1)/\F=sF [0,2,3,5,8,9,10,11,12,13] fz [(52,.b wb)]/\h=[Zd gz 0,Zd gz 1,YE rd bs p5,Zd gz 3,Zd gz 4]) ?_ ?_)
  ·refine az (Z2 2 ?_)
   obtain ⟨x1,Z3⟩:=Zs f.params k om
   refine Zp (Zl none (k:Int) 1 (ZZ Z3)) (Z2 3 (ib (b:=(x1==0)) 48 (fun Zb=>?_) (fun Zb=>?_)))
   ·refine Z2 1 (ic [2] (WG rd bs pq 2 (ZO:=ob)) ?_)
    rintro _ _ ⟨k1,rfl,rfl,Yi⟩
    have qhp2:=Yi.lt om
    exact Z0 (ZV ⟨(k1==0),pq+1,om,rfl,rfl⟩ (wk [1,1,0,0,0] fl))
   exact Z0 (ZV ⟨false,pq,ob,rfl,rfl⟩ (ZG 5 fl))
  rintro F h ⟨wb,p5,kR10_0,rfl,rfl⟩
  refine ac wb Iff.rfl (fun ZD=>?_) (fun ZD=>?_)
  ·exact az (Z2 2 (Zx [] (QJ (k:Int)) (Z2 1 (Zx [] (QJ (f.params.length:Int)) (TC [Y8 (Z1.mk 12 (k:Int) []),Y8 (Z1.mk 12 (f.params.length:Int) [])] (Yt [(Z1.mk 12 (k:Int) []),(Z1.mk 12 (f.params.length:Int) [])]) (XV [(Z1.mk 12 (k:Int) []),(Z1.mk 12 (f.params.length:Int) [])]).symm 2 3 fun v6=>ZT 0 [(58,XE [(Z1.mk 12 (k:Int) []),(Z1.mk 12 (f.params.length:Int) [])])] (Zx [] (XZ 1 0 [(Z1.mk 12 (k:Int) []),(Z1.mk 12 (f.params.length:Int) [])]) (TC [Y8 (Z1.mk 1 0 [(Z1.mk 12 (k:Int) []),(Z1.mk 12 (f.params.length:Int) [])])] (Yt [(Z1.mk 1 0 [(Z1.mk 12 (k:Int) []),(Z1.mk 12 (f.params.length:Int) [])])]) (XV [(Z1.mk 1 0 [(Z1.mk 12 (k:Int) []),(Z1.mk 12 (f.params.length:Int) [])])]).symm 1 3 fun v7=>ZT 0 [(60,XE [(Z1.mk 1 0 [(Z1.mk 12 (k:Int) []),(Z1.mk 12 (f.params.length:Int) [])])])] (ip 6 (Yt (ys++[(Z1.mk 1 0 [(Z1.mk 12 (k:Int) []),(Z1.mk 12 (f.params.length:Int) [])])])) (Yt ys) (Yt [(Z1.mk 1 0 [(Z1.mk 12 (k:Int) []),(Z1.mk 12 (f.params.length:Int) [])])]) u none 3 (Tx _) (Tx _) (Aq _) (by simp<;>omega) (by simp [Ap,Yt]) fun v8=>Z0 (az (Z2 1 (ZJ k (Z0 (ZK ⟨k+1,(ys++[(Z1.mk 1 0 [(Z1.mk 12 (k:Int) []),(Z1.mk 12 (f.params.length:Int) [])])]),v8,p5,ob,ob,(XS Zw (GE.two (s1:=1) (s2:=1) om om (GE.var om om om) (GE.var om om om) om)),ob,rfl,rfl,rfl⟩ (wk [3,3,3,3,0] (fw (ZM k fl))))))))))))))))
  exact az (Z2 2 (Zx [] (QJ (k:Int)) (TC [Y8 (Z1.mk 12 (k:Int) [])] (Yt [(Z1.mk 12 (k:Int) [])]) (XV [(Z1.mk 12 (k:Int) [])]).symm 1 3 fun v9=>ZT 0 [(65,XE [(Z1.mk 12 (k:Int) [])])] (ip 5 (Yt (ys++[(Z1.mk 12 (k:Int) [])])) (Yt ys) (Yt [(Z1.mk 12 (k:Int) [])]) u none 3 (Tx _) (Tx _) (Aq _) (by simp<;>omega) (by simp [Ap,Yt]) fun v10=>Z0 (az (Z2 1 (ZJ k (Z0 (ZK ⟨k+1,(ys++[(Z1.mk 12 (k:Int) [])]),v10,p5,ob,ob,(XS Zw (GE.var om om om)),ob,rfl,rfl,rfl⟩ (wk [2,2,2,2,0] (fw (ZM k fl))))))))))))
 refine ax 0 (ar (ZT 2 [(68,XE ys)] (Zx [] (XZ 9 i ys) (iA [.i 0,.i 0,nl] fun b3=>ZH 0 b3 (X2 (Z1.mk 9 i ys)) (ie (Zv 1 [0] (iA [.i 0,.i 0,nl] fun b4=>?_)))))))
 refine ZH 0 b4 (X2 (Z1.mk 9 i ys)) (ie (aq (aq (Wj (fun fz gz F h=>∃(wb:Bool) (p5:Nat),(pq<=p5/\p5<=pq+1)/\F=sF [0,2,3,5,8,9,10,11,14,15] fz [(82,.b wb)]/\h=[Zd gz 0,Zd gz 1,Zd gz 2,Zd gz 3,YE rd bs p5,Zd gz 5]) ?_ ?_))))
 ·refine az (ZL 3 [3] (Zp (Ws gb g.funcs.length 4 i.toNat 5 i) (Z2 1 (V7 (Vx 5 gb 4 4 5 (i.toNat * 5+1) (Zi (Xw rs)) [.i f.result] 3 (.i f.result) (UW WB hf 1 rfl (Vk rfl))) (Z2 2 (ib (b:=(f.result==1)) 78 (fun Zz=>?_) (fun Zz=>?_)))))))
  ·refine Z2 1 (ic [4] (WG rd bs pq 5 (ZO:=ob)) ?_)
   rintro _ _ ⟨k2,rfl,rfl,Xk⟩
   have qhp5:=Xk.lt om
   exact Z0 (ZV ⟨(decide (k2>0)),pq+1,ob,rfl,rfl⟩ (wk [1,1,1,1,0,0] fl))
  exact Z0 (ZV ⟨false,pq,ob,rfl,rfl⟩ (ZG 6 fl))
 rintro F h ⟨wb,p5,kR15_0,rfl,rfl⟩
 refine Wj (fun fz gz F h=>∃(eQ:Z1) (p6:Nat),(GE g (f.params.length+2) 41 eQ)/\(p5<=p6/\p6<=p5+302)/\F=sF [0,2,3,5,8,9,15] fz []/\h=[.obj b4 (X2 eQ),Zd gz 2,Zd gz 3,YE rd bs p6,Zd gz 5]) ?_ ?_
 ·refine ac wb Iff.rfl (fun Yj=>?_) (fun Yj=>?_)
  ·refine Zv 3 [3] (ic [4,4] (Kt rd bs p5 g gb rs (f.params++[0,1]) 0 4 (ZO:=ob) (hv:=(by first|omega|(simp only [Ys,YW,XJ];omega)))) ?_)
   rintro _ _ ⟨e1,p21,rfl,rfl,WA⟩
   have Xo:=WA.1
   have Ku:=WA.2
   try rw [Ys] at Xo
   rw [hbv.2.1] at Xo
   refine iA [.i 0,.i 0,nl] fun b5=>?_
   refine ZH 0 b5 (X2 e1) (ie (aq (aq (Wj (fun fz gz F h=>∃(wc:Bool),(True)/\F=sF [0,2,3,5,8,9,10,14,15,16] fz [(94,.b wc)]/\h=gz) ?_ ?_))))
   ·refine az (Z2 3 (ib (b:=(decide ((f.params.length:Int)>1))) 89 (fun Yo=>?_) (fun Yo=>?_)))
    ·refine Z2 1 ?_
     obtain ⟨x2,Zr⟩:=Zs f.params 0 om
     exact Zp (Zl none 0 1 (ZZ Zr)) (Z0 (ZV ⟨(x2==2),ob,rfl,rfl⟩ (ZG 7 fl)))
    exact Z0 (ZV ⟨false,ob,rfl,rfl⟩ (ZG 7 fl))
   rintro F h ⟨wc,kR17_0,rfl,rfl⟩
   refine Wj (fun fz gz F h=>∃(eA:Z1),(GE g (f.params.length+2) 30 eA)/\F=sF [0,2,3,5,8,9,14,15,16] fz []/\h=[.obj b5 (X2 eA),Zd gz 1,Zd gz 2,Zd gz 3,Zd gz 4,Zd gz 5,Zd gz 6]) ?_ ?_
   ·refine ac wc Iff.rfl (fun Xh=>?_) (fun Xh=>?_)
    ·exact az (Zx [] (QJ 0) (Z2 1 (Zx [] (QJ (f.params.length:Int)) (TC [Y8 (Z1.mk 12 0 []),Y8 (Z1.mk 12 (f.params.length:Int) [])] (Yt [Z1.mk 12 0 [],(Z1.mk 12 (f.params.length:Int) [])]) (XV [Z1.mk 12 0 [],(Z1.mk 12 (f.params.length:Int) [])]).symm 2 3 fun v11=>ZT 0 [(98,XE [Z1.mk 12 0 [],(Z1.mk 12 (f.params.length:Int) [])])] (Zx [] (XZ 11 0 [Z1.mk 12 0 [],(Z1.mk 12 (f.params.length:Int) [])]) (ZH 1 b5 (X2 (Z1.mk 11 0 [Z1.mk 12 0 [],(Z1.mk 12 (f.params.length:Int) [])])) (ie (ZV ⟨(Z1.mk 11 0 [Z1.mk 12 0 [],(Z1.mk 12 (f.params.length:Int) [])]),(GE.two (s1:=1) (s2:=1) om om (GE.var om om om) (GE.var om om om) om),rfl,rfl⟩ (wk [0,1,1,1,1,1,1] fl)))))))))
    exact ak (ZV ⟨e1,Xo,rfl,rfl⟩ (ZG 7 fl))
   rintro F h ⟨eA,Zda,rfl,rfl⟩
   exact az (ZL 2 [0,4] (TC [Y8 eA,Y8 (Z1.mk 9 i ys)] (Yt [eA,Z1.mk 9 i ys]) (XV [eA,Z1.mk 9 i ys]).symm 2 3 fun v12=>ZT 0 [(102,XE [eA,Z1.mk 9 i ys])] (Zx [] (XZ 6 1 [eA,Z1.mk 9 i ys]) (ZH 4 b4 (X2 (Z1.mk 6 1 [eA,Z1.mk 9 i ys])) (ie (ZV ⟨(Z1.mk 6 1 [eA,Z1.mk 9 i ys]),p21,(GE.two (s1:=30) (s2:=10) om om Zda (GE.node (L:=f.params.length) (s:=3) (q:=10) om (fun _=>by omega) om Zw om om om) om),ob,rfl,rfl⟩ (wk [0,5,5,2,2] fl)))))))
  refine Zv 3 [3] (Zp (Ws gb g.funcs.length 4 i.toNat 5 i) (Z2 1 (V7 (Vx 5 gb 4 4 5 (i.toNat * 5+1) (Zi (Xw rs)) [.i f.result] 3 (.i f.result) (UW WB hf 1 rfl (Vk rfl))) (YD (f.result==0) Zq (fun Xl=>?_) (fun Xl=>?_)))))
  ·refine aE 11 (ZI 6 11 [0,3,4,5,7] [3,1] (Z9 1 (dL 1 [1,3] [b3,b1] (Z8 [1,2]) 2 1 fun v13=>YA 5 5 [] [(112,Z4 [1,2])] (Z9 2 (dc 2 [5] [1,3] [b3,b1] (Uh rd bs p5 [1,2] (ZO:=ob)) ?_)))))
   rintro _ _ ⟨z1,rfl,rfl,UH⟩
   have hz:=BN (a:=1) (b:=2) UH (by decide)
   refine Z9 6 (dc 6 [0,5] [1] [b3] (Kt rd bs (p5+1) g gb rs (f.params++[0,1]) 0 4 (ZO:=ob) (hv:=(by first|omega|(simp only [Ys,YW,XJ];omega)))) ?_)
   rintro _ _ ⟨e2,p22,rfl,rfl,T0⟩
   have Xo:=T0.1
   have Ku:=T0.2
   try rw [Ys] at Xo
   rw [hbv.2.1] at Xo
   exact Z9 8 (WP 8 [] [] [Y8 e2,Y8 (Z1.mk 9 i ys)] (Yt [e2,Z1.mk 9 i ys]) (XV [e2,Z1.mk 9 i ys]).symm 2 3 fun v14=>YA 2 2 [] [(119,XE [e2,Z1.mk 9 i ys])] (Z9 9 (Yz 9 [] [] [] (XZ z1 0 [e2,Z1.mk 9 i ys]) (Z9 10 (YO 10 4 [] [] b4 (X2 (Z1.mk z1 0 [e2,Z1.mk 9 i ys])) (de (ZV ⟨(Z1.mk z1 0 [e2,Z1.mk 9 i ys]),p22,(GE.two (s1:=30) (s2:=10) om om Xo (GE.node (L:=f.params.length) (s:=3) (q:=10) om (fun _=>by omega) om Zw om om om) om),ob,rfl,rfl⟩ (wk [0,5,5,1,1] fl))))))))
  exact ak (ZV ⟨(Z1.mk 9 i ys),p5,(GE.le (GE.node (L:=f.params.length) (s:=3) (q:=10) om (fun _=>by omega) om Zw om om om) om),ob,rfl,rfl⟩ (wk [0,1,1,1,1] fl))
 rintro F h ⟨eQ,p6,ED,Zm6,rfl,rfl⟩
 refine aD 16 (ZI 9 16 [0,2,3,4,5,6,7] [2,2] (dx 8 (Ws gb g.funcs.length 4 i.toNat 5 i) (Zh 7 8 [9] (Ue 10 (Vx 4 gb 4 4 5 (i.toNat * 5+1) (Zi (Xw rs)) [.i f.result] 3 (.i f.result) (UW WB hf 1 rfl (Vk rfl))) (ZI 5 6 [12] [0] (Z9 1 (Yz 1 [] [0,4,2,2] [b4,gb,b1,b1] (QJ w) (Z9 11 (dc 11 [3,3] [0] [b4] (Kt rd bs p6 g gb rs f.params f.result 4 (ZO:=ob) (hv:=(by first|omega|(simp only [Ys,YW,XJ];omega)))) ?_)))))))))
 rintro _ _ ⟨e3,p23,rfl,rfl,T1⟩
 have Xo:=T1.1
 have Ku:=T1.2
 try rw [Ys] at Xo
 rw [hbv.2.1] at Xo
 exact Z9 13 (WP 13 [] [] [Y8 (Z1.mk 12 w []),Y8 e3,Y8 eQ] (Yt [Z1.mk 12 w [],e3,eQ]) (XV [Z1.mk 12 w [],e3,eQ]).symm 3 3 fun v15=>YA 2 2 [] [(134,XE [Z1.mk 12 w [],e3,eQ])] (Z9 14 (Yz 14 [] [] [] (XZ 8 1 [Z1.mk 12 w [],e3,eQ]) (Z9 15 (YO 15 4 [] [] b2 (X2 (Z1.mk 8 1 [Z1.mk 12 w [],e3,eQ])) (de (ZB (r3 [2,2] [Y8 (Z1.mk 8 1 [Z1.mk 12 w [],e3,eQ])] [0] [(b2,b2)] ⟨(Z1.mk 8 1 [Z1.mk 12 w [],e3,eQ]),p23,rfl,rfl,⟨GE.matchL hg (s1:=1) (s2:=30) (s3:=41) (GE.var om om om) Xo ED om,by omega⟩⟩ (lr _)))))))))
theorem Zak (rd:Nat) (bs:LI) (p:Nat) (g:Wc) (gb:Nat) (rs:List Func) (f:Func) (i:Int) (ZO:∀z∈bs,0<=z/\z<=255) (hp:p+1000<=1000000000:=by exact ob) (hg:GP g:=by exact ob) (WB:g.funcs <+: rs:=by exact ob) (hi:0<=i:=by exact ob) (hf:g.funcs[i.toNat]? = some f:=by exact ob) (h0:0<f.params.length:=by exact ob):Zj 239 [.p rd 0,.agg (WF g gb),.i i] [YE rd bs p,XW gb rs] (fun r h=>∃(e:Z1) (p2:Nat),r=Y8 e/\h=[YE rd bs p2,XW gb rs]/\GE g f.params.length 200 e/\p<=p2/\p2<=p+1000):=by
 obtain ⟨hil,_⟩:=Xq.1 hf
 have hgl:=hg.len
 have hso:=(hg.sigs f (Y0 hf)).bd
 have hbv:=E7
 refine ZE 96 Tryz.func239 (ar (iA (WF g gb) fun b1=>iA [.i 0,.i 0,nl] fun b2=>ie (Zv 3 [1] (Zp (Ws gb g.funcs.length 4 i.toNat 5 i) (Z2 1 (V7 (Vx 3 gb 4 4 5 (i.toNat * 5+0) (Zi (Xw rs)) [Z4 f.params] 31 (Z4 f.params) (UW WB hf 0 rfl (Vk rfl))) (Z0 (Y1 1 (iw (Ya f.params) (Z0 (Y1 1 (Zx [] (QJ (f.params.length:Int)) (TC [Y8 (Z1.mk 12 (f.params.length:Int) [])] (Yt [(Z1.mk 12 (f.params.length:Int) [])]) (XV [(Z1.mk 12 (f.params.length:Int) [])]).symm 1 3 fun v1=>Z0 (Y1 1 (ia (((f.params.length+2:Nat):Int)) (((f.params.length:Int))+(2)) (Zx [] (QJ ((f.params.length+2:Nat):Int)) (TC [Y8 (Z1.mk 12 ((f.params.length+2:Nat):Int) [])] (Yt [(Z1.mk 12 ((f.params.length+2:Nat):Int) [])]) (XV [(Z1.mk 12 ((f.params.length+2:Nat):Int) [])]).symm 1 3 fun v2=>?_)))))))))))))))))
 refine Z0 (Ym (ab 0 (Y4 (fun fz gz m F h=>∃(k:Nat) (ys:List Z1) (u:Value) (zs:List Z1) (w:Value),(1<=k/\k<=f.params.length)/\(ys.length=k)/\(zs.length=k)/\(∀e∈ys,GE g (f.params.length+3) 1 e)/\(∀e∈zs,GE g (f.params.length+3) 1 e)/\F=sF [0,2,4,6,7,8] fz [(9,K9 ys u),(10,K9 zs w),(11,.i k)]/\h=[Zd gz 2,Zd gz 3,Zd gz 4,Zd gz 5,.tail u 3,.tail w 3]/\m=f.params.length-k) _ _ _ ⟨1,[(Z1.mk 12 (f.params.length:Int) [])],v1,[(Z1.mk 12 ((f.params.length+2:Nat):Int) [])],v2,ob,ob,ob,(I1 (GE.var om om om)),(I1 (GE.var om om om)),rfl,rfl,rfl⟩ (wk [2,2,2,2,1,0] (fw (fc (x:=.i 1) li fl))) ?_)))
 rintro m F h ⟨k,ys,u,zs,w,Ye,Zk,Zw,Yy,XU,rfl,rfl,rfl⟩
 refine X7 (Y9 ((k:Int)<(f.params.length:Int)) (fun Za=>?_) (fun Za=>?_))
 ·exact ak (aq (ab 1 (Y1 2 (Zx [] (QJ (k:Int)) (TC [Y8 (Z1.mk 12 (k:Int) [])] (Yt [(Z1.mk 12 (k:Int) [])]) (XV [(Z1.mk 12 (k:Int) [])]).symm 1 3 fun v3=>ZT 0 [(38,XE [(Z1.mk 12 (k:Int) [])])] (ip 5 (Yt (ys++[(Z1.mk 12 (k:Int) [])])) (Yt ys) (Yt [(Z1.mk 12 (k:Int) [])]) u none 3 (Tx _) (Tx _) (Aq _) (by simp<;>omega) (by simp [Ap,Yt]) fun v4=>Z0 (az (Z2 2 (Zx [] (QJ (k:Int)) (TC [Y8 (Z1.mk 12 (k:Int) [])] (Yt [(Z1.mk 12 (k:Int) [])]) (XV [(Z1.mk 12 (k:Int) [])]).symm 1 3 fun v5=>ZT 0 [(43,XE [(Z1.mk 12 (k:Int) [])])] (ip 7 (Yt (zs++[(Z1.mk 12 (k:Int) [])])) (Yt zs) (Yt [(Z1.mk 12 (k:Int) [])]) w none 3 (Tx _) (Tx _) (Aq _) (by simp<;>omega) (by simp [Ap,Yt]) fun v6=>Z0 (az (Z2 1 (ZJ k (Z0 (ZK ⟨k+1,(ys++[(Z1.mk 12 (k:Int) [])]),v4,(zs++[(Z1.mk 12 (k:Int) [])]),v6,ob,ob,ob,(XS Yy (GE.var om om om)),(XS XU (GE.var om om om)),rfl,rfl,rfl⟩ (wk [4,4,4,4,2,0] (fw (ZM k fl)))))))))))))))))))
 refine ax 0 (ar (ZT 2 [(46,XE ys)] (Zx [] (XZ 9 i ys) (iA [.i 0,.i 0,nl] fun b3=>ZH 0 b3 (X2 (Z1.mk 9 i ys)) (ie (ar (ZT 2 [(49,XE zs)] (Zx [] (XZ 9 i zs) (iA [.i 0,.i 0,nl] fun b4=>?_)))))))))
 refine ZH 0 b4 (X2 (Z1.mk 9 i zs)) (ie (aD 14 (ZI 9 14 [0,1,2,3,7] [1,3,0] (Jo (fun fz gz F h=>∃(e1:Z1) (p21:Nat) (b5:Nat),(GE g (f.params++[3,0,3]).length (bS 4) e1/\p<=p21/\p21<=p+bC 4)/\F=sF [0,2,4,6,7,8,12] fz [(14,.p b5 0)]/\h=[.obj b5 (X2 (Z1.mk 1 0 [Z1.mk 9 i ys,Z1.mk 1 0 [e1,Z1.mk 9 i zs]])),YE rd bs p21,Zd gz 5,Zd gz 0,Zd gz 1,Zd gz 2,Zd gz 3,Zd gz 6,Zd gz 7]) ?_ ?_))))
 ·refine VJ 4 12 ?_ ?_
  ·refine dL 4 [0,3,1] [b4,b1,b3] (Z8 [3,0,3]) 3 1 fun v7=>YA 8 8 [] [(55,Z4 [3,0,3])] (VJ 5 12 ?_ ?_)
   ·refine dc 5 [] [0,3,1] [b4,b1,b3] (KG f.params [3,0,3]) ?_
    rintro _ _ ⟨v8,rfl,rfl⟩
    refine YA 7 7 [] [(56,Z4 (f.params++[3,0,3]))] (VJ 6 12 ?_ ?_)
    ·refine dc 6 [6,6] [0,1] [b4,b3] (Kt rd bs p g gb rs (f.params++[3,0,3]) 0 4 (ZO:=ob) (hv:=(by first|omega|(simp only [Ys,YW,XJ];omega)))) ?_
     rintro _ _ ⟨e1,p21,rfl,rfl,ZY⟩
     have Xo:=ZY.1
     have Ku:=ZY.2
     try rw [Ys] at Xo
     rw [hbv.2.1] at Xo
     refine VJ 8 12 ?_ ?_
     ·refine WP 8 [3] [b3] [Y8 e1,Y8 (Z1.mk 9 i zs)] (Yt [e1,Z1.mk 9 i zs]) (XV [e1,Z1.mk 9 i zs]).symm 2 3 fun v9=>YA 5 5 [] [(59,XE [e1,Z1.mk 9 i zs])] (VJ 9 12 ?_ ?_)
      ·refine Yz 9 [] [3] [b3] (XZ 1 0 [e1,Z1.mk 9 i zs]) (VJ 10 12 ?_ ?_)
       ·refine WP 10 [] [] [Y8 (Z1.mk 9 i ys),Y8 (Z1.mk 1 0 [e1,Z1.mk 9 i zs])] (Yt [Z1.mk 9 i ys,Z1.mk 1 0 [e1,Z1.mk 9 i zs]]) (XV [Z1.mk 9 i ys,Z1.mk 1 0 [e1,Z1.mk 9 i zs]]).symm 2 3 fun v10=>YA 3 3 [] [(61,XE [Z1.mk 9 i ys,Z1.mk 1 0 [e1,Z1.mk 9 i zs]])] (VJ 11 12 ?_ ?_)
        ·exact Yz 11 [] [] [] (XZ 1 0 [Z1.mk 9 i ys,Z1.mk 1 0 [e1,Z1.mk 9 i zs]]) (Z9 12 (dA 12 [] [] [.i 0,.i 0,nl] fun b5=>Z9 13 (YO 13 0 [] [] b5 (X2 (Z1.mk 1 0 [Z1.mk 9 i ys,Z1.mk 1 0 [e1,Z1.mk 9 i zs]])) (de (ZV ⟨e1,p21,b5,(by assumption),rfl,rfl⟩ (wk [0,2,2,4,4,4,4,4,4] fl))))))
        exact dA 12 [] [] [.i 0,.i 0,nl] fun b6=>Z9 11 (Yz 11 [] [] [] (XZ 1 0 [Z1.mk 9 i ys,Z1.mk 1 0 [e1,Z1.mk 9 i zs]]) (Z9 13 (YO 13 0 [] [] b6 (X2 (Z1.mk 1 0 [Z1.mk 9 i ys,Z1.mk 1 0 [e1,Z1.mk 9 i zs]])) (de (ZV ⟨e1,p21,b6,(by assumption),rfl,rfl⟩ (wk [0,2,2,4,4,4,4,4,4] fl))))))
       exact dA 12 [3] [b3] [.i 0,.i 0,nl] fun b7=>Z9 10 (WP 10 [] [] [Y8 (Z1.mk 9 i ys),Y8 (Z1.mk 1 0 [e1,Z1.mk 9 i zs])] (Yt [Z1.mk 9 i ys,Z1.mk 1 0 [e1,Z1.mk 9 i zs]]) (XV [Z1.mk 9 i ys,Z1.mk 1 0 [e1,Z1.mk 9 i zs]]).symm 2 3 fun v11=>YA 2 2 [] [(61,XE [Z1.mk 9 i ys,Z1.mk 1 0 [e1,Z1.mk 9 i zs]])] (Z9 11 (Yz 11 [] [] [] (XZ 1 0 [Z1.mk 9 i ys,Z1.mk 1 0 [e1,Z1.mk 9 i zs]]) (Z9 13 (YO 13 1 [] [] b7 (X2 (Z1.mk 1 0 [Z1.mk 9 i ys,Z1.mk 1 0 [e1,Z1.mk 9 i zs]])) (de (ZV ⟨e1,p21,b7,(by assumption),rfl,rfl⟩ (wk [0,2,2,4,4,4,4,4,4] fl))))))))
      exact dA 12 [3] [b3] [.i 0,.i 0,nl] fun b8=>Z9 9 (Yz 9 [] [4] [b3] (XZ 1 0 [e1,Z1.mk 9 i zs]) (Z9 10 (WP 10 [] [] [Y8 (Z1.mk 9 i ys),Y8 (Z1.mk 1 0 [e1,Z1.mk 9 i zs])] (Yt [Z1.mk 9 i ys,Z1.mk 1 0 [e1,Z1.mk 9 i zs]]) (XV [Z1.mk 9 i ys,Z1.mk 1 0 [e1,Z1.mk 9 i zs]]).symm 2 3 fun v12=>YA 2 2 [] [(61,XE [Z1.mk 9 i ys,Z1.mk 1 0 [e1,Z1.mk 9 i zs]])] (Z9 11 (Yz 11 [] [] [] (XZ 1 0 [Z1.mk 9 i ys,Z1.mk 1 0 [e1,Z1.mk 9 i zs]]) (Z9 13 (YO 13 1 [] [] b8 (X2 (Z1.mk 1 0 [Z1.mk 9 i ys,Z1.mk 1 0 [e1,Z1.mk 9 i zs]])) (de (ZV ⟨e1,p21,b8,(by assumption),rfl,rfl⟩ (wk [0,2,2,4,4,4,4,4,4] fl))))))))))
     exact dA 12 [2,3] [b4,b3] [.i 0,.i 0,nl] fun b9=>Z9 8 (WP 8 [4] [b3] [Y8 e1,Y8 (Z1.mk 9 i zs)] (Yt [e1,Z1.mk 9 i zs]) (XV [e1,Z1.mk 9 i zs]).symm 2 3 fun v13=>YA 4 4 [] [(59,XE [e1,Z1.mk 9 i zs])] (Z9 9 (Yz 9 [] [4] [b3] (XZ 1 0 [e1,Z1.mk 9 i zs]) (Z9 10 (WP 10 [] [] [Y8 (Z1.mk 9 i ys),Y8 (Z1.mk 1 0 [e1,Z1.mk 9 i zs])] (Yt [Z1.mk 9 i ys,Z1.mk 1 0 [e1,Z1.mk 9 i zs]]) (XV [Z1.mk 9 i ys,Z1.mk 1 0 [e1,Z1.mk 9 i zs]]).symm 2 3 fun v14=>YA 2 2 [] [(61,XE [Z1.mk 9 i ys,Z1.mk 1 0 [e1,Z1.mk 9 i zs]])] (Z9 11 (Yz 11 [] [] [] (XZ 1 0 [Z1.mk 9 i ys,Z1.mk 1 0 [e1,Z1.mk 9 i zs]]) (Z9 13 (YO 13 2 [] [] b9 (X2 (Z1.mk 1 0 [Z1.mk 9 i ys,Z1.mk 1 0 [e1,Z1.mk 9 i zs]])) (de (ZV ⟨e1,p21,b9,(by assumption),rfl,rfl⟩ (wk [0,2,2,4,4,4,4,4,4] fl))))))))))))
    refine dA 12 [0,3,1] [b4,b1,b3] [.i 0,.i 0,nl] fun b10=>Z9 6 (dc 6 [7,7] [1,2] [b4,b3] (Kt rd bs p g gb rs (f.params++[3,0,3]) 0 4 (ZO:=ob) (hv:=(by first|omega|(simp only [Ys,YW,XJ];omega)))) ?_)
    rintro _ _ ⟨e2,p22,rfl,rfl,Yi⟩
    have Xo:=Yi.1
    have Ku:=Yi.2
    try rw [Ys] at Xo
    rw [hbv.2.1] at Xo
    exact Z9 8 (WP 8 [4] [b3] [Y8 e2,Y8 (Z1.mk 9 i zs)] (Yt [e2,Z1.mk 9 i zs]) (XV [e2,Z1.mk 9 i zs]).symm 2 3 fun v15=>YA 4 4 [] [(59,XE [e2,Z1.mk 9 i zs])] (Z9 9 (Yz 9 [] [4] [b3] (XZ 1 0 [e2,Z1.mk 9 i zs]) (Z9 10 (WP 10 [] [] [Y8 (Z1.mk 9 i ys),Y8 (Z1.mk 1 0 [e2,Z1.mk 9 i zs])] (Yt [Z1.mk 9 i ys,Z1.mk 1 0 [e2,Z1.mk 9 i zs]]) (XV [Z1.mk 9 i ys,Z1.mk 1 0 [e2,Z1.mk 9 i zs]]).symm 2 3 fun v16=>YA 2 2 [] [(61,XE [Z1.mk 9 i ys,Z1.mk 1 0 [e2,Z1.mk 9 i zs]])] (Z9 11 (Yz 11 [] [] [] (XZ 1 0 [Z1.mk 9 i ys,Z1.mk 1 0 [e2,Z1.mk 9 i zs]]) (Z9 13 (YO 13 4 [] [] b10 (X2 (Z1.mk 1 0 [Z1.mk 9 i ys,Z1.mk 1 0 [e2,Z1.mk 9 i zs]])) (de (ZV ⟨e2,p22,b10,(by assumption),rfl,rfl⟩ (wk [0,2,2,4,4,4,4,4,4] fl))))))))))))
   refine dA 12 [0,3,1] [b4,b1,b3] [.i 0,.i 0,nl] fun b11=>Z9 5 (dc 5 [] [1,4,2] [b4,b1,b3] (KG f.params [3,0,3]) ?_)
   rintro _ _ ⟨v17,rfl,rfl⟩
   refine YA 6 6 [] [(56,Z4 (f.params++[3,0,3]))] (Z9 6 (dc 6 [7,7] [1,2] [b4,b3] (Kt rd bs p g gb rs (f.params++[3,0,3]) 0 4 (ZO:=ob) (hv:=(by first|omega|(simp only [Ys,YW,XJ];omega)))) ?_))
   rintro _ _ ⟨e3,p23,rfl,rfl,YJ⟩
   have Xo:=YJ.1
   have Ku:=YJ.2
   try rw [Ys] at Xo
   rw [hbv.2.1] at Xo
   exact Z9 8 (WP 8 [4] [b3] [Y8 e3,Y8 (Z1.mk 9 i zs)] (Yt [e3,Z1.mk 9 i zs]) (XV [e3,Z1.mk 9 i zs]).symm 2 3 fun v18=>YA 4 4 [] [(59,XE [e3,Z1.mk 9 i zs])] (Z9 9 (Yz 9 [] [4] [b3] (XZ 1 0 [e3,Z1.mk 9 i zs]) (Z9 10 (WP 10 [] [] [Y8 (Z1.mk 9 i ys),Y8 (Z1.mk 1 0 [e3,Z1.mk 9 i zs])] (Yt [Z1.mk 9 i ys,Z1.mk 1 0 [e3,Z1.mk 9 i zs]]) (XV [Z1.mk 9 i ys,Z1.mk 1 0 [e3,Z1.mk 9 i zs]]).symm 2 3 fun v19=>YA 2 2 [] [(61,XE [Z1.mk 9 i ys,Z1.mk 1 0 [e3,Z1.mk 9 i zs]])] (Z9 11 (Yz 11 [] [] [] (XZ 1 0 [Z1.mk 9 i ys,Z1.mk 1 0 [e3,Z1.mk 9 i zs]]) (Z9 13 (YO 13 5 [] [] b11 (X2 (Z1.mk 1 0 [Z1.mk 9 i ys,Z1.mk 1 0 [e3,Z1.mk 9 i zs]])) (de (ZV ⟨e3,p23,b11,(by assumption),rfl,rfl⟩ (wk [0,2,2,4,4,4,4,4,4] fl))))))))))))
  refine dA 12 [0,3,1] [b4,b1,b3] [.i 0,.i 0,nl] fun b12=>Z9 4 (dL 4 [1,4,2] [b4,b1,b3] (Z8 [3,0,3]) 3 1 fun v20=>YA 7 7 [] [(55,Z4 [3,0,3])] (Z9 5 (dc 5 [] [1,4,2] [b4,b1,b3] (KG f.params [3,0,3]) ?_)))
  rintro _ _ ⟨v21,rfl,rfl⟩
  refine YA 6 6 [] [(56,Z4 (f.params++[3,0,3]))] (Z9 6 (dc 6 [7,7] [1,2] [b4,b3] (Kt rd bs p g gb rs (f.params++[3,0,3]) 0 4 (ZO:=ob) (hv:=(by first|omega|(simp only [Ys,YW,XJ];omega)))) ?_))
  rintro _ _ ⟨e4,p24,rfl,rfl,YR⟩
  have Xo:=YR.1
  have Ku:=YR.2
  try rw [Ys] at Xo
  rw [hbv.2.1] at Xo
  exact Z9 8 (WP 8 [4] [b3] [Y8 e4,Y8 (Z1.mk 9 i zs)] (Yt [e4,Z1.mk 9 i zs]) (XV [e4,Z1.mk 9 i zs]).symm 2 3 fun v22=>YA 4 4 [] [(59,XE [e4,Z1.mk 9 i zs])] (Z9 9 (Yz 9 [] [4] [b3] (XZ 1 0 [e4,Z1.mk 9 i zs]) (Z9 10 (WP 10 [] [] [Y8 (Z1.mk 9 i ys),Y8 (Z1.mk 1 0 [e4,Z1.mk 9 i zs])] (Yt [Z1.mk 9 i ys,Z1.mk 1 0 [e4,Z1.mk 9 i zs]]) (XV [Z1.mk 9 i ys,Z1.mk 1 0 [e4,Z1.mk 9 i zs]]).symm 2 3 fun v23=>YA 2 2 [] [(61,XE [Z1.mk 9 i ys,Z1.mk 1 0 [e4,Z1.mk 9 i zs]])] (Z9 11 (Yz 11 [] [] [] (XZ 1 0 [Z1.mk 9 i ys,Z1.mk 1 0 [e4,Z1.mk 9 i zs]]) (Z9 13 (YO 13 6 [] [] b12 (X2 (Z1.mk 1 0 [Z1.mk 9 i ys,Z1.mk 1 0 [e4,Z1.mk 9 i zs]])) (de (ZV ⟨e4,p24,b12,(by assumption),rfl,rfl⟩ (wk [0,2,2,4,4,4,4,4,4] fl))))))))))))
 rintro F h ⟨e1,p21,b5,ZY,rfl,rfl⟩
 have Xo:=ZY.1
 have Ku:=ZY.2
 try rw [Ys] at Xo
 rw [hbv.2.1] at Xo
 refine Yk 3 [6] (Zp (Ws gb g.funcs.length 4 i.toNat 5 i) (Z2 1 (V7 (Vx 2 gb 4 4 5 (i.toNat * 5+1) (Zi (Xw rs)) [.i f.result] 3 (.i f.result) (UW WB hf 1 rfl (Vk rfl))) (Z0 (Wj (fun fz gz F h=>∃(eQ:Z1) (p6:Nat),(GE g (f.params.length+3) 52 eQ)/\(p<=p6/\p6<=p+650)/\F=sF [0,2,4,6,7,14] fz []/\h=[.obj b5 (X2 eQ),YE rd bs p6,Zd gz 2,Zd gz 5,Zd gz 6]) ?_ ?_)))))
 ·refine ac (f.result==3) Zq (fun Zg=>?_) (fun Zg=>?_)
  ·refine aE 13 (ZI 8 13 [0,1,2,3,7] [4,6] (da 8 (((f.params.length+2:Nat):Int)) (((f.params.length:Int))+(2)) (Z9 4 (dL 4 [6,4] [b1,b3] (Z8 [3,0,3]) 3 1 fun v24=>YA 6 6 [] [(74,Z4 [3,0,3])] (Z9 5 (dc 5 [] [6,4] [b1,b3] (KG f.params [3,0,3]) ?_))))))
   rintro _ _ ⟨v25,rfl,rfl⟩
   refine YA 5 5 [] [(75,Z4 (f.params++[3,0,3]))] (Z9 6 (dc 6 [3,3] [2] [b3] (Kt rd bs p21 g gb rs (f.params++[3,0,3]) 0 4 (ZO:=ob) (hv:=(by first|omega|(simp only [Ys,YW,XJ];omega)))) ?_))
   rintro _ _ ⟨e5,p25,rfl,rfl,Xk⟩
   have Xo:=Xk.1
   have Ku:=Xk.2
   try rw [Ys] at Xo
   rw [hbv.2.1] at Xo
   exact Z9 9 (Yz 9 [] [4] [b3] (QJ ((f.params.length+2:Nat):Int)) (Z9 10 (WP 10 [] [] [Y8 (Z1.mk 9 i ys),Y8 e5,Y8 (Z1.mk 12 ((f.params.length+2:Nat):Int) [])] (Yt [Z1.mk 9 i ys,e5,(Z1.mk 12 ((f.params.length+2:Nat):Int) [])]) (XV [Z1.mk 9 i ys,e5,(Z1.mk 12 ((f.params.length+2:Nat):Int) [])]).symm 3 3 fun v26=>YA 2 2 [] [(80,XE [Z1.mk 9 i ys,e5,(Z1.mk 12 ((f.params.length+2:Nat):Int) [])])] (Z9 11 (Yz 11 [] [] [] (XZ 6 3 [Z1.mk 9 i ys,e5,(Z1.mk 12 ((f.params.length+2:Nat):Int) [])]) (Z9 12 (YO 12 5 [] [] b5 (X2 (Z1.mk 6 3 [Z1.mk 9 i ys,e5,(Z1.mk 12 ((f.params.length+2:Nat):Int) [])])) (de (ZV ⟨(Z1.mk 6 3 [Z1.mk 9 i ys,e5,(Z1.mk 12 ((f.params.length+2:Nat):Int) [])]),p25,(GE.three (s1:=10) (s2:=30) (s3:=1) om om (GE.node (L:=f.params.length) (s:=1) (q:=10) om (fun _=>by omega) om Yy om om om) Xo (GE.var om om om) om),ob,rfl,rfl⟩ (wk [0,1,1,5,5] fl))))))))))
  exact ak (ZV ⟨(Z1.mk 1 0 [Z1.mk 9 i ys,Z1.mk 1 0 [e1,Z1.mk 9 i zs]]),p21,(GE.two (s1:=10) (s2:=41) om om (GE.node (L:=f.params.length) (s:=1) (q:=10) om (fun _=>by omega) om Yy om om om) (GE.two (s1:=30) (s2:=10) om om Xo (GE.node (L:=f.params.length) (s:=1) (q:=10) om (fun _=>by omega) om XU om om om) om) om),ob,rfl,rfl⟩ (wk [0,0,0,2,2] fl))
 rintro F h ⟨eQ,p6,Ky,GM,rfl,rfl⟩
 refine aD 15 (ZI 9 15 [1,2,3,4,5,6] [4,4] (dx 7 (Ws gb g.funcs.length 4 i.toNat 5 i) (Zh 7 8 [8] (Ue 9 (Vx 2 gb 4 4 5 (i.toNat * 5+1) (Zi (Xw rs)) [.i f.result] 3 (.i f.result) (UW WB hf 1 rfl (Vk rfl))) (ZI 5 6 [11] [0] (Z9 0 (Yz 0 [] [0,2,4,4] [b5,gb,b1,b1] (QJ 0) (Z9 10 (dc 10 [1,1] [0] [b5] (Kt rd bs p6 g gb rs f.params f.result 4 (ZO:=ob) (hv:=(by first|omega|(simp only [Ys,YW,XJ];omega)))) ?_)))))))))
 rintro _ _ ⟨e6,p26,rfl,rfl,XX⟩
 have Xo:=XX.1
 have Ku:=XX.2
 try rw [Ys] at Xo
 rw [hbv.2.1] at Xo
 exact Z9 12 (WP 12 [] [] [Y8 (Z1.mk 12 0 []),Y8 e6,Y8 eQ] (Yt [Z1.mk 12 0 [],e6,eQ]) (XV [Z1.mk 12 0 [],e6,eQ]).symm 3 3 fun v27=>YA 2 2 [] [(94,XE [Z1.mk 12 0 [],e6,eQ])] (Z9 13 (Yz 13 [] [] [] (XZ 8 3 [Z1.mk 12 0 [],e6,eQ]) (Z9 14 (YO 14 4 [] [] b2 (X2 (Z1.mk 8 3 [Z1.mk 12 0 [],e6,eQ])) (de (ZB (r3 [2,2] [Y8 (Z1.mk 8 3 [Z1.mk 12 0 [],e6,eQ])] [0] [(b2,b2)] ⟨(Z1.mk 8 3 [Z1.mk 12 0 [],e6,eQ]),p26,rfl,rfl,⟨GE.matchT hg (s1:=1) (s2:=30) (s3:=52) (GE.var om om om) Xo Ky om,by omega⟩⟩ (lr _)))))))))
theorem Z9r (rd:Nat) (bs:LI) (p:Nat) (g:Wc) (gb:Nat) (rs:List Func) (f:Func) (i:Int) (ZO:∀z∈bs,0<=z/\z<=255) (hp:p+1000<=1000000000:=by exact ob) (hg:GP g:=by exact ob) (WB:g.funcs <+: rs:=by exact ob) (hi:0<=i:=by exact ob) (hf:g.funcs[i.toNat]? = some f:=by exact ob) (h0:0<f.params.length:=by exact ob):Zj 240 [.p rd 0,.agg (WF g gb),.i i] [YE rd bs p,XW gb rs] (fun r h=>∃(e:Z1) (p2:Nat),r=Y8 e/\h=[YE rd bs p2,XW gb rs]/\GE g f.params.length 200 e/\p<=p2/\p2<=p+1000):=by
 obtain ⟨hil,_⟩:=Xq.1 hf
 have hgl:=hg.len
 have hso:=(hg.sigs f (Y0 hf)).bd
 have hbv:=E7
 refine ZE 75 Tryz.func240 (ar (iA (WF g gb) fun b1=>iA [.i 0,.i 0,nl] fun b2=>ie (Zv 3 [1] (Zp (Ws gb g.funcs.length 4 i.toNat 5 i) (Z2 1 (V7 (Vx 3 gb 4 4 5 (i.toNat * 5+0) (Zi (Xw rs)) [Z4 f.params] 31 (Z4 f.params) (UW WB hf 0 rfl (Vk rfl))) (Z0 (ar (Zx [] (QJ 0) (Zx [] (B0 1) (TC [Y8 (Z1.mk 12 0 []),Y8 (Z1.mk 0 1 [])] (Yt [Z1.mk 12 0 [],Z1.mk 0 1 []]) (XV [Z1.mk 12 0 [],Z1.mk 0 1 []]).symm 2 3 fun v1=>ZT 0 [(20,XE [Z1.mk 12 0 [],Z1.mk 0 1 []])] (Zx [] (XZ 2 0 [Z1.mk 12 0 [],Z1.mk 0 1 []]) (TC [Y8 (Z1.mk 2 0 [Z1.mk 12 0 [],Z1.mk 0 1 []])] (Yt [Z1.mk 2 0 [Z1.mk 12 0 [],Z1.mk 0 1 []]]) (XV [Z1.mk 2 0 [Z1.mk 12 0 [],Z1.mk 0 1 []]]).symm 1 3 fun v2=>?_)))))))))))))
 refine Z0 (Ym (ab 0 (Y4 (fun fz gz m F h=>∃(k:Nat) (ys:List Z1) (u:Value) (pq:Nat),(1<=k/\k<=f.params.length)/\(ys.length=k)/\(∀e∈ys,GE g f.params.length 4 e)/\(p<=pq/\pq<=p+30*k)/\F=sF [0,2,4,6,7] fz [(8,K9 ys u),(9,.i k)]/\h=[Zd gz 2,Zd gz 3,YE rd bs pq,Zd gz 5,.tail u 3]/\m=f.params.length-k) _ _ _ ⟨1,[Z1.mk 2 0 [Z1.mk 12 0 [],Z1.mk 0 1 []]],v2,p,ob,ob,(I1 (GE.two (s1:=1) (s2:=1) om om (GE.var om om om) (GE.int om om) om)),ob,rfl,rfl,rfl⟩ (wk [2,2,2,2,0] (fr (fc (x:=.i 1) li fl))) ?_)))
 rintro m F h ⟨k,ys,u,pq,Ye,Zk,Zw,Yy,rfl,rfl,rfl⟩
 refine YP 2 (iw (Ya f.params) (Y9 ((k:Int)<(f.params.length:Int)) (fun Za=>?_) (fun Za=>?_)))
 ·refine ak (aq (ab 1 (aE 12 (ZI 6 12 [0,1,2,3,4,5] [1] ?_))))
  obtain ⟨x1,Z3⟩:=Zs f.params k om
  refine dx 6 (Zl none (k:Int) 1 (ZZ Z3)) (Zh 4 5 [7] (Z9 8 (dc 8 [2,2] [] [] (Dh rd bs pq g gb rs f.params x1 (ZO:=ob)) ?_)))
  rintro _ _ ⟨e1,p21,rfl,rfl,ZY⟩
  have hle:=ZY.1
  exact Z9 9 (WP 9 [] [] [Y8 e1] (Yt [e1]) (XV [e1]).symm 1 3 fun v3=>YA 2 2 [] [(38,XE [e1])] (Z9 10 (dp 10 5 [] [] (Yt (ys++[e1])) (Yt ys) (Yt [e1]) u none 3 (Tx _) (Tx _) (Aq _) (by simp<;>omega) (by simp [Ap,Yt]) fun v4=>Zh 0 1 [11] (de (az (Z2 1 (ZJ k (Z0 (ZK ⟨k+1,(ys++[e1]),v4,p21,ob,ob,(XS Zw hle),ob,rfl,rfl,rfl⟩ (wk [4,4,2,2,0] (fr (ZM k fl))))))))))))
 refine ax 0 (ar (ZT 2 [(41,XE ys)] (Zx [] (XZ 9 i ys) (iA [.i 0,.i 0,nl] fun b3=>?_))))
 refine ZH 0 b3 (X2 (Z1.mk 9 i ys)) (ie (Yk 3 [2] (Zp (Ws gb g.funcs.length 4 i.toNat 5 i) (Z2 1 (V7 (Vx 4 gb 4 4 5 (i.toNat * 5+1) (Zi (Xw rs)) [.i f.result] 3 (.i f.result) (UW WB hf 1 rfl (Vk rfl))) (Z0 (Wj (fun fz gz F h=>∃(eQ:Z1) (p6:Nat),(GE g f.params.length 34 eQ)/\(p<=p6/\p6<=p+350)/\F=sF [0,2,4,6,7,10] fz []/\h=[.obj b3 (X2 eQ),Zd gz 1,Zd gz 2,YE rd bs p6,Zd gz 4]) ?_ ?_)))))))
 ·refine ac (f.result==1) Zq (fun Zg=>?_) (fun Zg=>?_)
  ·refine aE 8 (ZI 4 8 [0,1,2,4] [2,0] (Z9 3 (dc 3 [3,3] [0] [b3] (Kt rd bs pq g gb rs f.params 0 3 (ZO:=ob)) ?_)))
   rintro _ _ ⟨e2,p22,rfl,rfl,Yi⟩
   have Xo:=Yi.1
   have Ku:=Yi.2
   try rw [Ys] at Xo
   first|rw [hbv.2.1] at Xo|rw [hbv.1] at Xo
   exact Z9 5 (WP 5 [] [] [Y8 e2,Y8 (Z1.mk 9 i ys)] (Yt [e2,Z1.mk 9 i ys]) (XV [e2,Z1.mk 9 i ys]).symm 2 3 fun v5=>YA 2 2 [] [(55,XE [e2,Z1.mk 9 i ys])] (Z9 6 (Yz 6 [] [] [] (XZ 6 1 [e2,Z1.mk 9 i ys]) (Z9 7 (YO 7 3 [] [] b3 (X2 (Z1.mk 6 1 [e2,Z1.mk 9 i ys])) (de (ZV ⟨(Z1.mk 6 1 [e2,Z1.mk 9 i ys]),p22,(GE.two (s1:=20) (s2:=13) om om Xo (GE.node (L:=f.params.length) (s:=4) (q:=13) om (fun _=>by omega) om Zw om om om) om),ob,rfl,rfl⟩ (wk [0,3,3,1,1] fl))))))))
  exact ak (ZV ⟨(Z1.mk 9 i ys),pq,(GE.le (GE.node (L:=f.params.length) (s:=4) (q:=13) om (fun _=>by omega) om Zw om om om) om),ob,rfl,rfl⟩ (ZG 5 fl))
 rintro F h ⟨eQ,p6,Ky,GM,rfl,rfl⟩
 refine ar (Zx [] (B0 0) (Zx [] (QJ 0) (TC [Y8 (Z1.mk 0 0 []),Y8 (Z1.mk 12 0 [])] (Yt [Z1.mk 0 0 [],Z1.mk 12 0 []]) (XV [Z1.mk 0 0 [],Z1.mk 12 0 []]).symm 2 3 fun v6=>ZT 0 [(59,XE [Z1.mk 0 0 [],Z1.mk 12 0 []])] (Zx [] (XZ 4 0 [Z1.mk 0 0 [],Z1.mk 12 0 []]) (iA [.i 0,.i 0,nl] fun b4=>ZH 0 b4 (X2 (Z1.mk 4 0 [Z1.mk 0 0 [],Z1.mk 12 0 []])) (ie (aD 15 (ZI 7 15 [0,1,2,3,4,5,6,7] [0,2,4,4] (dx 8 (Ws gb g.funcs.length 4 i.toNat 5 i) (Zh 5 6 [9] (Ue 10 (Vx 6 gb 4 4 5 (i.toNat * 5+1) (Zi (Xw rs)) [.i f.result] 3 (.i f.result) (UW WB hf 1 rfl (Vk rfl))) (Z9 11 (dc 11 [5,5] [1,0] [b3,b4] (Kt rd bs p6 g gb rs f.params f.result 4 (ZO:=ob)) ?_)))))))))))))
 rintro _ _ ⟨e3,p23,rfl,rfl,YJ⟩
 have Xo:=YJ.1
 have Ku:=YJ.2
 try rw [Ys] at Xo
 first|rw [hbv.2.1] at Xo|rw [hbv.1] at Xo
 exact Z9 12 (WP 12 [] [] [Y8 (Z1.mk 4 0 [Z1.mk 0 0 [],Z1.mk 12 0 []]),Y8 eQ,Y8 e3] (Yt [Z1.mk 4 0 [Z1.mk 0 0 [],Z1.mk 12 0 []],eQ,e3]) (XV [Z1.mk 4 0 [Z1.mk 0 0 [],Z1.mk 12 0 []],eQ,e3]).symm 3 3 fun v7=>YA 2 2 [] [(73,XE [Z1.mk 4 0 [Z1.mk 0 0 [],Z1.mk 12 0 []],eQ,e3])] (Z9 13 (Yz 13 [] [] [] (XZ 7 0 [Z1.mk 4 0 [Z1.mk 0 0 [],Z1.mk 12 0 []],eQ,e3]) (Z9 14 (YO 14 6 [] [] b2 (X2 (Z1.mk 7 0 [Z1.mk 4 0 [Z1.mk 0 0 [],Z1.mk 12 0 []],eQ,e3])) (de (ZB (r3 [2,2] [Y8 (Z1.mk 7 0 [Z1.mk 4 0 [Z1.mk 0 0 [],Z1.mk 12 0 []],eQ,e3])] [0] [(b2,b2)] ⟨(Z1.mk 7 0 [Z1.mk 4 0 [Z1.mk 0 0 [],Z1.mk 12 0 []],eQ,e3]),p23,rfl,rfl,⟨GE.three (s1:=3) (s2:=34) (s3:=30) om om (GE.two (s1:=1) (s2:=1) om om (GE.int om om) (GE.var om om om) om) Ky Xo om,by omega⟩⟩ (lr _)))))))))
theorem Zan (xs:LI) (t:Int) (hl:xs.length<=1000:=by exact ob):Zj 235 [Z4 xs,.i t] [] (fun r h=>∃(w:Int),r=.i w/\h=[]/\-1<=w/\w<xs.length):=by
 refine ZE 19 Tryz.func235 (Zy (Ym (ab 0 (Y4 (fun fz gz m F h=>∃(k:Nat),(k<=xs.length)/\F=sF [0,1] fz [(5,.i k)]/\h=gz/\m=xs.length-k) _ _ _ ⟨0,ob,rfl,rfl,rfl⟩ (wk [] (Yb fl)) ?_))))
 rintro m F h ⟨k,Ye,rfl,rfl,rfl⟩
 refine YP 2 (iw (Ya xs) (Y9 ((k:Int)<(xs.length:Int)) (fun Za=>?_) (fun Za=>?_)))
 ·refine ak (aq (ab 1 (Y1 2 ?_)))
  obtain ⟨x1,Z3⟩:=Zs xs k om
  refine Zp (Zl none (k:Int) 1 (ZZ Z3)) (YD (x1==t) Zq (fun Zg=>?_) (fun Zg=>?_))
  ·exact ar (Zo (r1 [] ⟨(k:Int),rfl,rfl,ob⟩))
  exact ak (az (Z2 1 (ZJ k (Z0 (ZK ⟨k+1,ob,rfl,rfl,rfl⟩ (wk [] (ZM k fl)))))))
 exact ax 0 (ar (Zo (r1 [] ⟨(-1),rfl,rfl,ob⟩)))
theorem Z9c (rd:Nat) (bs:LI) (p:Nat) (g:Wc) (gb:Nat) (rs:List Func) (f:Func) (i:Int) (ZO:∀z∈bs,0<=z/\z<=255) (hp:p+90000<=1000000000) (hg:GP g) (WB:g.funcs <+: rs) (hi:0<=i) (hf:g.funcs[i.toNat]? = some f) (h0:i=0->f.params.length=0):Zj 200 [.p rd 0,.agg (WF g gb),.i i] [YE rd bs p,XW gb rs] (fun r h=>∃(e:Z1) (p2:Nat),r=Y8 e/\h=[YE rd bs p2,XW gb rs]/\GE g f.params.length 30 e/\p<=p2/\p2<=p+90000):=by
 obtain ⟨hil,_⟩:=Xq.1 hf
 have hgl:=hg.len
 have hso:=(hg.sigs f (Y0 hf)).bd
 have hbv:=E7
 refine ZE 121 Tryz.func200 (ar (iA (WF g gb) fun b1=>iA [.i 0,.i 0,nl] fun b2=>ie (Zv 3 [1] (Zp (Ws gb g.funcs.length 4 i.toNat 5 i) (Z2 1 (V7 (Vx 3 gb 4 4 5 (i.toNat * 5+0) (Zi (Xw rs)) [Z4 f.params] 31 (Z4 f.params) (UW WB hf 0 rfl (Vk rfl))) (Z0 (Zv 3 [1] (Zp (Ws gb g.funcs.length 4 i.toNat 5 i) (Z2 1 (V7 (Vx 3 gb 4 4 5 (i.toNat * 5+1) (Zi (Xw rs)) [.i f.result] 3 (.i f.result) (UW WB hf 1 rfl (Vk rfl))) (Z0 (Y1 1 (ic [] (Zan f.params 1) ?_))))))))))))))
 rintro _ _ ⟨w1,rfl,rfl,ZY⟩
 have hpl:=ZY
 refine Z0 (ar (Zx [] (B0 0) (iA [.i 0,.i 0,nl] fun b3=>ZH 0 b3 (X2 (Z1.mk 0 0 [])) (ie (Y1 1 (ic [3] (WG rd bs p 4 (ZO:=ob)) ?_))))))
 rintro _ _ ⟨k1,rfl,rfl,Yi⟩
 have qhp2:=Yi.lt om
 refine Z0 (aq (aq (Wj (fun fz gz F h=>∃(wb:Bool),(wb=true->i=0)/\F=sF [0,2,4,6,7,8,9,10,11] fz [(34,.b wb)]/\h=gz) ?_ ?_)))
 ·refine az (Z2 3 (ib (b:=(decide (k1<3))) 31 (fun Zb=>?_) (fun Zb=>?_)))
  ·have YJ:k1<3:=(dq).1 Zb
   exact Z0 (ZV ⟨(i==0),(by first|exact (fun h=>Bool.noConfusion h)|(intro h;omega)|(intro h;simp at h;omega)),rfl,rfl⟩ (ZG 5 fl))
  have YR:¬(k1<3):=Y6 dq Zb
  exact Z0 (ZV ⟨false,(by first|exact (fun h=>Bool.noConfusion h)|(intro h;omega)|(intro h;simp at h;omega)),rfl,rfl⟩ (ZG 5 fl))
 rintro F h ⟨wb,kR6_0,rfl,rfl⟩
 refine Wj (fun fz gz F h=>∃(eQ:Z1) (p6:Nat),(GE g f.params.length 200 eQ)/\(p<=p6/\p6<=p+42000)/\F=sF [0,4,6,7,8,10] fz []/\h=[YE rd bs p6,.obj b3 (X2 eQ),Zd gz 2,Zd gz 3,Zd gz 4]) ?_ ?_
 ·refine ac wb Iff.rfl (fun Za=>?_) (fun Za=>?_)
  ·refine az (ZL 2 [3] (ic [0,3] (Zac rd bs (p+1) g gb rs (ZO:=ob)) ?_))
   rintro _ _ ⟨e1,p21,rfl,rfl,Xk⟩
   have hbd:=Xk.1
   have hbp:=Xk.2
   exact ZH 2 b3 (X2 e1) (ie (ZV ⟨e1,p21,(by rw [h0 (kR6_0 (by assumption))];exact hbd),ob,rfl,rfl⟩ (wk [1,0,1,1,0] fl)))
  refine aq (Wj (fun fz gz F h=>∃(wb:Bool),(wb=true->0<=w1)/\F=sF [0,2,4,6,7,8,9,10,11] fz [(51,.b wb)]/\h=gz) ?_ ?_)
  ·refine az (Z2 3 (ib (b:=(decide (k1<3))) 40 (fun Zz=>?_) (fun Zz=>?_)))
   ·have XX:k1<3:=(dq).1 Zz
    refine Z2 4 (ib (b:=(decide (w1>=0))) 44 (fun Yo=>?_) (fun Yo=>?_))
    ·have WA:w1>=0:=(dq).1 Yo
     refine Z2 3 (ib (b:=(f.result==0)) 47 (fun Xg=>?_) (fun Xg=>?_))
     ·have WY:f.result=0:=(Zq).1 Xg
      exact Z0 (ZV ⟨true,(by first|exact (fun h=>Bool.noConfusion h)|(intro h;omega)|(intro h;simp at h;omega)),rfl,rfl⟩ (ZG 5 fl))
     have Vr:¬(f.result=0):=Y6 Zq Xg
     exact Z0 (ZV ⟨(f.result==1),(by first|exact (fun h=>Bool.noConfusion h)|(intro h;omega)|(intro h;simp at h;omega)),rfl,rfl⟩ (ZG 5 fl))
    have UH:¬(w1>=0):=Y6 dq Yo
    exact Z0 (ZV ⟨false,(by first|exact (fun h=>Bool.noConfusion h)|(intro h;omega)|(intro h;simp at h;omega)),rfl,rfl⟩ (ZG 5 fl))
   have T0:¬(k1<3):=Y6 dq Zz
   exact Z0 (ZV ⟨false,(by first|exact (fun h=>Bool.noConfusion h)|(intro h;omega)|(intro h;simp at h;omega)),rfl,rfl⟩ (ZG 5 fl))
  rintro F h ⟨wb,kR8_0,rfl,rfl⟩
  refine ac wb Iff.rfl (fun Zg=>?_) (fun Zg=>?_)
  ·refine az (ZL 4 [3] (ic [0,3] (Zaj rd bs (p+1) g gb rs _ i w1 (ZO:=ob) (hw:=(by have:=kR8_0 (by assumption);omega))) ?_))
   rintro _ _ ⟨e2,p22,rfl,rfl,T1⟩
   have hbd:=T1.1
   have hbp:=T1.2
   exact ZH 2 b3 (X2 e2) (ie (ZV ⟨e2,p22,(GE.le hbd om),ob,rfl,rfl⟩ (wk [1,0,1,1,0] fl)))
  refine aq (Wj (fun fz gz F h=>∃(wb:Bool),(wb=true->0<f.params.length)/\F=sF [0,2,4,6,7,8,10,11] fz [(77,.b wb)]/\h=gz) ?_ ?_)
  ·refine az (Z2 3 (ib (b:=(decide (k1<3))) 59 (fun Wx=>?_) (fun Wx=>?_)))
   ·have QQ:k1<3:=(dq).1 Wx
    refine Z2 1 (iw (Ya f.params) (Z2 3 (ib (b:=(decide ((f.params.length:Int)>0))) 64 (fun WM=>?_) (fun WM=>?_))))
    ·have Qv:(f.params.length:Int)>0:=(dq).1 WM
     refine Z2 1 ?_
     obtain ⟨x1,Z3⟩:=Zs f.params 0 om
     refine Zp (Zl none 0 1 (ZZ Z3)) (Z2 4 (ib (b:=(x1==3)) 70 (fun WT=>?_) (fun WT=>?_)))
     ·have J2:x1=3:=(Zq).1 WT
      refine Z2 3 (ib (b:=(f.result==0)) 73 (fun WJ=>?_) (fun WJ=>?_))
      ·have Kw:f.result=0:=(Zq).1 WJ
       exact Z0 (ZV ⟨true,(by first|exact (fun h=>Bool.noConfusion h)|(intro h;omega)|(intro h;simp at h;omega)),rfl,rfl⟩ (ZG 5 fl))
      have B6:¬(f.result=0):=Y6 Zq WJ
      exact Z0 (ZV ⟨(f.result==3),(by first|exact (fun h=>Bool.noConfusion h)|(intro h;omega)|(intro h;simp at h;omega)),rfl,rfl⟩ (ZG 5 fl))
     have A6:¬(x1=3):=Y6 Zq WT
     exact Z0 (ZV ⟨false,(by first|exact (fun h=>Bool.noConfusion h)|(intro h;omega)|(intro h;simp at h;omega)),rfl,rfl⟩ (ZG 5 fl))
    have PL:¬((f.params.length:Int)>0):=Y6 dq WM
    exact Z0 (ZV ⟨false,(by first|exact (fun h=>Bool.noConfusion h)|(intro h;omega)|(intro h;simp at h;omega)),rfl,rfl⟩ (ZG 5 fl))
   have PM:¬(k1<3):=Y6 dq Wx
   exact Z0 (ZV ⟨false,(by first|exact (fun h=>Bool.noConfusion h)|(intro h;omega)|(intro h;simp at h;omega)),rfl,rfl⟩ (ZG 5 fl))
  rintro F h ⟨wb,kR10_0,rfl,rfl⟩
  refine ac wb Iff.rfl (fun ZD=>?_) (fun ZD=>?_)
  ·refine az (ZL 3 [3] (ic [0,3] (Zak rd bs (p+1) g gb rs _ i (ZO:=ob) (h0:=(kR10_0 (by assumption)))) ?_))
   rintro _ _ ⟨e3,p23,rfl,rfl,Lq⟩
   have hbd:=Lq.1
   have hbp:=Lq.2
   exact ZH 2 b3 (X2 e3) (ie (ZV ⟨e3,p23,(GE.le hbd om),ob,rfl,rfl⟩ (wk [1,0,1,1,0] fl)))
  refine aq (Wj (fun fz gz F h=>∃(wb:Bool),(wb=true->0<f.params.length)/\F=sF [0,2,4,6,7,8,10] fz [(102,.b wb)]/\h=gz) ?_ ?_)
  ·refine az (Z2 3 (ib (b:=(decide (k1<3))) 84 (fun Vq=>?_) (fun Vq=>?_)))
   ·have Zb8:k1<3:=(dq).1 Vq
    refine Z2 1 (iw (Ya f.params) (Z2 3 (ib (b:=(decide ((f.params.length:Int)>0))) 89 (fun K7=>?_) (fun K7=>?_))))
    ·have Zb9:(f.params.length:Int)>0:=(dq).1 K7
     refine Z2 1 ?_
     obtain ⟨x2,Zr⟩:=Zs f.params 0 om
     refine Zp (Zl none 0 1 (ZZ Zr)) (Z2 4 (ib (b:=(x2==0)) 95 (fun B3=>?_) (fun B3=>?_)))
     ·have Zba:x2=0:=(Zq).1 B3
      refine Z2 3 (ib (b:=(f.result==0)) 98 (fun B4=>?_) (fun B4=>?_))
      ·have Zbb:f.result=0:=(Zq).1 B4
       exact Z0 (ZV ⟨true,(by first|exact (fun h=>Bool.noConfusion h)|(intro h;omega)|(intro h;simp at h;omega)),rfl,rfl⟩ (ZG 5 fl))
      have Zbc:¬(f.result=0):=Y6 Zq B4
      exact Z0 (ZV ⟨(f.result==1),(by first|exact (fun h=>Bool.noConfusion h)|(intro h;omega)|(intro h;simp at h;omega)),rfl,rfl⟩ (ZG 5 fl))
     have Zbd:¬(x2=0):=Y6 Zq B3
     exact Z0 (ZV ⟨false,(by first|exact (fun h=>Bool.noConfusion h)|(intro h;omega)|(intro h;simp at h;omega)),rfl,rfl⟩ (ZG 5 fl))
    have Zbe:¬((f.params.length:Int)>0):=Y6 dq K7
    exact Z0 (ZV ⟨false,(by first|exact (fun h=>Bool.noConfusion h)|(intro h;omega)|(intro h;simp at h;omega)),rfl,rfl⟩ (ZG 5 fl))
   have Zbf:¬(k1<3):=Y6 dq Vq
   exact Z0 (ZV ⟨false,(by first|exact (fun h=>Bool.noConfusion h)|(intro h;omega)|(intro h;simp at h;omega)),rfl,rfl⟩ (ZG 5 fl))
  rintro F h ⟨wb,kR12_0,rfl,rfl⟩
  refine ac wb Iff.rfl (fun Yj=>?_) (fun Yj=>?_)
  ·refine az (ZL 3 [3] (ic [0,3] (Z9r rd bs (p+1) g gb rs _ i (ZO:=ob) (h0:=(kR12_0 (by assumption)))) ?_))
   rintro _ _ ⟨e4,p24,rfl,rfl,Lr⟩
   have hbd:=Lr.1
   have hbp:=Lr.2
   exact ZH 2 b3 (X2 e4) (ie (ZV ⟨e4,p24,(GE.le hbd om),ob,rfl,rfl⟩ (wk [1,0,1,1,0] fl)))
  refine az (ZL 4 [3] (ic [0,3] (Ps rd bs (p+1) g gb rs f.params f.result 18 (ZO:=ob)) ?_))
  rintro _ _ ⟨e5,p25,rfl,rfl,Ls⟩
  have hbd:=Ls.1
  have hbp:=Ls.2
  exact ZH 2 b3 (X2 e5) (ie (ZV ⟨e5,p25,(GE.le hbd om),ob,rfl,rfl⟩ (wk [1,0,1,1,0] fl)))
 rintro F h ⟨eQ,p6,B8,Rd,rfl,rfl⟩
 refine Yk 1 [1] (ic [] (Py eQ (hz:=(by have:=B8.2;omega))) ?_)
 rintro _ _ ⟨w2,rfl,rfl,PN⟩
 have Ez:=PN
 have Xu:=B8.2
 refine Y9 (w2<0) (fun Xh=>?_) (fun Xh=>?_)
 ·refine Zv 4 [3] (ic [0,3] (Ps rd bs p6 g gb rs f.params f.result 12 (ZO:=ob)) ?_)
  rintro _ _ ⟨e6,p26,rfl,rfl,Gt⟩
  have hbd:=Gt.1
  have hbp:=Gt.2
  exact ZH 3 b2 (X2 e6) (ie (ZB (r3 [1,1] [Y8 e6] [0] [(b2,b2)] ⟨e6,p26,rfl,rfl,⟨hbd,by omega⟩⟩ (lr _))))
 exact ak (Zv 1 [1] (ZH 2 b2 (X2 eQ) (ie (ZB (r3 [1,3] [Y8 eQ] [0] [(b2,b2)] ⟨eQ,p6,rfl,rfl,⟨⟨B8.1,by omega⟩,by omega⟩⟩ (lr _))))))
theorem Qn (ps:LI) (rt:Int) :Zj 199 [Z4 ps,.i rt] [] (Yn (E2 (Func.mk ps rt (Z1.mk 0 0 [])))):=by
 exact ZE 8 Tryz.func199 (ar (iA [nl,.i 0,.i 0,.i 0,nl] fun b1=>ie (Y1 3 (ZH 0 b1 [Z4 ps,.i rt,.i 0,.i 0,nl] (ie (ZB (r3 [] [.agg [Z4 ps,.i rt,.i 0,.i 0,nl]] [0] [(b1,b1)] ⟨rfl,rfl⟩ (Zc.agg (.cons (Zc.sl _ (Yu Z8 ob)) (.cons li (.cons li (.cons li (.cons (Zc.sl _ rfl) .nil)))))))))))))
theorem Zai (rd:Nat) (bs:LI) (p:Nat) (xs:LI) (ZO:∀z∈bs,0<=z/\z<=255) (hp:p+1<=1000000000:=by exact ob) (hx:0<xs.length/\xs.length<=1000000:=by exact ob) (hy:xs.all (fun x=>decide (0<=x))=true:=by exact ob):Zj 153 [.p rd 0,Z4 xs] [YE rd bs p] (fun r h=>∃(nn:Nat),r=.i nn/\h=[.obj rd [Ui bs,.i (p+1:Nat)]]/\(nn:Int)∈xs):=(Uh rd bs p xs ZO hp hx).mono fun r h ⟨z,hr,hh,hz⟩=>by
  have h0:0<=z:=of_decide_eq_true (Ad.1 hy z hz)
  exact ⟨z.toNat,by rw [hr,Int.toNat_of_nonneg h0],hh,by rw [Int.toNat_of_nonneg h0];exact hz⟩
theorem Z9d (rd:Nat) (bs:LI) (p:Nat) (g:Wc) (gb:Nat) (rs:List Func) (f:Func) (i:Int) (nl:Nat) (ZO:∀z∈bs,0<=z/\z<=255) (hp:p+90000<=1000000000:=by exact ob) (hg:GP g:=by exact ob) (WB:g.funcs <+: rs:=by exact ob) (hi:0<=i:=by exact ob) (hf:g.funcs[i.toNat]? = some f:=by exact ob) (h0:i=0->f.params.length=0:=by exact ob) (hn:g.funcs.length=nl:=by exact ob):Zj 200 [.p rd 0,.agg [ZP g.decls,.ms gb 0 nl 4],.i i] [YE rd bs p,XW gb rs] (fun r h=>∃(e:Z1) (p2:Nat),r=Y8 e/\h=[YE rd bs p2,XW gb rs]/\GE g f.params.length 30 e/\p<=p2/\p2<=p+90000):=(by subst hn;exact Z9c rd bs p g gb rs f i ZO hp hg WB hi hf h0)
theorem Z9x (rd:Nat) (bs:LI) (p:Nat) (ZO:∀z∈bs,0<=z/\z<=255) (hp:p+400000<=1000000000):Zj 145 [.p rd 0] [YE rd bs p] (fun r h=>∃(rs:List Func) (ds:List Zf) (m:Nat) (gb:Nat) (p2:Nat),r=.agg [ZP ds,.ms gb 0 m 4]/\h=[XW gb rs,YE rd bs p2]/\(GL ds m 0 rs/\GD ds/\1<=m/\m<=4)/\p<=p2/\p2<=p+400000):=by
 refine ZE 110 Tryz.func145 (ar (iA [nl,nl] fun b1=>ie (Y1 1 (ic [1] (Z9v rd bs p (ZO:=ob)) ?_))))
 rintro _ _ ⟨ds1,v1,rfl,rfl,ZY⟩
 have hgd:=ZY
 refine Z2 1 (iA [nl,nl] fun b2=>ZH 0 b2 [Ay ds1 v1,nl] (ie (ar (iL (Z8 [1]) 1 1 fun v2=>ZT 0 [(13,Z4 [1])] (Zx [] (Qn [1] 0) (iL (Z8 [1,1]) 2 1 fun v3=>ZT 0 [(15,Z4 [1,1])] (Zx [] (Qn [1,1] 1) (iL (Z8 [1]) 1 1 fun v4=>ZT 0 [(17,Z4 [1])] (Zx [] (Qn [1] 1) (iL (Z8 [1,0]) 2 1 fun v5=>ZT 0 [(19,Z4 [1,0])] (Zx [] (Qn [1,0] 1) (iL (Z8 [2,1]) 2 1 fun v6=>ZT 0 [(21,Z4 [2,1])] (Zx [] (Qn [2,1] 1) (iL (Z8 [1,1]) 2 1 fun v7=>ZT 0 [(23,Z4 [1,1])] (Zx [] (Qn [1,1] 0) (iL (Xw [Func.mk [1] 0 (Z1.mk 0 0 []),Func.mk [1,1] 1 (Z1.mk 0 0 []),Func.mk [1] 1 (Z1.mk 0 0 []),Func.mk [1,0] 1 (Z1.mk 0 0 []),Func.mk [2,1] 1 (Z1.mk 0 0 []),Func.mk [1,1] 0 (Z1.mk 0 0 [])]) 6 5 fun v8=>Z0 (ar (iL (Z8 [3]) 1 1 fun v9=>ZT 0 [(26,Z4 [3])] (Zx [] (Qn [3] 0) (iL (Z8 [0]) 1 1 fun v10=>ZT 0 [(28,Z4 [0])] (Zx [] (Qn [0] 1) (iL (Z8 [0,1]) 2 1 fun v11=>ZT 0 [(30,Z4 [0,1])] (Zx [] (Qn [0,1] 1) (iL (Z8 [3,0]) 2 1 fun v12=>ZT 0 [(32,Z4 [3,0])] (Zx [] (Qn [3,0] 3) (iL (Z8 [3]) 1 1 fun v13=>ZT 0 [(34,Z4 [3])] (Zx [] (Qn [3] 1) (iL (Z8 [1,3,0]) 3 1 fun v14=>ZT 0 [(36,Z4 [1,3,0])] (Zx [] (Qn [1,3,0] 0) (iL (Xw [Func.mk [3] 0 (Z1.mk 0 0 []),Func.mk [0] 1 (Z1.mk 0 0 []),Func.mk [0,1] 1 (Z1.mk 0 0 []),Func.mk [3,0] 3 (Z1.mk 0 0 []),Func.mk [3] 1 (Z1.mk 0 0 []),Func.mk [1,3,0] 0 (Z1.mk 0 0 [])]) 6 5 fun v15=>Z0 (ar (iL (Z8 [0]) 1 1 fun v16=>ZT 0 [(39,Z4 [0])] (Zx [] (Qn [0] 0) (iL (Z8 [0,0]) 2 1 fun v17=>ZT 0 [(41,Z4 [0,0])] (Zx [] (Qn [0,0] 0) (iL (Z8 [1,0]) 2 1 fun v18=>ZT 0 [(43,Z4 [1,0])] (Zx [] (Qn [1,0] 0) (iL (Z8 [0]) 1 1 fun v19=>ZT 0 [(45,Z4 [0])] (Zx [] (Qn [0] 1) (iL (Xw [Func.mk [0] 0 (Z1.mk 0 0 []),Func.mk [0,0] 0 (Z1.mk 0 0 []),Func.mk [1,0] 0 (Z1.mk 0 0 []),Func.mk [0] 1 (Z1.mk 0 0 [])]) 4 5 fun v20=>Z0 (aD 26 (Zh 23 26 [2,3,4] (dn 5 (.i (([Func.mk [1] 0 (Z1.mk 0 0 []),Func.mk [1,1] 1 (Z1.mk 0 0 []),Func.mk [1] 1 (Z1.mk 0 0 []),Func.mk [1,0] 1 (Z1.mk 0 0 []),Func.mk [2,1] 1 (Z1.mk 0 0 []),Func.mk [1,1] 0 (Z1.mk 0 0 [])].length:Nat):Int)) (.i (((Xw [Func.mk [1] 0 (Z1.mk 0 0 []),Func.mk [1,1] 1 (Z1.mk 0 0 []),Func.mk [1] 1 (Z1.mk 0 0 []),Func.mk [1,0] 1 (Z1.mk 0 0 []),Func.mk [2,1] 1 (Z1.mk 0 0 []),Func.mk [1,1] 0 (Z1.mk 0 0 [])]).length:Nat):Int)) (li (by rw [D9])) (Zh 19 22 [9,10,11] (dn 12 (.i (([Func.mk [3] 0 (Z1.mk 0 0 []),Func.mk [0] 1 (Z1.mk 0 0 []),Func.mk [0,1] 1 (Z1.mk 0 0 []),Func.mk [3,0] 3 (Z1.mk 0 0 []),Func.mk [3] 1 (Z1.mk 0 0 []),Func.mk [1,3,0] 0 (Z1.mk 0 0 [])].length:Nat):Int)) (.i (((Xw [Func.mk [3] 0 (Z1.mk 0 0 []),Func.mk [0] 1 (Z1.mk 0 0 []),Func.mk [0,1] 1 (Z1.mk 0 0 []),Func.mk [3,0] 3 (Z1.mk 0 0 []),Func.mk [3] 1 (Z1.mk 0 0 []),Func.mk [1,3,0] 0 (Z1.mk 0 0 [])]).length:Nat):Int)) (li (by rw [D9])) (Zh 15 18 [16,17,18] (dn 19 (.i (([Func.mk [0] 0 (Z1.mk 0 0 []),Func.mk [0,0] 0 (Z1.mk 0 0 []),Func.mk [1,0] 0 (Z1.mk 0 0 []),Func.mk [0] 1 (Z1.mk 0 0 [])].length:Nat):Int)) (.i (((Xw [Func.mk [0] 0 (Z1.mk 0 0 []),Func.mk [0,0] 0 (Z1.mk 0 0 []),Func.mk [1,0] 0 (Z1.mk 0 0 []),Func.mk [0] 1 (Z1.mk 0 0 [])]).length:Nat):Int)) (li (by rw [D9])) (Z9 0 (dL 0 [] [] (Z8 []) 0 1 fun v21=>YA 13 13 [] [(48,Z4 [])] (Z9 1 (Yz 1 [] [] [] (Qn [] 0) (Z9 6 (dc 6 [22] [] [] (WG rd bs (p+1) (([Func.mk [1] 0 (Z1.mk 0 0 []),Func.mk [1,1] 1 (Z1.mk 0 0 []),Func.mk [1] 1 (Z1.mk 0 0 []),Func.mk [1,0] 1 (Z1.mk 0 0 []),Func.mk [2,1] 1 (Z1.mk 0 0 []),Func.mk [1,1] 0 (Z1.mk 0 0 [])].length:Nat):Int) (ZO:=ob)) ?_)))))))))))))))))))))))))))))))))))))))))))))))))))))
 rintro _ _ ⟨k1,rfl,rfl,Yi⟩
 have qhp2:=Yi.lt (by simp)
 simp only [YW,XJ] at qhp2
 obtain ⟨x1,Z3⟩:=Zs [Func.mk [1] 0 (Z1.mk 0 0 []),Func.mk [1,1] 1 (Z1.mk 0 0 []),Func.mk [1] 1 (Z1.mk 0 0 []),Func.mk [1,0] 1 (Z1.mk 0 0 []),Func.mk [2,1] 1 (Z1.mk 0 0 []),Func.mk [1,1] 0 (Z1.mk 0 0 [])] k1.toNat (by simp only [YW,XJ];omega)
 refine dx 7 (Zl (some v8) k1 5 (FW Z3)) (Zh 9 10 [8] (Z9 13 (dc 13 [0] [] [] (WG rd bs ((p+1)+1) (([Func.mk [3] 0 (Z1.mk 0 0 []),Func.mk [0] 1 (Z1.mk 0 0 []),Func.mk [0,1] 1 (Z1.mk 0 0 []),Func.mk [3,0] 3 (Z1.mk 0 0 []),Func.mk [3] 1 (Z1.mk 0 0 []),Func.mk [1,3,0] 0 (Z1.mk 0 0 [])].length:Nat):Int) (ZO:=ob)) ?_)))
 rintro _ _ ⟨k2,rfl,rfl,YJ⟩
 have qhp3:=YJ.lt (by simp)
 simp only [YW,XJ] at qhp3
 obtain ⟨x2,Zr⟩:=Zs [Func.mk [3] 0 (Z1.mk 0 0 []),Func.mk [0] 1 (Z1.mk 0 0 []),Func.mk [0,1] 1 (Z1.mk 0 0 []),Func.mk [3,0] 3 (Z1.mk 0 0 []),Func.mk [3] 1 (Z1.mk 0 0 []),Func.mk [1,3,0] 0 (Z1.mk 0 0 [])] k2.toNat (by simp only [YW,XJ];omega)
 refine dx 14 (Zl (some v15) k2 5 (FW Zr)) (Zh 6 7 [15] (Z9 20 (dc 20 [0] [] [] (WG rd bs (((p+1)+1)+1) (([Func.mk [0] 0 (Z1.mk 0 0 []),Func.mk [0,0] 0 (Z1.mk 0 0 []),Func.mk [1,0] 0 (Z1.mk 0 0 []),Func.mk [0] 1 (Z1.mk 0 0 [])].length:Nat):Int) (ZO:=ob)) ?_)))
 rintro _ _ ⟨k3,rfl,rfl,YR⟩
 have qhp4:=YR.lt (by simp)
 simp only [YW,XJ] at qhp4
 obtain ⟨x3,YG⟩:=Zs [Func.mk [0] 0 (Z1.mk 0 0 []),Func.mk [0,0] 0 (Z1.mk 0 0 []),Func.mk [1,0] 0 (Z1.mk 0 0 []),Func.mk [0] 1 (Z1.mk 0 0 [])] k3.toNat (by simp only [YW,XJ];omega)
 refine dx 21 (Zl (some v20) k3 5 (FW YG)) (Zh 3 4 [22] (Z9 23 (dKN 23 [] [] (Zi (Xw [Func.mk [] 0 (Z1.mk 0 0 []),x1,x2,x3])) 4 5 fun g1=>Zh 1 2 [24] (Z9 25 (YO 25 22 [] [] b2 [Ay ds1 v1,.ms g1 0 4 4] (de (Y1 1 (iL (Z8 [4,4,3,2,4]) 5 1 fun v22=>ZT 0 [(74,Z4 [4,4,3,2,4])] (ic [3] (Zai rd bs ((((p+1)+1)+1)+1) [4,4,3,2,4] (ZO:=ob) (hy:=(by decide))) ?_)))))))))
 rintro _ _ ⟨nn1,rfl,rfl,Xk⟩
 have hnn:=Zf2 (a:=2) (b:=4) Xk (by decide)
 refine Z0 (Zv 3 [2] (Zp (LA 3 g1 4 4 nn1 5 (Zi (Xw [Func.mk [] 0 (Z1.mk 0 0 []),x1,x2,x3]))) (Z2 1 (ZH 2 b2 [Ay ds1 v1,.ms g1 0 nn1 4] (ie (YP 1 (ia (((nn1:Int)-1)) (((nn1:Int))-(1)) (Z0 (ab 0 (Y4 (fun fz gz m F h=>∃(j:Nat) (rq:List Func) (pq:Nat),(j<=nn1)/\(GL ds1 nn1 j rq)/\(p<=pq/\pq+90000*j<=p+10+90000*nn1)/\F=sF [0,2,3] fz [(8,.i ((j:Int)-1))]/\h=[Zd gz 0,YE rd bs pq,Zd gz 25,Zd gz 24,XW g1 rq]/\m=j+1) _ _ _ ⟨nn1,[Func.mk [] 0 (Z1.mk 0 0 []),x1,x2,x3],((((p+1)+1)+1)+1)+1,ob,(GL.start (MF Z3 (by decide)) (MF Zr (by decide)) (MF YG (by decide))),ob,rfl,rfl,rfl⟩ (wk [0,0,23,22,1] fl) ?_))))))))))
 rintro m F h ⟨j,rq,pq,Ye,Zk,Zw,rfl,rfl,rfl⟩
 refine X7 (Y9 (((j:Int)-1)>=0) (fun Za=>?_) (fun Za=>?_))
 ·obtain ⟨f1,hf1⟩:=Zs (rq.take nn1) (((j:Int)-1).toNat) (by rw [Zk.len_take om];omega)
  have hfq:rq[j-1]? = some f1:=by have h:=hf1;rw [show ((j:Int)-1).toNat=j-1 by omega,List.getElem?_take_of_lt om] at h;exact h
  refine ak (aq (ab 1 (ar (Kc 3 [(88,.agg [ZP ds1,.ms g1 0 nn1 4])] [0] (ic [1,3] (Z9d rd bs pq (Wc.mk ds1 (rq.take nn1)) g1 rq f1 ((j:Int)-1) nn1 (ZO:=ob) (hg:=(Zk.gp hgd om)) (WB:=(List.take_prefix nn1 rq)) (hf:=hf1) (h0:=(fun h=>Zk.zero f1 (by rw [<-hfq,show j-1=0 by omega]))) (hn:=(Zk.len_take om))) ?_)))))
  rintro _ _ ⟨e1,p21,rfl,rfl,XX⟩
  have hbw:eW ds1 nn1 f1.params.length e1/\(e1).sz<=30:=by have h:=XX.1;unfold GE at h;rw [show (Wc.mk ds1 (rq.take nn1)).funcs.length=nn1 from Zk.len_take om] at h;exact h
  exact iA [.i 0,.i 0,nl] fun b3=>ZH 0 b3 (X2 e1) (ie (aE 19 (ZI 13 19 [0,1,2,3,4,5] [3,3] (dx 6 (Ws g1 nn1 4 (((j:Int)-1).toNat) 5 ((j:Int)-1)) (Zh 11 12 [7] (Ue 8 (Vx 2 g1 4 4 5 ((((j:Int)-1).toNat)*5+0) (Zi (Xw rq)) [Z4 f1.params] 31 (Z4 f1.params) (UW (List.take_prefix nn1 rq) hf1 0 rfl (Vk rfl))) (ZI 7 10 [9,10,11] [3] (dx 12 (Ws g1 nn1 4 (((j:Int)-1).toNat) 5 ((j:Int)-1)) (Zh 5 6 [13] (Ue 14 (Vx 2 g1 4 4 5 ((((j:Int)-1).toNat)*5+1) (Zi (Xw rq)) [.i f1.result] 3 (.i f1.result) (UW (List.take_prefix nn1 rq) hf1 1 rfl (Vk rfl))) (ZI 2 4 [15,16] [0] (dx 17 (Ws g1 nn1 4 (((j:Int)-1).toNat) 5 ((j:Int)-1)) (Z9 18 (Ce 18 2 [] [] g1 4 4 5 ((((j:Int)-1).toNat)*5) [Z4 f1.params,.i f1.result,.i e1.op,.i e1.num,XE e1.kids] (Zi (Xw rq)) (Zi (Xw (rq.set ((j:Int)-1).toNat ⟨f1.params,f1.result,e1⟩))) (by rw [L4,Zk.len];simp only [YW,XJ];omega) (Z8x ⟨f1.params,f1.result,e1⟩ (by rw [Zk.len];omega)) (de (az (Z2 1 (ia ((((j:Int)-1)-1)) (((j:Int)-1)-(1)) (Z0 (ZK ⟨(j-1),(rq.set ((j:Int)-1).toNat ⟨f1.params,f1.result,e1⟩),p21,ob,(by rw [show ((j:Int)-1).toNat=j-1 by omega];exact Zk.set om hfq hbw),ob,rfl,rfl,rfl⟩ (wk [3,2,2,2,0] (fc (x:=.i (((j:Int)-1)-1)) li fl))))))))))))))))))))))
 exact ax 0 (Zv 1 [0] (ZH 2 b1 [Ay ds1 v1,.ms g1 0 nn1 4] (ie (ZB (r3 [4,2] [.agg [Ay ds1 v1,.ms g1 0 nn1 4]] [0] [(b1,b1)] ⟨rq,ds1,nn1,g1,pq,rfl,rfl,⟨⟨by rw [show j=0 by omega] at Zk;exact Zk,hgd,by omega,by omega⟩,by omega⟩⟩ (Zc.agg (.cons (Zc.forget _ _) (.cons (lr _) .nil))))))))
theorem Z9w (rd:Nat) (bs:LI) (p:Nat) (ZO:∀z∈bs,0<=z/\z<=255) (hp:p+400000<=1000000000:=by exact ob):Zj 145 [.p rd 0] [YE rd bs p] (fun r h=>∃(g:Wc) (p2:Nat),r=AN g/\h=[YE rd bs p2]/\HT g/\p<=p2/\p2<=p+400000):=(Wh.frzP (E:=List Func × List Zf × Nat × Nat) (ds:=fun e=>e.2.1) (rs:=fun e=>e.1) (m:=fun e=>e.2.2.1) (hs:=fun e=>[.obj rd [Ui bs,.i (e.2.2.2:Nat)]]) (Q:=fun e=>(GL e.2.1 e.2.2.1 0 e.1/\GD e.2.1/\1<=e.2.2.1/\e.2.2.1<=4)/\p<=e.2.2.2/\e.2.2.2<=p+400000)
  ((Z9x rd bs p ZO hp).mono fun r h ⟨rs,ds,m,gb,p2,hr,hh,hq⟩=>⟨(rs,ds,m,p2),gb,hr,hh,hq⟩) fun e hq=>⟨hq.1.2.2.2,hq.1.1.len⟩).mono
  fun r h ⟨e,hr,hh,hq⟩=>⟨⟨e.2.1,e.1.take e.2.2.1⟩,e.2.2.2,hr,hh,hq.1.1.done hq.1.2.1 hq.1.2.2,hq.2⟩
theorem Lh (a:Nat) (n:Nat) (ha:a<=1000000:=by exact ob) (hn:n<=1000000:=by exact ob):Zj 198 [.i a,.i n] [] (fun r h=>∃(xs:LI),r=Z4 xs/\h=[]/\xs.length=n/\∀i∈xs,(a:Int)<=i/\i<(a:Int)+n):=by
 refine ZE 20 Tryz.func198 (Zy (ar (iL (Z8 []) 0 1 fun v1=>?_)))
 refine Z0 (Ym (ab 0 (Y4 (fun fz gz m F h=>∃(k:Nat) (ys:LI) (u:Value),(k<=n)/\(ys.length=k)/\(∀i∈ys,(a:Int)<=i/\i<(a:Int)+n)/\F=sF [0,1] fz [(5,ZQ ys u),(6,.i k)]/\h=[.tail u 1]/\m=n-k) _ _ _ ⟨0,[],v1,ob,ob,(fun i hi=>by cases hi),rfl,rfl,rfl⟩ (wk [0] (fr (Yb fl))) ?_)))
 rintro m F h ⟨k,ys,u,Ye,Zk,Zw,rfl,rfl,rfl⟩
 refine X7 (Y9 ((k:Int)<(n:Int)) (fun Za=>?_) (fun Za=>?_))
 ·exact ak (aq (ab 1 (az (Z2 3 (ia (((a+k:Nat):Int)) (((a:Int))+((k:Int))) (iL (Z8 [((a+k:Nat):Int)]) 1 1 fun v2=>ZT 0 [(17,Z4 [((a+k:Nat):Int)])] (ip 1 (Z8 (ys++[((a+k:Nat):Int)])) (Z8 ys) (Z8 [((a+k:Nat):Int)]) u none 1 (YL _) (YL _) (Ww _) (by simp<;>omega) (by simp [Wv,Z8]) fun v3=>Z0 (az (Z2 1 (ZJ k (Z0 (ZK ⟨k+1,(ys++[((a+k:Nat):Int)]),v3,ob,ob,(XS Zw om),rfl,rfl,rfl⟩ (wk [0] (fr (ZM k fl)))))))))))))))
 exact ax 0 (ar (Zo (r2 [] [ZQ ys u] ⟨ys,rfl,rfl,⟨by omega,Zw⟩⟩ (Zc.forget _ _))))
theorem Po (l:Nat) (xs:List Z5) (w:Value) (q:Nat) (s:Z5) (hl:xs.length<=4000000000:=by exact ob) (hq:q<=1000000:=by exact ob):Zj 271 [.p l 0,YF s] [.obj l [Xb xs w,.i q],.tail w 5] (fun r h=>∃(w2:Value),r=.i q/\h=[.obj l [Xb (xs++[s]) w2,.i (((q+1):Nat):Int)],.tail w2 5]):=by
 exact ZE 28 Tryz.func271 (ar (iA (Xx s) fun b1=>Z0 (aD 11 (ZI 5 11 [0,1,2,3,4,5] [1,0] (Z9 6 (WP 6 [1] [l] [YF s] (ZF [s]) (VL [s]).symm 1 5 fun v1=>YA 4 4 [] [(11,Vs [s])] (Z9 7 (dp 7 3 [] [] (ZF (xs++[s])) (ZF xs) (ZF [s]) w none 5 (Xt _) (Xt _) (UF _) (by simp<;>omega) (by simp [V6,ZF]) fun v2=>Zh 1 3 [8,9] (Z9 10 (YO 10 3 [] [] l [Xb (xs++[s]) v2,.i q] (de (Zv 5 [0] (ZJ q (Z2 2 (ZH 0 l [Xb (xs++[s]) v2,.i (q+1:Nat)] (ie (Zv 4 [0] (ia ((((q+1:Nat):Int)-1)) ((((q+1:Nat):Int))-(1)) (Zo (r2 [0,0] [.i (((q+1:Nat):Int)-1)] ⟨v2,rfl,rfl⟩ li))))))))))))))))))))
theorem Px (g:Wc) (e:Z1) (us:LI) (q:Nat) (bb:Nat) (he:eW g.decls g.funcs.length us.length e:=by exact ob) (hu:∀a∈us,0<=a/\a<(q:Int)) (hul:us.length+4*e.sz<=100000:=by exact ob) (hql:q+6*e.sz<=100000:=by exact ob) (hb:e.sz<bb:=by exact ob) (ih:∀(l:Nat) (e2:Z1) (us2:LI) (xs2:List Z5) (w2:Value) (q2:Nat),(eW g.decls g.funcs.length us2.length e2)->(∀a∈us2,0<=a/\a<(q2:Int))->(us2.length+4*e2.sz<=100000)->(xs2.length+6*e2.sz<=100000)->(q2+6*e2.sz<=100000)->(e2.sz<bb)->Zj 234 [.p l 0,AN g,Y8 e2,Z4 us2] [.obj l [Xb xs2 w2,.i q2],.tail w2 5] (fun r h=>∃(ys:List Z5) (v:Int) (w2:Value),r=.i v/\h=[.obj l [Xb (xs2++ys) w2,.i (((q2+Xn ys):Nat):Int)],.tail w2 5]/\LW g.decls g.funcs.length q2 e2 ys v)):Zj 197 [AN g,Y8 e,Z4 us,.i q] [] (fun r h=>∃(b:Z6),r=Y7 b/\h=[]/\LB g.decls g.funcs.length q e b):=by
 refine ZE 26 Tryz.func197 (ar (iA (LK g) fun b1=>iA (X2 e) fun b2=>iA [nl,.i 0] fun b3=>ie (ar (iL (ZF []) 0 5 fun v1=>Z2 2 (iA [Xb [] v1,.i q] fun b4=>Z0 (Zv 4 [4,3] (ic [0,0] (ih b4 e us [] v1 q he hu ob ob ob ob) ?_)))))))
 rintro _ _ ⟨ys1,v2,w21,rfl,rfl,ZY⟩
 have hlw:=ZY
 exact Z0 (Zv 6 [0] (ZH 2 b3 [Xb ([]++ys1) w21,.i v2] (ie (ZB (r3 [] [.agg [Xb ([]++ys1) w21,.i v2]] [0] [(b3,b3)] ⟨(Z6.mk ([]++ys1) v2),rfl,rfl,(by rw [Bn];exact hlw.block)⟩ (Zc.agg (.cons (Zc.forget _ _) (.cons (lr _) .nil))))))))
theorem Zab (l:Nat) (g:Wc) (e:Z1) (us:LI) (xs:List Z5) (w:Value) (q:Nat) (hd:GD g.decls) (he:eW g.decls g.funcs.length us.length e) (hu:∀a∈us,0<=a/\a<(q:Int)) (hul:us.length+4*e.sz<=100000) (hxl:xs.length+6*e.sz<=100000) (hql:q+6*e.sz<=100000) (ih:∀(l:Nat) (e2:Z1) (us2:LI) (xs2:List Z5) (w2:Value) (q2:Nat),(eW g.decls g.funcs.length us2.length e2)->(∀a∈us2,0<=a/\a<(q2:Int))->(us2.length+4*e2.sz<=100000)->(xs2.length+6*e2.sz<=100000)->(q2+6*e2.sz<=100000)->(e2.sz<e.sz)->Zj 234 [.p l 0,AN g,Y8 e2,Z4 us2] [.obj l [Xb xs2 w2,.i q2],.tail w2 5] (fun r h=>∃(ys:List Z5) (v:Int) (w2:Value),r=.i v/\h=[.obj l [Xb (xs2++ys) w2,.i (((q2+Xn ys):Nat):Int)],.tail w2 5]/\LW g.decls g.funcs.length q2 e2 ys v)):Zj 234 [.p l 0,AN g,Y8 e,Z4 us] [.obj l [Xb xs w,.i q],.tail w 5] (fun r h=>∃(ys:List Z5) (v:Int) (w2:Value),r=.i v/\h=[.obj l [Xb (xs++ys) w2,.i (((q+Xn ys):Nat):Int)],.tail w2 5]/\LW g.decls g.funcs.length q e ys v):=by
 have Xz:=hd.ok
 obtain ⟨ho,h12,h13,h7,h8,h9,hnum,hkl,hks⟩:=(Z86 e).1 he
 have hez:=e.sz_eq
 refine ZE 148 Tryz.func234 (ar (iA (LK g) fun b1=>iA (X2 e) fun b2=>Z0 (X7 (VX [0] (ab 0 (ar (YD (e.op==12) Zq (fun Za=>?_) (fun Za=>?_))))))))
 ·refine Zv 3 [0] ?_
  obtain ⟨x1,Z3⟩:=Zs us e.num.toNat (by have:=h12 om;omega)
  have huv:=hu _ (Y0 Z3)
  exact Zp (Zl none e.num 1 (ZZ Z3)) (Zo (r1 [2,2] ⟨[],x1,w,rfl,rfl,(LW.var huv)⟩ (eq:=(ro (ls:=[Xb xs w,.i q]) (by simp [Xn]) (rc rz)))))
 refine ar (YD (e.op==13) Zq (fun Zg=>?_) (fun Zg=>?_))
 ·refine aD 9 (ZI 5 9 [0,1,2,3] [1,0] ?_)
  obtain ⟨x2,Zr⟩:=Zs e.kids 0 (by have:=h13 om;omega)
  have hekx2:=Dc hks Zr
  have hszx2:=Ck Zr
  have htzx2:=BC Zr
  rw [Vl] at hekx2
  rw [Z0q om] at hekx2
  refine dx 4 (Zl none 0 3 (D8 Zr)) (Zh 2 4 [5,6] (Z9 7 (dc 7 [2,2] [] [] (ih l x2 us xs w q (by first|assumption|(rw [Ys];assumption)) (by first|assumption|exact Fq hu hlwhp1.v|exact HD hu) (by first|omega|(simp only [Ys,YW,XJ];omega)) (by first|omega|(simp only [Ys,YW,XJ];omega)) ob ob) ?_)))
  rintro _ _ ⟨ys1,v1,w21,rfl,rfl,ZY⟩
  have hlwhp1:=ZY
  have hldhp1:=ZY.dn
  refine Zh 0 1 [8] (de (aD 12 (ZI 8 12 [0,1,2,3] [3,2] ?_)))
  obtain ⟨x3,YG⟩:=Zs e.kids 1 (by have:=h13 om;omega)
  have hz2:=P2 Zr YG
  have hz3:=x2.sz_eq
  have hekx3:=Dc hks YG
  have hszx3:=Ck YG
  have htzx3:=BC YG
  rw [Vl] at hekx3
  rw [Z0q om] at hekx3
  refine dx 4 (Zl none 1 3 (D8 YG)) (Zh 4 7 [5,6,7] (Z9 8 (dL 8 [1,2] [b2,b1] (Z8 [v1]) 1 1 fun v2=>YA 3 3 [] [(45,Z4 [v1])] (Z9 9 (dc 9 [] [1,2] [b2,b1] (KG us [v1]) ?_)))))
  rintro _ _ ⟨v3,rfl,rfl⟩
  refine YA 2 2 [] [(46,Z4 (us++[v1]))] (Z9 10 (dc 10 [2,2] [] [] (ih l x3 (us++[v1]) (xs++ys1) w21 (q+Xn ys1) (by first|assumption|(rw [Ys];assumption)) (by first|assumption|exact Fq hu hlwhp1.v|exact HD hu) (by first|omega|(simp only [Ys,YW,XJ];omega)) (by first|omega|(simp only [Ys,YW,XJ];omega)) ob ob) ?_))
  rintro _ _ ⟨ys2,v4,w22,rfl,rfl,Yi⟩
  have hlwhp2:=Yi
  have hldhp2:=Yi.dn
  exact Zh 0 1 [11] (de (ZB (r1 [0,0] ⟨(ys1++ys2),v4,w22,rfl,rfl,(LW.let_ hlwhp1 hlwhp2 (by have:=P2 Zr YG;omega))⟩ (eq:=(ro (ls:=[Xb ((xs++ys1)++ys2) w22,.i ((((q+Xn ys1)+Xn ys2):Nat):Int)]) (by rw [AT,<-Bo,UN]) (rc rz))))))
 refine Ym (Wj (fun fz gz F h=>F=sF [0,3,5,6] fz [(48,.b ((e.op==7)||(e.op==8)))]/\h=gz) ?_ ?_)
 ·refine ac (e.op==7) Zq (fun ZD=>?_) (fun ZD=>?_)
  ·exact ak (ZV ⟨rfl,rfl⟩ (ZG 4 (fc (x:=.b (e.op==7)) (lb (by first|rfl|(rw [Ze ZD])|(rw [Z7 ZD])|(simp [ZD];done)|(rw [XH];simp [ZD];done)|omega)) fl)))
  exact UY (ZV ⟨rfl,rfl⟩ (ZG 4 (fc (x:=.b (e.op==8)) (lb (by first|rfl|(rw [Ze ZD])|(rw [Z7 ZD])|(simp [ZD];done)|(rw [XH];simp [ZD];done)|omega)) fl)))
 rintro F h ⟨rfl,rfl⟩
 refine ac ((e.op==7)||(e.op==8)) (p:=(e.op=7)∨(e.op=8)) (Yh Zq Zq) (fun Yj=>?_) (fun Yj=>?_)
 ·refine aD 9 (ZI 5 9 [0,1,2,3] [1,0] ?_)
  obtain ⟨x4,Wy⟩:=Zs e.kids 0 om
  have hekx4:=Dc hks Wy
  have hszx4:=Ck Wy
  have htzx4:=BC Wy
  rw [Vl] at hekx4
  rw [Zh7 om] at hekx4
  refine dx 4 (Zl none 0 3 (D8 Wy)) (Zh 2 4 [5,6] (Z9 7 (dc 7 [2,2] [] [] (ih l x4 us xs w q (by first|assumption|(rw [Ys];assumption)) (by first|assumption|exact Fq hu hlwhp1.v|exact HD hu) (by first|omega|(simp only [Ys,YW,XJ];omega)) (by first|omega|(simp only [Ys,YW,XJ];omega)) ob ob) ?_)))
  rintro _ _ ⟨ys3,v5,w23,rfl,rfl,YJ⟩
  have hlwhp3:=YJ
  have hldhp3:=YJ.dn
  refine Zh 0 1 [8] (de (ar (iL (YS []) 0 2 fun v6=>Z0 (Zv 4 [4,3] (ic [] (Bf g.decls e.num) ?_)))))
  rintro _ _ ⟨v7,rfl,rfl⟩
  refine Z0 (Ym (ab 1 (Y4 (fun fz gz m F h=>∃(k:Nat) (cs:List Z6) (u:Value),(1<=k/\k<=e.kids.length)/\(cs.length+1=k)/\(Qm g.decls g.funcs.length (Qz g.decls e.op e.num (q+Xn ys3)) 0 cs)/\(X3 cs+6*x4.sz<=cs.length+6*XC (e.kids.take k))/\(J8 WX cs)/\F=sF [0,3,5,6,10] fz [(11,Qc cs u),(12,Z4 (ZW g.decls e.num)),(13,.i k)]/\h=[Zd gz 2,Zd gz 4,Zd gz 5,.tail u 2,Zd gz 3]/\m=e.kids.length-k) _ _ _ ⟨1,[],v6,ob,ob,True.intro,(by have h:XC (e.kids.take 1)=XC (e.kids.take 0)+x4.sz:=BC Wy;simp only [X3,XJ];omega),True.intro,rfl,rfl,rfl⟩ (wk [2,3,3,1,1] (fr (fc (x:=ZQ (ZW g.decls e.num) v7) (Zc.forget _ _) (fc (x:=.i 1) li fl)))) ?_)))
  rintro m F h ⟨k,cs,u,Ye,Zk,Zw,Yy,XU,rfl,rfl,rfl⟩
  refine Yk 3 [1] (iw (IF e.kids) (Y9 ((k:Int)<(e.kids.length:Int)) (fun Xh=>?_) (fun Xh=>?_)))
  ·refine ak (aq (ab 2 (Zy (X7 (VX [1] (Wj (fun fz gz F h=>∃(mf:Nat),(Qz g.decls e.op e.num (q+Xn ys3) cs.length=(q+Xn ys3)+mf)/\(mf<=3)/\(QA g.decls e.op e.num us.length k=us.length+mf)/\F=sF [0,3,5,6,10,11,12,13] fz [(14,.i mf)]/\h=gz) ?_ ?_))))))
   ·refine ac (e.op==8) Zq (fun Xl=>?_) (fun Xl=>?_)
    ·refine aE 10 (ZI 6 10 [0,1,2,3] [2] (da 4 (((k-1:Nat):Int)) (((k:Int))-(1)) ?_))
     obtain ⟨x5,VF⟩:=Zs (ZW g.decls e.num) (k-1) (by have:=h8 om;omega)
     exact dx 5 (Zl none ((k-1:Nat):Int) 1 (ZZ VF)) (Zh 3 4 [6] (Z9 7 (Yz 7 [] [] [] (JD g.decls x5) (dn 8 (.i (((ZX g.decls x5).length:Nat):Int)) (.i (((Z8 (ZX g.decls x5)).length:Nat):Int)) (li (by rw [Ya])) (Zh 0 1 [9] (de (ZV ⟨(ZX g.decls x5).length,(MA om (by rw [show cs.length=k-1 by omega];exact VF)),(by have:=Uu Xz x5;omega),(Zh8 om (show k=(k-1)+1 by omega) VF),rfl,rfl⟩ (ZG 5 (fc (x:=.i (((ZX g.decls x5).length:Nat):Int)) (li (by first|rfl|(rw [Ze Xl])|(rw [Z7 Xl])|(simp [Xl];done)|(rw [XH];simp [Xl];done)|omega)) fl)))))))))
    exact ak (ZV ⟨0,(MB om),om,(Z0r om),rfl,rfl⟩ (ZG 5 (fc (x:=.i 0) (li (by first|rfl|(rw [Ze Xl])|(rw [Z7 Xl])|(simp [Xl];done)|(rw [XH];simp [Xl];done)|omega)) fl)))
   rintro F h ⟨mf,Zdb,Zm7,Zdc,rfl,rfl⟩
   refine aE 25 (ZI 20 25 [0,1,2,3,4] [2,1] ?_)
   obtain ⟨x6,A7⟩:=Zs e.kids k om
   have hekx6:=Dc hks A7
   have hszx6:=Ck A7
   have htzx6:=BC A7
   rw [Vl] at hekx6
   rw [Zdc] at hekx6
   have htk:=AY (xs:=e.kids) (k+1)
   have hbl:=I9 cs
   refine dx 5 (Zl none (k:Int) 3 (D8 A7)) (ZI 7 19 [6,7,8,9,10,11,12,15,16,17,18,19] [0,0] (da 20 ((((q+Xn ys3)+mf:Nat):Int)) (((((q+Xn ys3):Nat):Int))+((mf:Int))) (Z9 13 (dc 13 [] [0,1,2] [l,b2,b1] (Lh (q+Xn ys3) mf) ?_))))
   rintro _ _ ⟨xs1,rfl,rfl,YR⟩
   have hnx:=YR
   refine Z9 14 (dc 14 [] [0,1,2] [l,b2,b1] (KG us xs1) ?_)
   rintro _ _ ⟨v8,rfl,rfl⟩
   refine YA 4 4 [] [(98,Z4 (us++xs1))] (Z9 21 (dc 21 [] [] [] (Px g x6 (us++xs1) ((q+Xn ys3)+mf) e.sz (he:=(by rw [Ys,hnx.1];exact hekx6)) (hu:=(Zkv hu hnx.2)) (hul:=(by rw [Ys,hnx.1];omega)) (hql:=om) (ih:=ih)) ?_))
   rintro _ _ ⟨b3,rfl,rfl,Xk⟩
   have hlb:=Xk
   exact Z9 22 (WP 22 [] [] [Y7 b3] (YS [b3]) (Q6 [b3]).symm 1 2 fun v9=>YA 2 2 [] [(106,Wf [b3])] (Z9 23 (dp 23 5 [] [] (YS (cs++[b3])) (YS cs) (YS [b3]) u none 2 (Kq _) (Kq _) (Iy _) (by simp<;>omega) (by simp [Cg,YS]) fun v10=>Zh 0 1 [24] (de (az (Z2 1 (ZJ k (Z0 (ZK ⟨k+1,(cs++[b3]),v10,ob,ob,(P4 Zw (by rw [Zdb];exact hlb.1)),(by have:=hlb.2;rw [E8,Ys];simp only [X3,YW,XJ];omega),(Sn XU hlb.op),rfl,rfl,rfl⟩ (wk [3,3,3,0,2] (fw (ZM k fl))))))))))))
  refine ax 1 (Zv 6 [1,1] (iL (Z8 [v5]) 1 1 fun v11=>ZT 2 [(116,.agg [.i e.op,.i e.num,.i 0,Z4 [v5],Wf cs])] (ic [1,4] (Po l (xs++ys3) w23 (q+Xn ys3) (Z5.mk e.op e.num 0 [v5] cs) (hl:=(by first|(have h1:=JG zs;have h2:=AY (xs:=e.kids) k;have h3:=BA zs;(try simp only [Ys]);omega)|((try simp only [Ys]);omega))) (hq:=(by first|(have h1:=JG zs;have h2:=AY (xs:=e.kids) k;have h3:=BA zs;(try simp only [Ys]);omega)|((try simp only [Ys]);omega)))) ?_)))
  rintro _ _ ⟨w24,rfl,rfl⟩
  refine Z0 ?_
  have hcb:Yx e.op=false:=by simp [Yx];omega
  exact ZB (r1 [0,0] ⟨(ys3++[Z5.mk e.op e.num 0 [v5] cs]),(((q+Xn ys3):Nat):Int),w24,rfl,rfl,(LW.branch (s0:=x4.sz) (sr:=XC (e.kids.take k)-x4.sz) om (fun h=>by have:=h7 h;omega) (fun h=>by have:=h8 h;omega) hnum hlwhp3.fs hlwhp3.v Zw om hlwhp3.sz (by have:=I9 cs;omega) (by have:=AY (xs:=e.kids) k;omega) hlwhp3.op XU)⟩ (eq:=(ro (ls:=[Xb ((xs++ys3)++[(Z5.mk e.op e.num 0 [v5] cs)]) w24,.i ((((q+Xn ys3)+1):Nat):Int)]) (by rw [Ei (s:=Z5.mk e.op e.num 0 [v5] cs) hcb,<-Bo,UN]) (rc rz))))
 refine ak (ar (iL (Z8 []) 0 1 fun v12=>?_))
 refine Z0 (Ym (ab 3 (Y4 (fun fz gz m F h=>∃(k:Nat) (asl:LI) (u:Value) (zs:List Z5) (w3:Value),(k<=e.kids.length)/\(asl.length=k)/\(TT g.decls g.funcs.length q zs)/\(∀a∈asl,0<=a/\a<((q+Xn zs:Nat):Int))/\(Yf zs<=6*XC (e.kids.take k))/\(QX WX zs)/\F=sF [0,3,5,6] fz [(15,ZQ asl u),(16,.i k)]/\h=[Zd gz 1,Zd gz 2,.obj l [Xb (xs++zs) w3,.i (((q+Xn zs):Nat):Int)],.tail u 1,.tail w3 5]/\m=e.kids.length-k) _ _ _ ⟨0,[],v12,[],w,ob,ob,True.intro,(fun a ha=>by cases ha),(by simp [Yf]),True.intro,rfl,rfl,rfl⟩ (wk [1,1,1,0,0] (fr (Yb fl)) (e:=(rc (rc (ro (ls:=[Xb xs w,.i q]) (by simp [Xn]) (rc (rc rz))))))) ?_)))
 rintro m F h ⟨k,asl,u,zs,w3,U7,XO,XP,JU,Zlk,O1,rfl,rfl,rfl⟩
 refine Yk 3 [0] (iw (IF e.kids) (Y9 ((k:Int)<(e.kids.length:Int)) (fun U0=>?_) (fun U0=>?_)))
 ·refine ak (aq (ab 4 (aD 10 (ZI 5 10 [0,1,2,3,4] [1,0] ?_))))
  obtain ⟨x7,Gu⟩:=Zs e.kids k om
  have hzl:=JG zs
  have hzd:=BA zs
  have htk:=AY (xs:=e.kids) (k+1)
  have hekx7:=Dc hks Gu
  have hszx7:=Ck Gu
  have htzx7:=BC Gu
  rw [Vl] at hekx7
  rw [Z0r om] at hekx7
  refine dx 5 (Zl none (k:Int) 3 (D8 Gu)) (Zh 2 4 [6,7] (Z9 8 (dc 8 [2,3] [] [] (ih l x7 us (xs++zs) w3 (q+Xn zs) (by first|assumption|(rw [Ys];assumption)) (by first|assumption|exact Fq hu hlwhp1.v|exact HD hu) (by first|omega|(simp only [Ys,YW,XJ];omega)) (by first|omega|(simp only [Ys,YW,XJ];omega)) ob ob) ?_)))
  rintro _ _ ⟨ys4,v13,w25,rfl,rfl,XX⟩
  have hlwhp6:=XX
  have hldhp6:=XX.dn
  exact Zh 0 1 [9] (de (az (Z2 2 (iL (Z8 [v13]) 1 1 fun v14=>ZT 0 [(137,Z4 [v13])] (ip 5 (Z8 (asl++[v13])) (Z8 asl) (Z8 [v13]) u none 1 (YL _) (YL _) (Ww _) (by simp<;>omega) (by simp [Wv,Z8]) fun v15=>Z0 (az (Z2 1 (ZJ k (Z0 (ZK ⟨k+1,(asl++[v13]),v15,(zs++ys4),w25,ob,ob,(Er.2 ⟨XP,hlwhp6.fs⟩),(by rw [AT,<-Bo];exact Fq JU hlwhp6.v),(by have:=hlwhp6.sz;rw [Qe];omega),(M6.2 ⟨O1,hlwhp6.op⟩),rfl,rfl,rfl⟩ (wk [4,4,2,0,1] (fr (ZM k fl)) (e:=(rc (rc (ro (ls:=[Xb ((xs++zs)++ys4) w25,.i ((((q+Xn zs)+Xn ys4):Nat):Int)]) (by rw [AT,<-Bo,UN]) (rc (rc rz)))))))))))))))))
 refine ax 3 (Zv 6 [0,0] (iL (YS []) 0 2 fun v16=>ZT 1 [(146,.agg [.i e.op,.i e.num,.i 0,Z4 asl,Wf []])] (ic [3,4] (Po l (xs++zs) w3 (q+Xn zs) (Z5.mk e.op e.num 0 asl []) (hl:=(by first|(have h1:=JG zs;have h2:=AY (xs:=e.kids) k;have h3:=BA zs;(try simp only [Ys]);omega)|((try simp only [Ys]);omega))) (hq:=(by first|(have h1:=JG zs;have h2:=AY (xs:=e.kids) k;have h3:=BA zs;(try simp only [Ys]);omega)|((try simp only [Ys]);omega)))) ?_)))
 rintro _ _ ⟨w26,rfl,rfl⟩
 refine Z0 ?_
 have hcb:Yx e.op=false:=by simp [Yx];omega
 exact ZB (r1 [0,0] ⟨(zs++[Z5.mk e.op e.num 0 asl []]),(((q+Xn zs):Nat):Int),w26,rfl,rfl,(LW.node om h9 hnum XP JU om (by have:=AY (xs:=e.kids) k;omega) O1)⟩ (eq:=(ro (ls:=[Xb ((xs++zs)++[(Z5.mk e.op e.num 0 asl [])]) w26,.i ((((q+Xn zs)+1):Nat):Int)]) (by rw [Ei (s:=Z5.mk e.op e.num 0 asl []) hcb,<-Bo,<-UN]) (rc rz))))
theorem Zaa (l:Nat) (g:Wc) (e:Z1) (us:LI) (xs:List Z5) (w:Value) (q:Nat) (hd:GD g.decls) (he:eW g.decls g.funcs.length us.length e) (hu:∀a∈us,0<=a/\a<(q:Int)) (hul:us.length+4*e.sz<=100000) (hxl:xs.length+6*e.sz<=100000) (hql:q+6*e.sz<=100000):Zj 234 [.p l 0,AN g,Y8 e,Z4 us] [.obj l [Xb xs w,.i q],.tail w 5] (fun r h=>∃(ys:List Z5) (v:Int) (w2:Value),r=.i v/\h=[.obj l [Xb (xs++ys) w2,.i (((q+Xn ys):Nat):Int)],.tail w2 5]/\LW g.decls g.funcs.length q e ys v):=by
 have key:∀k:Nat,∀(l:Nat) (e2:Z1) (us2:LI) (xs2:List Z5) (w2:Value) (q2:Nat),(eW g.decls g.funcs.length us2.length e2)->(∀a∈us2,0<=a/\a<(q2:Int))->(us2.length+4*e2.sz<=100000)->(xs2.length+6*e2.sz<=100000)->(q2+6*e2.sz<=100000)->(e2.sz<k)->Zj 234 [.p l 0,AN g,Y8 e2,Z4 us2] [.obj l [Xb xs2 w2,.i q2],.tail w2 5] (fun r h=>∃(ys:List Z5) (v:Int) (w2:Value),r=.i v/\h=[.obj l [Xb (xs2++ys) w2,.i (((q2+Xn ys):Nat):Int)],.tail w2 5]/\LW g.decls g.funcs.length q2 e2 ys v):=by
  intro k
  induction k with
  | zero=>intro l e2 us2 xs2 w2 q2 h1 h2 h3 h4 h5 h6;omega
  | succ k ih=>intro l e2 us2 xs2 w2 q2 h1 h2 h3 h4 h5 h6;exact Zab l g e2 us2 xs2 w2 q2 hd h1 h2 h3 h4 h5 fun l e3 us3 xs3 w3 q3 a1 a2 a3 a4 a5 a6=>ih l e3 us3 xs3 w3 q3 a1 a2 a3 a4 a5 om
 exact key (e.sz+1) l e us xs w q he hu hul hxl hql om
theorem Lg (g:Wc) (e:Z1) (us:LI) (q:Nat) (hd:GD g.decls:=by exact ob) (he:eW g.decls g.funcs.length us.length e:=by exact ob) (hu:∀a∈us,0<=a/\a<(q:Int)) (hul:us.length+4*e.sz<=100000:=by exact ob) (hql:q+6*e.sz<=100000:=by exact ob):Zj 197 [AN g,Y8 e,Z4 us,.i q] [] (fun r h=>∃(b:Z6),r=Y7 b/\h=[]/\LB g.decls g.funcs.length q e b):=(Px g e us q (e.sz+1) he hu hul hql om (fun l e2 us2 xs2 w2 q2 h1 h2 h3 h4 h5 _=>Zaa l g e2 us2 xs2 w2 q2 hd h1 h2 h3 h4 h5))
theorem Ff (ds:List Zf) (hd:Wu ds:=by exact ob):Zj 81 [ZP ds] [] (Yn (ZP ds)):=by
 have hdl:=hd.len
 refine ZE 55 Tryz.func81 (Zy (ar (iL (YB []) 0 3 fun v1=>?_)))
 refine Z0 (Ym (ab 0 (Y4 (fun fz gz m F h=>∃(k:Nat) (v:Value),(k<=ds.length)/\F=sF [0] fz [(3,Ay (ds.take k) v),(4,.i k)]/\h=[.tail v 3]/\m=ds.length-k) _ _ _ ⟨0,v1,ob,rfl,rfl,rfl⟩ (wk [0] (fc (x:=Ay [] v1) (Zc.slh _ (Yu YB rfl)) (Yb fl))) ?_)))
 rintro m F h ⟨k,v,Ye,rfl,rfl,rfl⟩
 refine YP 2 (iw (Uf ds) (Y9 ((k:Int)<(ds.length:Int)) (fun Za=>?_) (fun Za=>?_)))
 ·obtain ⟨xd,hxd⟩:=Zs ds k om
  have hcl:=hd.cons_at hxd
  refine ak (aq (ab 1 (ar (iL (XR []) 0 1 fun v2=>?_))))
  refine Z0 (Ym (ab 2 (Y4 (fun fz gz m F h=>∃(j:Nat) (u:Value),(j<=xd.cons.length)/\F=sF [0,3,4] fz [(5,H5 (xd.cons.take j) u),(6,.i j)]/\h=[.tail u 1,Zd gz 1]/\m=xd.cons.length-j) _ _ _ ⟨0,v2,ob,rfl,rfl,rfl⟩ (wk [0,0] (fc (x:=H5 [] v2) (Zc.slh _ (Yu XR rfl)) (Yb fl))) ?_)))
  rintro m F h ⟨j,u,U7,rfl,rfl,rfl⟩
  refine YP 3 (Zp (Zl none (k:Int) 3 (WQ hxd)) (Z2 2 (iw (Uo xd.cons) (Y9 ((j:Int)<(xd.cons.length:Int)) (fun Zg=>?_) (fun Zg=>?_)))))
  ·refine ak (aq (ab 3 (az (Z2 3 (Zp (Zl none (k:Int) 3 (WQ hxd)) (Z2 3 ?_))))))
   obtain ⟨x1,Z3⟩:=Zs xd.cons j om
   have hfl:=hd.fields_at hxd Z3
   refine Zp (Zl none (j:Int) 1 (AU Z3)) (Z2 2 (ic [] (T2 x1.fields) ?_))
   rintro _ _ ⟨v3,rfl,rfl⟩
   exact ZT 1 [(36,CN x1)] (iL (XR [x1]) 1 1 fun v4=>ZT 0 [(37,J7 [x1])] (ip 2 (XR (xd.cons.take (j+1))) (XR (xd.cons.take j)) (XR [x1]) u none 1 (Ej _) (Ej _) (Z7q _) (by simp<;>omega) (by rw [V1 Z3];simp [XR]) fun v5=>Z0 (az (Z2 1 (ZJ j (Z0 (ZK ⟨j+1,v5,ob,rfl,rfl,rfl⟩ (wk [0,2] (fr (ZM j fl))))))))))
  exact ax 2 (aE 16 (Zh 13 16 [0,1,2] (dx 3 (Zl none (k:Int) 3 (WQ hxd)) (Zh 8 12 [4,5,6,7] (dx 8 (Zl none (k:Int) 3 (WQ hxd)) (YA 3 7 [9,10,11,12] [(51,.agg [.i xd.frm,.i xd.to_,J7 (xd.cons.take j)])] (Z9 13 (dL 13 [] [] (YB [Zf.mk xd.frm xd.to_ (xd.cons.take j)]) 1 3 fun v6=>YA 2 2 [] [(52,ZP [Zf.mk xd.frm xd.to_ (xd.cons.take j)])] (Z9 14 (dp 14 2 [] [] (YB (ds.take (k+1))) (YB (ds.take k)) (YB [Zf.mk xd.frm xd.to_ (xd.cons.take j)]) v none 3 (KX _) (KX _) (FV _) (by simp<;>omega) (by rw [V1 hxd];simp [YB,VA (show xd.cons.length<=j by omega)]) fun v7=>Zh 0 1 [15] (de (az (Z2 1 (ZJ k (Z0 (ZK ⟨k+1,v7,ob,rfl,rfl,rfl⟩ (wk [0] (fr (ZM k fl)))))))))))))))))))
 exact ax 0 (ar (Zo (ZU (Ay (ds.take k) v) (Zc.sl _ (Yu YB (by rw [VA om]))))))
theorem Zah (g:Wc) (hg:HT g:=by exact ob):Zj 144 [AN g] [] (fun r h=>∃(n:Zm),r=Yr n/\h=[]/\FO n 181 WX):=by
 have hgl:=hg.gp.len
 have Xz:=hg.gp.decls.ok
 refine ZE 49 Tryz.func144 (ar (iA (LK g) fun b1=>iA [nl,nl] fun b2=>ie (Zv 2 [1] (Zx [] (Ff g.decls) (iL (X6 []) 0 5 fun v1=>Z2 1 (iA [nl,nl] fun b3=>?_))))))
 refine ZH 0 b3 [ZP g.decls,U3 [] v1] (ie (Ym (ab 0 (Y4 (fun fz gz m F h=>∃(k:Nat) (rs:List Yc) (u:Value),(k<=g.funcs.length)/\(rs.length=k)/\(∀r∈rs,RN g.decls g.funcs.length r)/\F=sF [1,2,3] fz [(4,.i k)]/\h=[.obj b3 [ZP g.decls,U3 rs u],Zd gz 2,Zd gz 3,.tail u 5]/\m=g.funcs.length-k) _ _ _ ⟨0,[],v1,ob,ob,(fun r hr=>by cases hr),rfl,rfl,rfl⟩ (wk [0,1,1,0] (Yb fl)) ?_))))
 rintro m F h ⟨k,rs,u,Ye,Zk,Zw,rfl,rfl,rfl⟩
 refine Yk 3 [2] (iw (D9 g.funcs) (Y9 ((k:Int)<(g.funcs.length:Int)) (fun Za=>?_) (fun Za=>?_)))
 ·refine ak (aq (ab 1 (Zv 3 [2] ?_)))
  obtain ⟨x1,Z3⟩:=Zs g.funcs k om
  have hso:=(hg.gp.sigs _ (Y0 Z3)).bd
  have hsi:=hg.gp.sigs _ (Y0 Z3)
  have hbo:=hg.body _ (Y0 Z3)
  refine Zp (Zl none (k:Int) 5 (FW Z3)) (Z2 1 (iA [nl,.i 0,.i 0,.i 0,nl] fun b4=>?_))
  refine ZH 0 b4 (GS x1) (ie (Zv 2 [0] (iw (Ya x1.params) (Z0 (aD 9 (ZI 4 9 [0,1,2,3,5] [3,0] (Jo (fun fz gz F h=>∃(b5:Z6) (b6:Nat) (xs1:LI),(xs1.length=x1.params.length/\∀i∈xs1,(0:Int)<=i/\i<(0:Int)+x1.params.length)/\(LB g.decls g.funcs.length x1.params.length x1.body b5)/\F=sF [1,2,3,4,5] fz [(7,.p b6 0)]/\h=[.obj b6 (Xs b5),Zd gz 0,Zd gz 1,Zd gz 2,Zd gz 3,Zd gz 4]) ?_ ?_)))))))
  ·refine VJ 4 7 ?_ ?_
   ·refine dc 4 [] [0,3] [b4,b1] (Lh 0 x1.params.length) ?_
    rintro _ _ ⟨xs1,rfl,rfl,ZY⟩
    have hnx:=ZY
    refine VJ 6 7 ?_ ?_
    ·refine dc 6 [] [] [] (Lg g x1.body xs1 x1.params.length (hd:=hg.gp.decls) (he:=(by rw [hnx.1];exact hbo.1)) (hu:=(fun a ha=>by have:=hnx.2 a ha;omega))) ?_
     rintro _ _ ⟨b5,rfl,rfl,Yi⟩
     have hlb:=Yi
     exact Z9 7 (dA 7 [] [] [nl,.i 0] fun b6=>Z9 8 (YO 8 0 [] [] b6 (Xs b5) (de (ZV ⟨_,b6,_,(by assumption),(by assumption),rfl,rfl⟩ (ZG 6 fl)))))
    refine dA 7 [0,3] [b4,b1] [nl,.i 0] fun b7=>Z9 6 (dc 6 [] [] [] (Lg g x1.body xs1 x1.params.length (hd:=hg.gp.decls) (he:=(by rw [hnx.1];exact hbo.1)) (hu:=(fun a ha=>by have:=hnx.2 a ha;omega))) ?_)
    rintro _ _ ⟨b8,rfl,rfl,YJ⟩
    have hlb:=YJ
    exact Z9 8 (YO 8 0 [] [] b7 (Xs b8) (de (ZV ⟨_,b7,_,(by assumption),(by assumption),rfl,rfl⟩ (ZG 6 fl))))
   refine dA 7 [0,3] [b4,b1] [nl,.i 0] fun b9=>Z9 4 (dc 4 [] [1,4] [b4,b1] (Lh 0 x1.params.length) ?_)
   rintro _ _ ⟨xs2,rfl,rfl,YR⟩
   have hnx:=YR
   refine Z9 6 (dc 6 [] [] [] (Lg g x1.body xs2 x1.params.length (hd:=hg.gp.decls) (he:=(by rw [hnx.1];exact hbo.1)) (hu:=(fun a ha=>by have:=hnx.2 a ha;omega))) ?_)
   rintro _ _ ⟨b10,rfl,rfl,Xk⟩
   have hlb:=Xk
   exact Z9 8 (YO 8 0 [] [] b9 (Xs b10) (de (ZV ⟨_,b9,_,(by assumption),(by assumption),rfl,rfl⟩ (ZG 6 fl))))
  rintro F h ⟨b5,b6,xs1,ZY,Yi,rfl,rfl⟩
  have hnx:=ZY
  have hlb:=Yi
  refine aE 14 (ZI 7 14 [0,1,2,3,6,7,8] [2,1,1,0] (VJ 4 5 ?_ ?_))
  ·refine dc 4 [] [0,1,2] [b6,b4,b3] (T2 x1.params) ?_
   rintro _ _ ⟨v2,rfl,rfl⟩
   exact Z9 5 (dL 5 [0,1,2] [b6,b4,b3] (Z8 []) 0 1 fun v3=>YA 4 5 [9] [(44,.agg [Z4 x1.params,Z4 [],.i x1.result,Vs b5.steps,.i b5.result])] (Z9 10 (dL 10 [2] [b3] (X6 [Yc.mk x1.params [] x1.result (Z6.mk b5.steps b5.result)]) 1 5 fun v4=>YA 3 3 [] [(45,KC [Yc.mk x1.params [] x1.result (Z6.mk b5.steps b5.result)])] (Z9 11 (dp 11 8 [] [] (X6 (rs++[Yc.mk x1.params [] x1.result (Z6.mk b5.steps b5.result)])) (X6 rs) (X6 [Yc.mk x1.params [] x1.result (Z6.mk b5.steps b5.result)]) u none 5 (Ql _) (Ql _) (Db _) (by simp<;>omega) (by simp [Da,X6]) fun v5=>Zh 1 2 [12] (Z9 13 (YO 13 6 [] [] b3 [ZP g.decls,U3 (rs++[Yc.mk x1.params [] x1.result (Z6.mk b5.steps b5.result)]) v5] (de (az (Z2 1 (ZJ k (Z0 (ZK ⟨k+1,(rs++[Yc.mk x1.params [] x1.result (Z6.mk b5.steps b5.result)]),v5,ob,ob,(XS Zw (RN.of hsi hlb hbo.2)),rfl,rfl,rfl⟩ (wk [0,6,6,0] (ZM k fl)))))))))))))))
  refine dL 5 [0,1,1,2] [b6,b4,b4,b3] (Z8 []) 0 1 fun v6=>Z9 4 (dc 4 [] [0,1,2] [b6,b4,b3] (T2 x1.params) ?_)
  rintro _ _ ⟨v7,rfl,rfl⟩
  exact YA 4 5 [9] [(44,.agg [Z4 x1.params,Z4 [],.i x1.result,Vs b5.steps,.i b5.result])] (Z9 10 (dL 10 [2] [b3] (X6 [Yc.mk x1.params [] x1.result (Z6.mk b5.steps b5.result)]) 1 5 fun v8=>YA 3 3 [] [(45,KC [Yc.mk x1.params [] x1.result (Z6.mk b5.steps b5.result)])] (Z9 11 (dp 11 8 [] [] (X6 (rs++[Yc.mk x1.params [] x1.result (Z6.mk b5.steps b5.result)])) (X6 rs) (X6 [Yc.mk x1.params [] x1.result (Z6.mk b5.steps b5.result)]) u none 5 (Ql _) (Ql _) (Db _) (by simp<;>omega) (by simp [Da,X6]) fun v9=>Zh 1 2 [12] (Z9 13 (YO 13 6 [] [] b3 [ZP g.decls,U3 (rs++[Yc.mk x1.params [] x1.result (Z6.mk b5.steps b5.result)]) v9] (de (az (Z2 1 (ZJ k (Z0 (ZK ⟨k+1,(rs++[Yc.mk x1.params [] x1.result (Z6.mk b5.steps b5.result)]),v9,ob,ob,(XS Zw (RN.of hsi hlb hbo.2)),rfl,rfl,rfl⟩ (wk [0,6,6,0] (ZM k fl))))))))))))))
 exact ax 0 (Zv 1 [0] (ZH 1 b2 [ZP g.decls,U3 rs u] (ie (ZB (r3 [] [.agg [ZP g.decls,U3 rs u]] [0] [(b2,b2)] ⟨(Zm.mk g.decls rs),rfl,rfl,(RN.all hg.gp.decls (by show 1<=rs.length/\rs.length<=4;omega) (by show ∀r∈rs,RN g.decls rs.length r;rw [show rs.length=g.funcs.length by omega];exact Zw) om)⟩ (Zc.agg (.cons (lr _) (.cons (Zc.forget _ _) .nil))))))))
theorem Z1v (n:Zm) (hz:V4 n:=by exact ob):Zj 108 [Yr n] [] (Yn (.b (WC n))):=by
 have hzl:=hz.len
 refine ZE 35 Tryz.func108 (ar (iA (YZ n) fun b1=>Z0 (Yk 1 [0] (Zx [] (Zjc n (hz:=hz.decls) (hr:=(fun r hr=>⟨hz.params r hr,hz.lent r hr⟩))) (YD (!Vy n) (p:=¬(Vy n=true)) (Yl Iff.rfl) (fun Za=>?_) (fun Za=>?_))))))
 ·exact ar (Zo (ZU (.b false) (lb (by first|rfl|omega|grind [WC]))))
 have hok:=M1 hz (by simpa using Za)
 refine ak (Ym (ab 0 (Y4 (fun fz gz m F h=>∃(k:Nat),(k<=n.routines.length)/\(Qy n (n.routines.drop k)=Qy n n.routines)/\F=sF [1] fz [(3,.i k)]/\h=gz/\m=n.routines.length-k) _ _ _ ⟨0,ob,ob,rfl,rfl,rfl⟩ (wk [0] (Yb fl)) ?_)))
 rintro m F h ⟨k,Ye,Zk,rfl,rfl,rfl⟩
 refine Yk 3 [0] (iw (U9 n.routines) (Y9 ((k:Int)<(n.routines.length:Int)) (fun Zg=>?_) (fun Zg=>?_)))
 ·refine ak (aq (ab 1 (Zv 3 [0] ?_)))
  obtain ⟨x1,Z3⟩:=Zs n.routines k om
  have ZO:=hz.body _ (Y0 Z3)
  have hps:=hok.params_at Z3
  refine Zp (Zl none (k:Int) 5 (WR Z3)) (Z2 1 (iA [nl,nl,.i 0,nl,.i 0] fun b2=>ZH 0 b2 (TG x1) (ie (aD 15 (ZI 13 15 [0,1] [0] (Z9 2 (Yz 2 [] [] [] (Z1t x1.body) (JZ [1,3] [(34,.b ((decide ((UB x1.body)<0))||((YT n x1.params x1.body) != x1.result)))] (fun gz=>gz) ?_ ?_))))))))
  ·refine Zh 10 12 [3,4] (db (b:=(decide ((UB x1.body)<0))) 24 (fun Zb=>?_) (fun Zb=>?_))
   ·exact Zh 0 10 [5,6,7,8,9,10,11,12,13,14] (de (wk [0,0] (Zt true Zb fl)))
   exact ZI 3 10 [5,6,7,8,9,11,12] [1,0,0,0] (Z9 10 (Yz 10 [] [0] [b2] (Z1m n x1.params x1.body ob ob) (Zh 0 2 [13,14] (de (wk [0,0] (Zt ((YT n x1.params x1.body) != x1.result) Zb fl))))))
  refine ac ((decide ((UB x1.body)<0))||((YT n x1.params x1.body) != x1.result)) (p:=((UB x1.body)<0)∨((YT n x1.params x1.body)≠x1.result)) (Yh dq Y3) (fun ZD=>?_) (fun ZD=>?_)
  ·refine Zy ?_
   rw [Y5 Z3] at Zk
   exact ZB (ZU (.b false) (lb (by clear Z3;first|rfl|omega|grind [Qy,WC])))
  refine ak (az (Z2 1 (ZJ k (Z0 ?_))))
  have hdr:=Y5 Z3
  exact ZK ⟨k+1,ob,(by rw [hdr] at Zk;clear hdr Z3;grind [Qy]),rfl,rfl,rfl⟩ (wk [1] (ZM k fl))
 refine ax 0 (Zy ?_)
 try rw [Xj (xs:=n.routines) (k:=k) om] at Zk
 exact ZB (ZU (.b true) (lb (by first|rfl|omega|grind [Qy,WC])))
theorem Ziw (op:Int) :Zj 172 [.i op] [] (Yn (.b (Yx op))):=by
 exact ZE 5 Tryz.func172 (Zy (Y1 1 (Zx [] (TJ op 14 17) (Zo (ZU (.b (decide (14<=op/\op<=17))) (lb (by first|rfl|omega|grind [Yx])))))))
theorem Z1n (op:Int) :Zj 232 [.i op] [] (Yn (.b (Ta op))):=by
 refine ZE 17 Tryz.func232 (Zy (ar (XD 6 [0] [(8,.b ((op==6)||(op==9)))] (fun gz=>gz) ?_ (fun hj1=>?_))))
 ·refine XD 10 [0] [(12,.b (((op==6)||(op==9))||(op==10)))] (fun gz=>gz) ?_ (fun hj2=>?_)
  ·refine XD 14 [] [(16,.b ((((op==6)||(op==9))||(op==10))||(op==11)))] (fun gz=>gz) ?_ (fun hj3=>?_)
   ·exact Zo (ZU (.b ((((op==6)||(op==9))||(op==10))||(op==11))) (lb (by first|rfl|omega|grind [Ta])))
   refine Z2 1 (ib (b:=(((op==6)||(op==9))||(op==10))) 13 (fun Zb=>?_) (fun Zb=>?_))
   ·exact Z2 3 (Yp (wk [] (Zt true Zb fl)) hj3)
   exact Z2 3 (Yp (wk [] (Zt (op==11) Zb fl)) hj3)
  refine Z2 1 (ib (b:=((op==6)||(op==9))) 9 (fun Zz=>?_) (fun Zz=>?_))
  ·exact Z2 3 (Yp (wk [] (Zt true Zz fl)) hj2)
  exact Z2 3 (Yp (wk [] (Zt (op==10) Zz fl)) hj2)
 refine Z2 3 (ib (b:=(op==6)) 5 (fun Yo=>?_) (fun Yo=>?_))
 ·exact Z2 3 (Yp (wk [] (Zt true Yo fl)) hj1)
 exact Z2 3 (Yp (wk [] (Zt (op==9) Yo fl)) hj1)
theorem Fh (n:Zm) (s:Z5) (i:Nat) (hn:X4 n:=by exact ob) (hnum:s.op=9->0<=s.num/\s.num<n.routines.length:=by exact ob):Zj 233 [Yr n,YF s,.i i] [] (Yn (.b (WV n s.op s.num i))):=by
 refine ZE 21 Tryz.func233 (ar (iA (YZ n) fun b1=>iA (Xx s) fun b2=>Z0 (Zv 4 [0] (ib (b:=(s.op==9)) 10 (fun Zb=>?_) (fun Zb=>?_)))))
 ·have ZY:s.op=9:=(Zq).1 Zb
  refine ZL 4 [1,0] ?_
  obtain ⟨x1,Z3⟩:=Zs n.routines s.num.toNat om
  have hlt:=hn.lent_at Z3
  have hlr:=Ze9 (n:=n) ZY Z3
  exact Zp (Zl none s.num 5 (WR Z3)) (Z2 3 (Zx [] (Ti x1.lent (i:Int)) (Zo (ZU (.b (decide ((i:Int)∈x1.lent))) (lb (by rw [WV,hlr]))))))
 have Yi:¬(s.op=9):=Y6 Zq Zb
 exact Zo (ZU (.b false) (lb (by rw [WV,B9,Z7 Yi];simp)))
theorem Ht (n:Zm) (us:LI) (s:Z5) (i:Nat) (a:Int) (hn:X4 n:=by exact ob) (hnum:s.op=9->0<=s.num/\s.num<n.routines.length:=by exact ob) (ha:s.args[i]? = some a:=by exact ob) (hi:0<=a/\a<us.length:=by exact ob):Zj 257 [Yr n,Z4 us,YF s,.i i] [] (Yn (.b (Q4 n us s.op s.num a i))):=by
 have hal:=(Xq.1 ha).1
 refine ZE 30 Tryz.func257 (ar (iA (YZ n) fun b1=>iA (Xx s) fun b2=>Z0 (Zv 2 [0] (Zx [] (Z1n s.op) (Z2 1 (ib (b:=Ta s.op) 12 (fun Zb=>?_) (fun Zb=>?_)))))))
 ·refine ZL 4 [0] ?_
  obtain ⟨x1,Z3⟩:=Zs s.args i om
  have hxa:x1=a:=by rw [ha] at Z3;exact (UP Z3).symm
  subst hxa
  refine Zp (Zl none (i:Int) 1 (ZZ Z3)) (Z2 1 ?_)
  obtain ⟨x2,Zr⟩:=Zs us x1.toNat om
  have hga:=WS Zr
  refine Zp (Zl none x1 1 (ZZ Zr)) (Z2 4 (ib (b:=(x2 != 0)) 23 (fun Zz=>?_) (fun Zz=>?_)))
  ·exact ZL 3 [1,0] (Zx [] (Fh n s i) (Zo (ZU (.b (!WV n s.op s.num i)) (lb (by clear Z3 Zr;first|rfl|(rw [Q4];grind))))))
  exact Zo (ZU (.b false) (lb (by clear Z3 Zr;first|rfl|(rw [Q4];grind))))
 exact Zo (ZU (.b false) (lb (by  first|rfl|(rw [Q4];grind))))
theorem Z1r (xs:LI) (ys:LI) (hl_xs:xs.length<=4294967296:=by exact ob) (hl_ys:ys.length<=4294967296:=by exact ob):Zj 260 [Z4 xs,Z4 ys] [] (Yn (.b (decide (xs=ys)))):=by
 refine ZE 26 Tryz.func260 (Zy (YP 1 (iw (Ya xs) (Z2 1 (iw (Ya ys) (YD ((xs.length:Int) != (ys.length:Int)) Y3 (fun Za=>?_) (fun Za=>?_)))))))
 ·exact ar (Zo (ZU (.b false) (lb (eq_comm.1 (decide_eq_false (fun q=>by rw [q] at Za;exact Za rfl))))))
 refine ak (Ym (ab 0 (Y4 (fun fz gz m F h=>∃(k:Nat),(k<=xs.length)/\(xs.take k=ys.take k)/\F=sF [0,1] fz [(5,.i k)]/\h=gz/\m=xs.length-k) _ _ _ ⟨0,ob,ob,rfl,rfl,rfl⟩ (wk [] (Yb fl)) ?_)))
 rintro m F h ⟨k,Ye,Zk,rfl,rfl,rfl⟩
 refine YP 2 (iw (Ya xs) (Y9 ((k:Int)<(xs.length:Int)) (fun Zg=>?_) (fun Zg=>?_)))
 ·refine ak (aq (ab 1 (aD 9 (Zh 7 9 [0,1] ?_))))
  obtain ⟨x1,Z3⟩:=Zs xs k om
  refine dx 2 (Zl none (k:Int) 1 (ZZ Z3)) (Zh 3 6 [3,4,5] ?_)
  obtain ⟨x2,Zr⟩:=Zs ys k om
  refine dx 6 (Zl none (k:Int) 1 (ZZ Zr)) (Zh 0 2 [7,8] (de (ac (x1 != x2) Y3 (fun ZD=>?_) (fun ZD=>?_))))
  ·exact ar (Zo (ZU (.b false) (lb (eq_comm.1 (decide_eq_false (fun q=>by subst q;rw [Z3] at Zr;cases Zr;exact ZD rfl))))))
  refine ak (az (Z2 1 (ZJ k (Z0 ?_))))
  have hdr:=Y5 Z3
  exact ZK ⟨k+1,ob,(by rw [V1 Z3,V1 Zr,Zk];have hxx:x1=x2:=om;rw [hxx]),rfl,rfl,rfl⟩ (wk [] (ZM k fl))
 exact ax 0 (ar (Zo (ZU (.b true) (lb (eq_comm.1 (decide_eq_true (by rw [VA om,VA om] at Zk;exact Zk)))))))
theorem BS (xs:LI) (hlen:xs.length<=4294967296:=by exact ob):Zj 139 [Z4 xs] [] (fun r h=>∃(v:Hd),r=.h v/\h=[rV v xs]):=by
 exact ZE 6 Tryz.func139 (Zy (ar (PO [] 0 fun v1=>Z2 1 (Kx 0 v1 [] xs none fun v2=>Zo (r1 [0] ⟨v2,rfl,rfl⟩ (eq:=(rv (xs:=([]++xs)) ob rz)))))))
theorem J5 (b:Nat) (ga:Hd) (gb:Hd) (gc:Hd) (gd:Hd) (ge:Hd) (gf:Hd) (L:Zu) (ln:LI) (t:Int) (o:Int) (p:Int) (hlb:L.vars.length<=1000000000:=by exact ob) (hlk:WH L:=by exact ob):Zj 206 [.p b 0,.i t,.i o,.i p] [.obj b [.h ga,.h gb,.h gc,.h gd,.h ge,.h gf,Z4 ln],rV ga L.vars,rV gb L.own,rV gc L.par,rV gd L.con,rV ge L.fst,rV gf L.tok] (fun r h=>∃(wa:Hd) (wb:Hd) (wc:Hd) (wd:Hd) (we:Hd) (wf:Hd),h=[.obj b [.h wa,.h wb,.h wc,.h wd,.h we,.h wf,Z4 ln],rV wa ((L.grow t o p).vars),rV wb ((L.grow t o p).own),rV wc ((L.grow t o p).par),rV wd ((L.grow t o p).con),rV we ((L.grow t o p).fst),rV wf ((L.grow t o p).tok)]):=by
 obtain ⟨e1,e2,e3,e4,e5⟩:=hlk
 exact ZE 65 Tryz.func206 (Zv 6 [0] (iL (Z8 [t]) 1 1 fun v1=>ZT 0 [(14,Z4 [t])] (Kx 2 ga L.vars [t] none fun v2=>Z2 2 (ZH 2 b [.h v2,.h gb,.h gc,.h gd,.h ge,.h gf,Z4 ln] (ie (Zv 6 [0] (iL (Z8 [o]) 1 1 fun v3=>ZT 0 [(24,Z4 [o])] (Kx 4 gb L.own [o] none fun v4=>Z2 2 (ZH 2 b [.h v2,.h v4,.h gc,.h gd,.h ge,.h gf,Z4 ln] (ie (Zv 6 [0] (iL (Z8 [p]) 1 1 fun v5=>ZT 0 [(34,Z4 [p])] (Kx 6 gc L.par [p] none fun v6=>Z2 2 (ZH 2 b [.h v2,.h v4,.h v6,.h gd,.h ge,.h gf,Z4 ln] (ie (Zv 5 [0] (iL (Z8 [-1]) 1 1 fun v7=>ZT 0 [(43,Z4 [-1])] (Kx 8 gd L.con [-1] none fun v8=>Z2 2 (ZH 2 b [.h v2,.h v4,.h v6,.h v8,.h ge,.h gf,Z4 ln] (ie (Zv 5 [0] (iL (Z8 [-1]) 1 1 fun v9=>ZT 0 [(52,Z4 [-1])] (Kx 10 ge L.fst [-1] none fun v10=>Z2 2 (ZH 2 b [.h v2,.h v4,.h v6,.h v8,.h v10,.h gf,Z4 ln] (ie (az (ZL 5 [0] (iL (Z8 [-1]) 1 1 fun v11=>ZT 0 [(61,Z4 [-1])] (Kx 12 gf L.tok [-1] none fun v12=>Z2 2 (ZH 2 b [.h v2,.h v4,.h v6,.h v8,.h v10,.h v12,Z4 ln] (ie (r2 [0,10,8,6,4,2,0] [] ⟨v2,v4,v6,v8,v10,v12,rfl⟩ (lr _) (eq:=(rc (rv (xs:=(L.vars++[t])) ob (rv (xs:=(L.own++[o])) ob (rv (xs:=(L.par++[p])) ob (rv (xs:=(L.con++[-1])) ob (rv (xs:=(L.fst++[-1])) ob (rv (xs:=(L.tok++[-1])) ob rz))))))))))))))))))))))))))))))))))))))))
theorem Zdz (b:Nat) (ga:Hd) (gb:Hd) (gc:Hd) (gd:Hd) (ge:Hd) (gf:Hd) (L:Zu) (ln:LI) (hlb:L.vars.length<=1000000000:=by exact ob) (hlk:WH L:=by exact ob) (hln:ln.length<=4294967296:=by exact ob):Zj 283 [.p b 0] [.obj b [.h ga,.h gb,.h gc,.h gd,.h ge,.h gf,Z4 ln],rV ga L.vars,rV gb L.own,rV gc L.par,rV gd L.con,rV ge L.fst,rV gf L.tok] (fun r h=>∃(c:Nat) (wa:Hd) (wb:Hd) (wc:Hd) (wd:Hd) (we:Hd) (wf:Hd),r=.p c 0/\h=[.obj c [.h wa,.h wb,.h wc,.h wd,.h we,.h wf,Z4 ln],rV wa L.vars,rV wb L.own,rV wc L.par,rV wd L.con,rV we L.fst,rV wf L.tok,.obj b [.h ga,.h gb,.h gc,.h gd,.h ge,.h gf,Z4 ln],rV ga L.vars,rV gb L.own,rV gc L.par,rV gd L.con,rV ge L.fst,rV gf L.tok]):=by
 obtain ⟨e1,e2,e3,e4,e5⟩:=hlk
 refine ZE 40 Tryz.func283 (Zy (aD 38 (ZI 10 38 [0,1,2,3,5,6,7,8,10,11,12,13,15,16,17,18,20,21,22,23,25,26,27,28,30,31,32,33] [0,0,0,0,0,0,0] (Z9 4 (Tb 4 [1] [0,0,0,0,0,0] [b,b,b,b,b,b] [rV ga L.vars] (BS L.vars) JW (gL (v:=ga) 0 gN) (Uq Tf) ?_)))))
 rintro _ _ ⟨v1,rfl,rfl⟩
 refine Z9 9 (Tb 9 [3] [0,0,0,0,0] [b,b,b,b,b] [rV gb L.own] (BS L.own) JW (gL (v:=gb) 0 gN) (Uq Tf) ?_)
 rintro _ _ ⟨v2,rfl,rfl⟩
 refine Z9 14 (Tb 14 [5] [0,0,0,0] [b,b,b,b] [rV gc L.par] (BS L.par) JW (gL (v:=gc) 0 gN) (Uq Tf) ?_)
 rintro _ _ ⟨v3,rfl,rfl⟩
 refine Z9 19 (Tb 19 [7] [0,0,0] [b,b,b] [rV gd L.con] (BS L.con) JW (gL (v:=gd) 0 gN) (Uq Tf) ?_)
 rintro _ _ ⟨v4,rfl,rfl⟩
 refine Z9 24 (Tb 24 [9] [0,0] [b,b] [rV ge L.fst] (BS L.fst) JW (gL (v:=ge) 0 gN) (Uq Tf) ?_)
 rintro _ _ ⟨v5,rfl,rfl⟩
 refine Z9 29 (Tb 29 [11] [0] [b] [rV gf L.tok] (BS L.tok) JW (gL (v:=gf) 0 gN) (Uq Tf) ?_)
 rintro _ _ ⟨v6,rfl,rfl⟩
 refine Z9 34 (dc 34 [] [] [] (T2 ln) ?_)
 rintro _ _ ⟨v7,rfl,rfl⟩
 exact YA 2 3 [35] [(38,.agg [.h v1,.h v2,.h v3,.h v4,.h v5,.h v6,Z4 ln])] (Z9 36 (dA 36 [] [] [.h v1,.h v2,.h v3,.h v4,.h v5,.h v6,Z4 ln] fun b1=>Zh 0 1 [37] (de (ZB (r1 [0,11,9,7,5,3,1,7,6,5,4,3,2,1] ⟨b1,v1,v2,v3,v4,v5,v6,rfl,rfl⟩)))))
theorem GX (b:Nat) (ga:Hd) (gb:Hd) (gc:Hd) (gd:Hd) (ge:Hd) (gf:Hd) (L:Zu) (ln:LI) (i:Int) (hlk:WH L:=by exact ob) (hi:0<=i/\i<L.vars.length:=by exact ob) (hq:∀x∈L.own,0<=x/\x<=1000000000):Zj 207 [.p b 0,.i i] [.obj b [.h ga,.h gb,.h gc,.h gd,.h ge,.h gf,Z4 ln],rV ga L.vars,rV gb L.own,rV gc L.par,rV gd L.con,rV ge L.fst,rV gf L.tok] (fun r h=>(∃(wa:Hd) (wb:Hd) (wc:Hd) (wd:Hd) (we:Hd) (wf:Hd) (L':Zu),r=.b true/\h=[.obj b [.h wa,.h wb,.h wc,.h wd,.h we,.h wf,Z4 ln],rV wa L'.vars,rV wb L'.own,rV wc L'.par,rV wd L'.con,rV we L'.fst,rV wf L'.tok]/\UM L i=some L')∨(r=.b false/\h=[]/\UM L i=none)):=by
 obtain ⟨e1,e2,e3,e4,e5⟩:=hlk
 refine ZE 27 Tryz.func207 (Zy (Yk 5 [0] (Zp (Wg 2 gb L.own i i.toNat (hq:=rfl)) ?_)))
 obtain ⟨x1,Z3⟩:=Zs L.own i.toNat om
 have hxq:=hq _ (Y0 Z3)
 have hgi:=WS Z3
 refine V7 (VY 2 gb L.own i.toNat x1 Z3) (Y9 (x1<1) (fun Za=>?_) (fun Za=>?_))
 ·exact ar (Zo (r1 [] (.inr ⟨rfl,rfl,(by rw [UM,hgi,Ze Za])⟩)))
 exact ak (aD 15 (ZI 5 15 [0,1,2,3,4,5,6,7,8,9] [0,0] (dx 10 (Wg 2 gb L.own i i.toNat (hq:=rfl)) (Ue 11 (VY 2 gb L.own i.toNat x1 Z3) (da 12 ((x1-1)) ((x1)-(1)) (dx 13 (Wg 2 gb L.own i i.toNat (hq:=rfl)) (Z9 14 (An 14 2 [] [] gb L.own i.toNat (x1-1) (de (ar (Zo (r1 [1,1,0,0,0,0,0] (.inl ⟨ga,gb,gc,gd,ge,gf,(Zu.mk L.vars (L.own.set i.toNat (x1-1)) L.par L.con L.fst L.tok),rfl,rfl,(by rw [UM,hgi,Z7 Za])⟩) (eq:=(rc (rv (xs:=L.vars) ob (rv (xs:=(L.own.set i.toNat (x1-1))) ob (rv (xs:=L.par) ob (rv (xs:=L.con) ob (rv (xs:=L.fst) ob (rv (xs:=L.tok) ob rz))))))))))))))))))))
theorem GW (b:Nat) (ga:Hd) (gb:Hd) (gc:Hd) (gd:Hd) (ge:Hd) (gf:Hd) (L:Zu) (ln:LI) (i:Int) (hlk:WH L:=by exact ob) (hln:ln.length<=4294967296:=by exact ob) (hi:0<=i/\i<L.vars.length:=by exact ob) (hd:∀j:Int,0<=j->j<L.vars.length->gI L.par j<j):Zj 88 [.p b 0,.i i] [.obj b [.h ga,.h gb,.h gc,.h gd,.h ge,.h gf,Z4 ln],rV ga L.vars,rV gb L.own,rV gc L.par,rV gd L.con,rV ge L.fst,rV gf L.tok] (fun r h=>r=.b (Wd L ln i)/\h=[.obj b [.h ga,.h gb,.h gc,.h gd,.h ge,.h gf,Z4 ln],rV ga L.vars,rV gb L.own,rV gc L.par,rV gd L.con,rV ge L.fst,rV gf L.tok]):=by
 obtain ⟨e1,e2,e3,e4,e5⟩:=hlk
 refine ZE 31 Tryz.func88 (Zy (aq (ab 0 (Y4 (fun fz gz m F h=>∃(j:Int),(0<=j/\j<L.vars.length)/\(Ki L.own L.par ln (j.toNat+1) j=Wd L ln i)/\F=sF [0] fz [(1,.i j)]/\h=gz/\m=j.toNat) _ _ _ ⟨i,ob,ob,rfl,rfl,rfl⟩ (ZG 7 fl) ?_))))
 rintro m F h ⟨j,Ye,Zk,rfl,rfl,rfl⟩
 refine Yk 5 [0] (Zp (Wg 2 gb L.own j j.toNat (hq:=rfl)) ?_)
 obtain ⟨x1,Z3⟩:=Zs L.own j.toNat om
 have hg1:=WS Z3
 refine V7 (VY 2 gb L.own j.toNat x1 Z3) (Xv [0,1] [(21,.b ((decide (x1<1))&&(!(decide (j∈ln)))))] (fun gz=>gz) ?_ ?_)
 ·refine Z2 2 (ib (b:=(decide (x1<1))) 13 (fun Zb=>?_) (fun Zb=>?_))
  ·exact ZL 5 [0] (Zx [] (Ti ln j) (Z0 (ZG 7 (Zt (!(decide (j∈ln))) Zb fl))))
  exact Z0 (ZG 7 (Zt false Zb fl))
 refine ac ((decide (x1<1))&&(!(decide (j∈ln)))) (p:=(x1<1)/\(¬(j∈ln))) (YK dq (Yl dq)) (fun Za=>?_) (fun Za=>?_)
 ·refine ak (ab 1 (Zv 5 [0] (Zp (Wg 3 gc L.par j j.toNat (hq:=rfl)) ?_)))
  obtain ⟨x2,Zr⟩:=Zs L.par j.toNat om
  have hg2:=WS Zr
  have hdj:=hd j om om
  rw [hg2] at hdj
  refine V7 (VY 3 gc L.par j.toNat x2 Zr) (Z0 (ar (Y9 (x2<0) (fun Zg=>?_) (fun Zg=>?_))))
  ·exact ar (Zo (r2 [0,0,0,0,0,0,0] [.b false] ⟨rfl,rfl⟩ (lb (Nt hg1 hg2 Za Zg Zk))))
  exact ak (ZK ⟨x2,om,(Nu hg1 hg2 Ye Za Zg hd Zk),rfl,rfl,rfl⟩ (ZG 7 fl))
 exact ax 0 (ar (Zo (r2 [0,0,0,0,0,0,0] [.b true] ⟨rfl,rfl⟩ (lb (Nv hg1 Za Zk)))))
theorem LN (b:Nat) (ga:Hd) (gb:Hd) (gc:Hd) (gd:Hd) (ge:Hd) (gf:Hd) (L:Zu) (ln:LI) (mm:Nat) (hlk:WH L:=by exact ob) (hlb:L.vars.length<=1000000000:=by exact ob) (hm:mm<=L.vars.length:=by exact ob):Zj 171 [.p b 0,.i mm] [.obj b [.h ga,.h gb,.h gc,.h gd,.h ge,.h gf,Z4 ln],rV ga L.vars,rV gb L.own,rV gc L.par,rV gd L.con,rV ge L.fst,rV gf L.tok] (fun r h=>(∃(wa:Hd) (wb:Hd) (wc:Hd) (wd:Hd) (we:Hd) (wf:Hd) (L':Zu),r=.b true/\h=[.obj b [.h wa,.h wb,.h wc,.h wd,.h we,.h wf,Z4 ln],rV wa L'.vars,rV wb L'.own,rV wc L'.par,rV wd L'.con,rV we L'.fst,rV wf L'.tok]/\UE L mm=some L')∨(r=.b false/\h=[]/\UE L mm=none)):=by
 obtain ⟨e1,e2,e3,e4,e5⟩:=hlk
 refine ZE 88 Tryz.func171 (Zy (Ym (ab 0 (Y4 (fun fz gz m F h=>∃(k:Nat),(mm<=k/\k<=L.vars.length)/\(Va (L.own.drop k) (L.tok.drop k)=Va (L.own.drop mm) (L.tok.drop mm))/\F=sF [0,1] fz [(5,.i k)]/\h=gz/\m=L.vars.length-k) _ _ _ ⟨mm,ob,ob,rfl,rfl,rfl⟩ (ZG 7 fl) ?_))))
 rintro m F h ⟨k,Ye,Zk,rfl,rfl,rfl⟩
 refine Yk 5 [0] (Zp (JL 1 ga L.vars) (Y9 ((k:Int)<(L.vars.length:Int)) (fun Za=>?_) (fun Za=>?_)))
 ·refine ak (aq (ab 1 (Zv 5 [0] (Zp (Wg 2 gb L.own (k:Int) k) ?_))))
  obtain ⟨x1,Z3⟩:=Zs L.own k om
  refine V7 (VY 2 gb L.own k x1 Z3) (Z2 2 (ib (b:=(x1 != 0)) 24 (fun Zb=>?_) (fun Zb=>?_)))
  ·have ZY:x1≠0:=(Y3).1 Zb
   refine Z0 (W6 (Zy ?_))
   obtain ⟨y2,hy2⟩:=Zs L.tok k om
   exact ZB (r1 [] (.inr ⟨rfl,rfl,(by rw [UE,<-Zk,Y5 Z3,Y5 hy2,Va,Ze (show x1≠0∨0<=y2 by omega)];rfl)⟩))
  have Yi:¬(x1≠0):=Y6 Y3 Zb
  refine ZL 5 [0] (Zp (Wg 6 gf L.tok (k:Int) k) ?_)
  obtain ⟨x2,Zr⟩:=Zs L.tok k om
  refine V7 (VY 6 gf L.tok k x2 Zr) (Y9 (x2>=0) (fun Zg=>?_) (fun Zg=>?_))
  ·exact ar (Zo (r1 [] (.inr ⟨rfl,rfl,(by rw [UE,<-Zk,Y5 Z3,Y5 Zr,Va,Ze (show x1≠0∨0<=x2 by omega)];rfl)⟩)))
  exact ak (az (Z2 1 (ZJ k (Z0 (ZK ⟨k+1,ob,(by rw [Y5 Z3,Y5 Zr,Va,Z7 om] at Zk;exact Zk),rfl,rfl,rfl⟩ (ZG 7 (ZM k fl)))))))
 exact ax 0 (Zv 6 [0] (Zp (KL 1 ga L.vars mm) (Z2 2 (W8 (CG 1 mm ga L.vars) (ZH 1 b [.h (ga.cut mm),.h gb,.h gc,.h gd,.h ge,.h gf,Z4 ln] (ie (Zv 6 [0] (Zp (KL 2 gb L.own mm) (Z2 2 (W8 (CG 2 mm gb L.own) (ZH 1 b [.h (ga.cut mm),.h (gb.cut mm),.h gc,.h gd,.h ge,.h gf,Z4 ln] (ie (Zv 6 [0] (Zp (KL 3 gc L.par mm) (Z2 2 (W8 (CG 3 mm gc L.par) (ZH 1 b [.h (ga.cut mm),.h (gb.cut mm),.h (gc.cut mm),.h gd,.h ge,.h gf,Z4 ln] (ie (Zv 6 [0] (Zp (KL 4 gd L.con mm) (Z2 2 (W8 (CG 4 mm gd L.con) (ZH 1 b [.h (ga.cut mm),.h (gb.cut mm),.h (gc.cut mm),.h (gd.cut mm),.h ge,.h gf,Z4 ln] (ie (Zv 6 [0] (Zp (KL 5 ge L.fst mm) (Z2 2 (W8 (CG 5 mm ge L.fst) (ZH 1 b [.h (ga.cut mm),.h (gb.cut mm),.h (gc.cut mm),.h (gd.cut mm),.h (ge.cut mm),.h gf,Z4 ln] (ie (Zv 6 [0] (Zp (KL 6 gf L.tok mm) (Z2 2 (W8 (CG 6 mm gf L.tok) (ZH 1 b [.h (ga.cut mm),.h (gb.cut mm),.h (gc.cut mm),.h (gd.cut mm),.h (ge.cut mm),.h (gf.cut mm),Z4 ln] (ie (ar (Zo (r1 [0,5,4,3,2,1,0] (.inl ⟨(ga.cut mm),(gb.cut mm),(gc.cut mm),(gd.cut mm),(ge.cut mm),(gf.cut mm),(Zu.mk (L.vars.take mm) (L.own.take mm) (L.par.take mm) (L.con.take mm) (L.fst.take mm) (L.tok.take mm)),rfl,rfl,(by rw [UE,Ze (by rw [<-Zk,Xj om];rfl)];rfl)⟩) (eq:=(rc (rv (xs:=(L.vars.take mm)) ob (rv (xs:=(L.own.take mm)) ob (rv (xs:=(L.par.take mm)) ob (rv (xs:=(L.con.take mm)) ob (rv (xs:=(L.fst.take mm)) ob (rv (xs:=(L.tok.take mm)) ob rz)))))))))))))))))))))))))))))))))))))))))))))))
theorem Ze1 (b:Nat) (ga:Hd) (gb:Hd) (gc:Hd) (gd:Hd) (ge:Hd) (gf:Hd) (n:Zm) (s:Z5) (L:Zu) (ln:LI) (q:Int) (x:Int) (hn:X4 n:=by exact ob) (hk:Xd n.decls L q:=by exact ob) (hlb:L.vars.length<=1000000000:=by exact ob) (ha:s.args[0]? = some x:=by exact ob) (hx:0<=x/\x<L.vars.length:=by exact ob) (hq:0<=q/\q<=999999990:=by exact ob):Zj 208 [.p b 0,Yr n,YF s] [.obj b [.h ga,.h gb,.h gc,.h gd,.h ge,.h gf,Z4 ln],rV ga L.vars,rV gb L.own,rV gc L.par,rV gd L.con,rV ge L.fst,rV gf L.tok] (fun r h=>(∃(wa:Hd) (wb:Hd) (wc:Hd) (wd:Hd) (we:Hd) (wf:Hd) (L':Zu),r=.b true/\h=[.obj b [.h wa,.h wb,.h wc,.h wd,.h we,.h wf,Z4 ln],rV wa L'.vars,rV wb L'.own,rV wc L'.par,rV wd L'.con,rV we L'.fst,rV wf L'.tok]/\QY n.decls L s.op x=some L')∨(r=.b false/\h=[]/\QY n.decls L s.op x=none)):=by
 obtain ⟨e1,e2,e3,e4,e5⟩:=hk.len
 have Xz:=hn.decls
 have hal:=(Xq.1 ha).1
 obtain ⟨xcon,hxcon⟩:=Zs L.con ((x).toNat) om
 have hgcon:=WS hxcon
 obtain ⟨xtok,hxtok⟩:=Zs L.tok ((x).toNat) om
 have hgtok:=WS hxtok
 obtain ⟨xfst,hxfst⟩:=Zs L.fst ((x).toNat) om
 have hgfst:=WS hxfst
 have hfl:=Uu Xz xcon
 have har:=hk.arm x om om
 rw [hgcon,hgfst] at har
 refine ZE 105 Tryz.func208 (ar (iA (YZ n) fun b1=>iA (Xx s) fun b2=>Z0 (Zv 2 [0] (Zp (Zl none 0 1 (ZZ ha)) (Z0 (Yk 5 [2] (Zp (Wg 6 gd L.con x x.toNat (hq:=rfl)) (V7 (VY 6 gd L.con x.toNat xcon hxcon) (XD 23 [0,4,5,7] [(36,.b ((decide (xcon<0))||((s.op==17)&&(decide (xtok>=0)))))] (fun gz=>gz) ?_ (fun hj1=>?_))))))))))
 ·refine Z2 1 (ib (b:=((decide (xcon<0))||((s.op==17)&&(decide (xtok>=0))))) 37 (fun Zb=>?_) (fun Zb=>?_))
  ·have ZY:(xcon<0)∨((s.op=17)/\(xtok>=0)):=((Yh dq (YK Zq dq))).1 Zb
   exact Z0 (W6 (ar (Zo (r1 [] (.inr ⟨rfl,rfl,(by rw [QY,hgcon,hgtok,Ze om])⟩)))))
  have Yi:¬((xcon<0)∨((s.op=17)/\(xtok>=0))):=Y6 (Yh dq (YK Zq dq)) Zb
  refine Z2 2 (ic [2,2,2,2,2,2,2] (GX b ga gb gc gd ge gf L ln x (hlk:=hk.len) (hq:=(fun y hy=>⟨hk.nn y hy,by have:=hk.bd y hy;omega⟩))) ?_)
  rintro _ _ (⟨wa1,wb1,wc1,wd1,we1,wf1,L'1,rfl,rfl,YJ⟩|⟨rfl,rfl,YR⟩)
  ·obtain ⟨t1,t2,t3,t4,t5,t6,t7⟩:=KI YJ
   have hk1:=hk.take YJ
   obtain ⟨f1,f2,f3,f4,f5⟩:=hk1.len
   have hxcon1:L'1.con[x.toNat]? = some xcon:=by rw [t4];exact hxcon
   have hvl:L'1.vars.length=L.vars.length:=by rw [t2]
   have har2:=har om
   have hxfst1:L'1.fst[x.toNat]? = some xfst:=by rw [t5];exact hxfst
   refine Z0 (WE (ak (aD 11 (ZI 4 11 [0,1,2,3,4,5,6] [8,0] (dx 7 (Wg 4 wd1 L'1.con x x.toNat (hq:=rfl)) (Ue 8 (VY 4 wd1 L'1.con x.toNat xcon hxcon1) (Z9 9 (Yz 9 [] [] [] (JD n.decls xcon) (Zh 0 1 [10] (de (Ym (ab 0 (Y4 (fun fz gz m F h=>∃(k:Nat) (o:LI),(k<=(ZX n.decls xcon).length)/\(o.length=L.vars.length)/\(∀y∈o,0<=y/\y<=q+k)/\(Ts o (xfst+k) ((ZX n.decls xcon).drop k)=Ts L'1.own xfst (ZX n.decls xcon))/\F=sF [0,5,7,8] fz [(9,.i k)]/\h=[Zd gz 0,Zd gz 1,rV wb1 o,Zd gz 3,Zd gz 4,Zd gz 5,Zd gz 6,Zd gz 7]/\m=(ZX n.decls xcon).length-k) _ _ _ ⟨0,L'1.own,ob,om,(by intro y hy;have h1:=hk1.nn y hy;have h2:=hk1.bd y hy;omega),(by rw [show xfst+((0:Nat):Int)=xfst by omega,KM]),rfl,rfl,rfl⟩ (ZG 8 (Yb fl)) ?_)))))))))))))
   rintro m F h ⟨k,o,Ye,Zk,Zw,Yy,rfl,rfl,rfl⟩
   refine YP 2 (io (.i (((ZX n.decls xcon).length:Nat):Int)) (.i (((Z8 (ZX n.decls xcon)).length:Nat):Int)) (li (by rw [Ya])) (Y9 ((k:Int)<(((ZX n.decls xcon).length:Nat):Int)) (fun Za=>?_) (fun Za=>?_)))
   ·refine ak (aq (ab 1 (Y1 2 ?_)))
    obtain ⟨x1,Z3⟩:=Zs (ZX n.decls xcon) k om
    refine Zp (Zl none (k:Int) 1 (ZZ Z3)) (YD (x1 != 0) Y3 (fun Zg=>?_) (fun Zg=>?_))
    ·refine aE 31 (ZI 22 31 [0,1,2,3,4,5,6,7,8] [0,0] (dx 9 (Wg 5 we1 L'1.fst x x.toNat (hq:=rfl)) (Ue 10 (VY 5 we1 L'1.fst x.toNat xfst hxfst1) (Zh 19 20 [11] (da 12 ((xfst+(k:Int))) ((xfst)+((k:Int))) (ZI 9 18 [13,14,15,16,17,18,19,20,21] [0,0] (dx 22 (Wg 5 we1 L'1.fst x x.toNat (hq:=rfl)) (Ue 23 (VY 5 we1 L'1.fst x.toNat xfst hxfst1) (Zh 6 7 [24] (da 25 ((xfst+(k:Int))) ((xfst)+((k:Int))) (dx 26 (Wg 2 wb1 o (xfst+(k:Int)) ((xfst+(k:Int)).toNat) (hq:=rfl)) ?_)))))))))))
     obtain ⟨x2,Zr⟩:=Zs o ((xfst+(k:Int)).toNat) om
     have hy2:=Zw _ (Y0 Zr)
     exact Ue 27 (VY 2 wb1 o ((xfst+(k:Int)).toNat) x2 Zr) (da 28 ((x2+1)) ((x2)+(1)) (dx 29 (Wg 2 wb1 o (xfst+(k:Int)) ((xfst+(k:Int)).toNat) (hq:=rfl)) (Z9 30 (An 30 2 [] [] wb1 o ((xfst+(k:Int)).toNat) (x2+1) (de (az (Z2 1 (ZJ k (Z0 (ZK ⟨k+1,(o.set (xfst+(k:Nat)).toNat (x2+1)),ob,ob,(by intro y hy;first|(rcases J6 hy with hy|rfl<;>first|(have:=Zw y hy;omega)|omega)|(have:=Zw y hy;omega)),(by rw [Y5 Z3,Ts] at Yy;first|(rw [Ze Zg,WS Zr] at Yy;rw [show xfst+((k+1:Nat):Int)=xfst+k+1 by omega];exact Yy)|(rw [Z7 Zg] at Yy;rw [show xfst+((k+1:Nat):Int)=xfst+k+1 by omega];exact Yy)),rfl,rfl,rfl⟩ (wk [1,1,0,0,0,0,0,0] (ZM k fl) (e:=(rc (rc (rv (xs:=(o.set ((xfst+(k:Int)).toNat) (x2+1))) ob (rc (rc (rc (rc (rc rz))))))))))))))))))))
    exact ak (az (Z2 1 (ZJ k (Z0 (ZK ⟨k+1,o,ob,ob,(by intro y hy;first|(rcases J6 hy with hy|rfl<;>first|(have:=Zw y hy;omega)|omega)|(have:=Zw y hy;omega)),(by rw [Y5 Z3,Ts] at Yy;first|(rw [Ze Zg,WS Zr] at Yy;rw [show xfst+((k+1:Nat):Int)=xfst+k+1 by omega];exact Yy)|(rw [Z7 Zg] at Yy;rw [show xfst+((k+1:Nat):Int)=xfst+k+1 by omega];exact Yy)),rfl,rfl,rfl⟩ (ZG 8 (ZM k fl)))))))
   refine ax 0 (X7 (VX [7] (ac (s.op==17) Zq (fun ZD=>?_) (fun ZD=>?_))))
   ·refine az (ZL 6 [0] (io (.i (((ZX n.decls xcon).length:Nat):Int)) (.i (((Z8 (ZX n.decls xcon)).length:Nat):Int)) (li (by rw [Ya])) (Zp (Wg 6 wf1 L'1.tok x x.toNat (hq:=rfl)) (Cs 6 wf1 L'1.tok x.toNat (((ZX n.decls xcon).length:Nat):Int) (ie (Zy ?_))))))
    have hof:o=Ts L'1.own xfst (ZX n.decls xcon):=by rw [<-Yy,Xj om];rfl
    exact ZB (r1 [1,1,1,1,1,1,0] (.inl ⟨wa1,wb1,wc1,wd1,we1,wf1,(Zu.mk L'1.vars o L'1.par L'1.con L'1.fst (L'1.tok.set x.toNat (((ZX n.decls xcon).length:Nat):Int))),rfl,rfl,(by rw [QY,hgcon,hgfst,hgtok,Z7 om,YJ,hof,t6];simp [ZD,t2,t3,t4,t5])⟩) (eq:=(rc (rv (xs:=L'1.vars) ob (rv (xs:=o) ob (rv (xs:=L'1.par) ob (rv (xs:=L'1.con) ob (rv (xs:=L'1.fst) ob (rv (xs:=(L'1.tok.set x.toNat (((ZX n.decls xcon).length:Nat):Int))) ob rz)))))))))
   refine ak (Zy ?_)
   have hof:o=Ts L'1.own xfst (ZX n.decls xcon):=by rw [<-Yy,Xj om];rfl
   exact ZB (r1 [0,0,0,0,0,0,0] (.inl ⟨wa1,wb1,wc1,wd1,we1,wf1,(Zu.mk L'1.vars o L'1.par L'1.con L'1.fst L'1.tok),rfl,rfl,(by rw [QY,hgcon,hgfst,hgtok,Z7 om,YJ,hof,t6];simp [ZD,t2,t3,t4,t5])⟩) (eq:=(rc (rv (xs:=L'1.vars) ob (rv (xs:=o) ob (rv (xs:=L'1.par) ob (rv (xs:=L'1.con) ob (rv (xs:=L'1.fst) ob (rv (xs:=L'1.tok) ob rz)))))))))
  exact Z0 (W6 (ar (Zo (r1 [] (.inr ⟨rfl,rfl,(by rw [QY,hgcon,hgtok,Z7 om,YR])⟩)))))
 refine Z2 2 (ib (b:=(decide (xcon<0))) 22 (fun Zz=>?_) (fun Zz=>?_))
 ·have Xk:xcon<0:=(dq).1 Zz
  exact Z2 14 (Yp (ZG 9 (Zt true Zz fl)) hj1)
 have XX:¬(xcon<0):=Y6 dq Zz
 refine ZL 4 [0] (ib (b:=(s.op==17)) 26 (fun Yo=>?_) (fun Yo=>?_))
 ·have WA:s.op=17:=(Zq).1 Yo
  exact ZL 5 [2] (Zp (Wg 8 gf L.tok x x.toNat (hq:=rfl)) (V7 (VY 8 gf L.tok x.toNat xtok hxtok) (Z2 3 (Yp (ZG 9 (Zt (decide (xtok>=0)) (And.intro Zz Yo) fl)) hj1))))
 have WY:¬(s.op=17):=Y6 Zq Yo
 exact Z2 10 (Yp (ZG 9 (Zt false (And.intro Zz Yo) fl)) hj1)
theorem Ze0 (b:Nat) (ga:Hd) (gb:Hd) (gc:Hd) (gd:Hd) (ge:Hd) (gf:Hd) (n:Zm) (s:Z5) (L:Zu) (ln:LI) (q:Int) (hn:X4 n:=by exact ob) (hnum:s.op=9->0<=s.num/\s.num<n.routines.length:=by exact ob) (hk:Xd n.decls L q:=by exact ob) (hlb:L.vars.length<=1000000000:=by exact ob) (hargs:∀a∈s.args,0<=a/\a<L.vars.length) (hinto:0<s.into->s.into<=L.vars.length:=by exact ob) (hal:s.args.length<=1000000000:=by exact ob) (hln:ln.length<=4294967296:=by exact ob) (hq:0<=q/\q<=999999990:=by exact ob):Zj 210 [.p b 0,Yr n,YF s] [.obj b [.h ga,.h gb,.h gc,.h gd,.h ge,.h gf,Z4 ln],rV ga L.vars,rV gb L.own,rV gc L.par,rV gd L.con,rV ge L.fst,rV gf L.tok] (fun r h=>(∃(wa:Hd) (wb:Hd) (wc:Hd) (wd:Hd) (we:Hd) (wf:Hd) (L':Zu),r=.b true/\h=[.obj b [.h wa,.h wb,.h wc,.h wd,.h we,.h wf,Z4 ln],rV wa L'.vars,rV wb L'.own,rV wc L'.par,rV wd L'.con,rV we L'.fst,rV wf L'.tok]/\UZ n ln L s.op s.num s.into s.args=some L')∨(r=.b false/\h=[]/\UZ n ln L s.op s.num s.into s.args=none)):=by
 obtain ⟨e1,e2,e3,e4,e5⟩:=hk.len
 refine ZE 79 Tryz.func210 (ar (iA (YZ n) fun b1=>iA (Xx s) fun b2=>?_))
 refine Z0 (Ym (ab 0 (Y4 (fun fz gz m F h=>∃(k:Nat) (L2:Zu) (ka:Hd) (kb:Hd) (kc:Hd) (kd:Hd) (ke:Hd) (kf:Hd),(k<=s.args.length)/\(Xd n.decls L2 q)/\(L2.vars=L.vars)/\(QK n s.op s.num (s.args.drop k) k L2=QK n s.op s.num s.args 0 L)/\F=sF [0,4,5] fz [(7,.i k)]/\h=[Zd gz 0,Zd gz 1,.obj b [.h ka,.h kb,.h kc,.h kd,.h ke,.h kf,Z4 ln],rV ka L2.vars,rV kb L2.own,rV kc L2.par,rV kd L2.con,rV ke L2.fst,rV kf L2.tok]/\m=s.args.length-k) _ _ _ ⟨0,L,ga,gb,gc,gd,ge,gf,ob,hk,ob,ob,rfl,rfl,rfl⟩ (ZG 9 (Yb fl)) ?_)))
 rintro m F h ⟨k,L2,ka,kb,kc,kd,ke,kf,Ye,Zk,Zw,Yy,rfl,rfl,rfl⟩
 refine Yk 3 [0] (iw (Ya s.args) (Y9 ((k:Int)<(s.args.length:Int)) (fun Za=>?_) (fun Za=>?_)))
 ·obtain ⟨a1,ha1⟩:=Zs s.args k om
  obtain ⟨e6,e7,e8,e9,e10⟩:=Zk.len
  have hav:=hargs a1 (Y0 ha1)
  have hvl:L2.vars.length=L.vars.length:=by rw [Zw]
  refine ak (aq (ab 1 (aD 18 (ZI 11 18 [0,1,2,3,4,5,6] [1,2,0] (Z9 7 (Tb 7 [3] [] [] [rV ka L2.vars] (Ht n L2.vars s k a1 (ha:=ha1)) CY (gS (gL (v:=ka) 0 (gS (gS gN)))) (Uq Tf) ?_))))))
  rintro _ _ ⟨rfl,rfl⟩
  refine Zh 9 10 [8] (db (b:=Q4 n L2.vars s.op s.num a1 k) 24 (fun Zb=>?_) (fun Zb=>?_))
  ·have ZY:Q4 n L2.vars s.op s.num a1 k=true:=(Iff.rfl).1 Zb
   refine ZI 5 9 [9,10,11,12] [1] (dx 13 (Zl none (k:Int) 1 (ZZ ha1)) (Zh 3 4 [14] (Z9 15 (dc 15 [3,0,2,2,2,2,2] [] [] (GX b ka kb kc kd ke kf L2 ln a1 (hlk:=Zk.len) (hq:=(fun y hy=>⟨Zk.nn y hy,by have:=Zk.bd y hy;omega⟩))) ?_))))
   rintro _ _ (⟨wa1,wb1,wc1,wd1,we1,wf1,L'1,rfl,rfl,Yi⟩|⟨rfl,rfl,YJ⟩)
   ·obtain ⟨t1,t2,t3,t4,t5,t6,t7⟩:=KI Yi
    have hk2:=Zk.take Yi
    exact Zh 0 2 [16,17] (de (WE (ak (az (Z2 1 (ZJ k (Z0 (ZK ⟨k+1,L'1,wa1,wb1,wc1,wd1,we1,wf1,ob,hk2,(t2.trans Zw),(by rw [Y5 ha1,QK,Ze ZY] at Yy;simp only [Yi] at Yy;exact Yy),rfl,rfl,rfl⟩ (wk [7,7,0,0,0,0,0,0,0] (ZM k fl))))))))))
   exact Zh 0 2 [16,17] (de (W6 (ar (Zo (r1 [] (.inr ⟨rfl,rfl,(by rw [UZ,<-Yy,Y5 ha1,QK,Ze ZY,YJ])⟩))))))
  have YR:¬(Q4 n L2.vars s.op s.num a1 k=true):=Y6 Iff.rfl Zb
  exact Zh 0 9 [9,10,11,12,13,14,15,16,17] (de (WE (ak (az (Z2 1 (ZJ k (Z0 (ZK ⟨k+1,L2,ka,kb,kc,kd,ke,kf,ob,Zk,Zw,(by rw [Y5 ha1,QK,Z7 YR] at Yy;exact Yy),rfl,rfl,rfl⟩ (wk [1,1,1,0,0,0,0,0,0] (ZM k fl))))))))))
 have hT:QK n s.op s.num s.args 0 L=some L2:=by rw [<-Yy,Xj om];rfl
 obtain ⟨e6,e7,e8,e9,e10⟩:=Zk.len
 have hvl:L2.vars.length=L.vars.length:=by rw [Zw]
 refine ax 0 (Ym (ab 2 (Y4 (fun fz gz m F h=>∃(j:Nat),(j<=s.args.length)/\(Jv n s.op s.num ln L2 (s.args.drop j) j=Jv n s.op s.num ln L2 s.args 0)/\F=sF [0,4,5] fz [(8,.i j)]/\h=gz/\m=s.args.length-j) _ _ _ ⟨0,ob,ob,rfl,rfl,rfl⟩ (ZG 9 (Yb fl)) ?_)))
 rintro m F h ⟨j,U7,XO,rfl,rfl,rfl⟩
 refine Yk 3 [0] (iw (Ya s.args) (Y9 ((j:Int)<(s.args.length:Int)) (fun Zg=>?_) (fun Zg=>?_)))
 ·obtain ⟨a2,ha2⟩:=Zs s.args j om
  have hav:=hargs a2 (Y0 ha2)
  refine ak (aq (ab 3 (Zv 3 [1,0] (Zx [] (Fh n s j) (Xv [0,4,5,8] [(54,.b (WV n s.op s.num j&&(!Wd L2 ln a2)))] (fun gz=>[Zd gz 2,Zd gz 3,Zd gz 4,Zd gz 5,Zd gz 6,Zd gz 7,Zd gz 8,Zd gz 0,Zd gz 1]) ?_ ?_)))))
  ·refine Z2 1 (ib (b:=WV n s.op s.num j) 45 (fun Zz=>?_) (fun Zz=>?_))
   ·exact ZL 4 [0] (Zp (Zl none (j:Int) 1 (ZZ ha2)) (Z2 1 (Zx [2,2,2,2,2,2,2] (GW b ka kb kc kd ke kf L2 ln a2 (hlk:=Zk.len) (hd:=Zk.down)) (Z0 (ZG 9 (Zt (!Wd L2 ln a2) Zz fl))))))
   exact Z0 (wk [2,2,2,2,2,2,2,0,0] (Zt false Zz fl))
  refine ac (WV n s.op s.num j&&(!Wd L2 ln a2)) (p:=(WV n s.op s.num j=true)/\(¬(Wd L2 ln a2=true))) (YK Iff.rfl (Yl Iff.rfl)) (fun ZD=>?_) (fun ZD=>?_)
  ·refine Zy ?_
   have hA:Jv n s.op s.num ln L2 s.args 0=false:=by rw [<-XO,Y5 ha2,Jv,Ze ZD]
   exact ZB (r1 [] (.inr ⟨rfl,rfl,(by rw [UZ,hT];simp only [hA];rfl)⟩))
  exact ak (az (Z2 1 (ZJ j (Z0 (ZK ⟨j+1,ob,(by rw [Y5 ha2,Jv,Z7 ZD] at XO;exact XO),rfl,rfl,rfl⟩ (wk [7,7,0,0,0,0,0,0,0] (ZM j fl)))))))
 have hA:Jv n s.op s.num ln L2 s.args 0=true:=by rw [<-XO,Xj om];rfl
 refine ax 2 (X7 (VX [0] (XB (s.into>0) (fun Yj=>?_) (fun Yj=>?_))))
 ·obtain ⟨xt,hxt⟩:=Zs L2.tok ((s.into-1).toNat) (by have:=hinto Yj;omega)
  have hgt:=WS hxt
  refine aq (aD 13 (ZI 7 13 [0,1,2,3,4,5] [2,0] (da 6 ((s.into-1)) ((s.into)-(1)) (dx 7 (Wg 8 kf L2.tok (s.into-1) ((s.into-1).toNat) (hq:=rfl)) (Ue 8 (VY 8 kf L2.tok ((s.into-1).toNat) xt hxt) (ZI 2 4 [9,10] [0] (dw 11 (Ya s.args) (Zh 0 1 [12] (de (ac (xt != (s.args.length:Int)) Y3 (fun Xh=>?_) (fun Xh=>?_)))))))))))
  ·exact ar (Zo (r1 [] (.inr ⟨rfl,rfl,(by rw [UZ,hT];simp only [hA,↓reduceIte];rw [Jw,Ze Yj,hgt,Ze Xh])⟩)))
  exact ak (aE 9 (ZI 3 9 [0,1,2,3,4,5] [2,0] (da 6 ((s.into-1)) ((s.into)-(1)) (dx 7 (Wg 8 kf L2.tok (s.into-1) ((s.into-1).toNat) (hq:=rfl)) (Z9 8 (An 8 8 [] [] kf L2.tok ((s.into-1).toNat) (-1) (de (ar (Zo (r1 [3,3,3,3,3,3,0] (.inl ⟨ka,kb,kc,kd,ke,kf,(Zu.mk L2.vars L2.own L2.par L2.con L2.fst (L2.tok.set ((s.into-1).toNat) (-1))),rfl,rfl,(by rw [UZ,hT];simp only [hA,↓reduceIte];rw [Jw,Ze Yj,hgt,Z7 Xh])⟩) (eq:=(rc (rv (xs:=L2.vars) ob (rv (xs:=L2.own) ob (rv (xs:=L2.par) ob (rv (xs:=L2.con) ob (rv (xs:=L2.fst) ob (rv (xs:=(L2.tok.set ((s.into-1).toNat) (-1))) ob rz))))))))))))))))))
 exact ak (ar (Zo (r1 [2,2,2,2,2,2,2] (.inl ⟨ka,kb,kc,kd,ke,kf,L2,rfl,rfl,(by rw [UZ,hT];simp only [hA,↓reduceIte];rw [Jw,Z7 Yj])⟩))))
theorem Z9g (b:Z6) (t:Int) (hz:b.sz<=1000000) (ih:∀(b2:Z6) (t:Int),(b2.sz<=1000000)->(b2.sz<b.sz)->Zj 231 [Y7 b2,.i t] [] (fun r h=>∃(wr:Bool),r=.b wr/\h=[])):Zj 231 [Y7 b,.i t] [] (fun r h=>∃(wr:Bool),r=.b wr/\h=[]):=by
 have ZO:=T3 b
 have hbl:=JG b.steps
 have hbe:=b.sz_eq
 refine ZE 53 Tryz.func231 (ar (iA (Xs b) fun b1=>?_))
 refine Z0 (Ym (ab 0 (Y4 (fun fz gz m F h=>∃(k:Nat),(k<=b.steps.length)/\F=sF [1,2] fz [(5,.i k)]/\h=gz/\m=b.steps.length-k) _ _ _ ⟨0,ob,rfl,rfl,rfl⟩ (wk [0] (Yb fl)) ?_)))
 rintro m F h ⟨k,Ye,rfl,rfl,rfl⟩
 refine Yk 3 [0] (iw (VR b.steps) (Y9 ((k:Int)<(b.steps.length:Int)) (fun Za=>?_) (fun Za=>?_)))
 ·refine ak (aq (ab 1 (Yk 3 [0] ?_)))
  obtain ⟨x1,Z3⟩:=Zs b.steps k om
  have hxs:=MS (Y0 Z3)
  have hxe:=(x1).sz_eq
  have hxk:=Te x1
  refine Zp (Zl none (k:Int) 5 (VK Z3)) (Xv [1,2,5] [(30,.b ((x1.op==10)&&(x1.num==t)))] (fun gz=>gz) ?_ ?_)
  ·refine Z2 4 (ib (b:=(x1.op==10)) 21 (fun Zb=>?_) (fun Zb=>?_))
   ·exact ZL 3 [0] (Zp (Zl none (k:Int) 5 (VK Z3)) (Z0 (wk [0] (Zt (x1.num==t) Zb fl))))
   exact Z0 (wk [0] (Zt false Zb fl))
  refine ac ((x1.op==10)&&(x1.num==t)) (p:=(x1.op=10)/\(x1.num=t)) (YK Zq Zq) (fun Zg=>?_) (fun Zg=>?_)
  ·exact ar (Zo (r1 [] ⟨true,rfl,rfl⟩))
  refine ak (Zy (ab 2 (Y4 (fun fz gz m F h=>∃(j:Nat),(j<=x1.kids.length)/\F=sF [1,2,5] fz [(6,.i j)]/\h=gz/\m=x1.kids.length-j) _ _ _ ⟨0,ob,rfl,rfl,rfl⟩ (wk [0] (Yb fl)) ?_)))
  rintro m F h ⟨j,U7,rfl,rfl,rfl⟩
  refine Yk 4 [0] (Zp (Zl none (k:Int) 5 (VK Z3)) (Z2 2 (iw (U8 x1.kids) (Y9 ((j:Int)<(x1.kids.length:Int)) (fun ZD=>?_) (fun ZD=>?_)))))
  ·refine ak (aq (ab 3 (Zv 3 [0] (Zp (Zl none (k:Int) 5 (VK Z3)) (Z2 3 ?_)))))
   obtain ⟨x2,Zr⟩:=Zs x1.kids j om
   have hkx:=Ia (Y0 Zr)
   refine Zp (Zl none (j:Int) 2 (UV Zr)) (Z2 2 (ic [] (ih x2 t ob ob) ?_))
   rintro _ _ ⟨wr1,rfl,rfl⟩
   refine ie (ac wr1 Iff.rfl (fun Yj=>?_) (fun Yj=>?_))
   ·exact ar (Zo (r1 [] ⟨true,rfl,rfl⟩))
   exact ak (az (Z2 1 (ZJ j (Z0 (ZK ⟨j+1,ob,rfl,rfl,rfl⟩ (wk [0] (ZM j fl)))))))
  exact ax 2 (az (Z2 1 (ZJ k (Z0 (ZK ⟨k+1,ob,rfl,rfl,rfl⟩ (wk [0] (ZM k fl)))))))
 exact ax 0 (ar (Zo (r1 [] ⟨false,rfl,rfl⟩)))
theorem Z9f (b:Z6) (t:Int) (hz:b.sz<=1000000:=by exact ob):Zj 231 [Y7 b,.i t] [] (fun r h=>∃(wr:Bool),r=.b wr/\h=[]):=by
 have key:∀k:Nat,∀(b2:Z6) (t:Int),(b2.sz<=1000000)->(b2.sz<k)->Zj 231 [Y7 b2,.i t] [] (fun r h=>∃(wr:Bool),r=.b wr/\h=[]):=by
  intro k
  induction k with
  | zero=>intro b2 t h1 h2;omega
  | succ k ih=>intro b2 t h1 h2;exact Z9g b2 t h1 fun b3 t3 q1 q2=>ih b3 t3 q1 om
 exact key (b.sz+1) b t hz om
theorem Z9z (n:Zm) (t:Int) (qz:Nat) (hn:FN n qz:=by exact ob) (hqz:qz<=100000:=by exact ob):Zj 188 [Yr n,.i t] [] (fun r h=>∃(wr:Bool),r=.b wr/\h=[]):=by
 have hnl:=hn.len
 refine ZE 21 Tryz.func188 (ar (iA (YZ n) fun b1=>?_))
 refine Z0 (Ym (ab 0 (Y4 (fun fz gz m F h=>∃(k:Nat),(k<=n.routines.length)/\F=sF [1,2] fz [(5,.i k)]/\h=gz/\m=n.routines.length-k) _ _ _ ⟨0,ob,rfl,rfl,rfl⟩ (wk [0] (Yb fl)) ?_)))
 rintro m F h ⟨k,Ye,rfl,rfl,rfl⟩
 refine Yk 3 [0] (iw (U9 n.routines) (Y9 ((k:Int)<(n.routines.length:Int)) (fun Za=>?_) (fun Za=>?_)))
 ·refine ak (aq (ab 1 (Zv 3 [0] ?_)))
  obtain ⟨x1,Z3⟩:=Zs n.routines k om
  have hbz:=(hn.body _ (Y0 Z3)).2
  refine Zp (Zl none (k:Int) 5 (WR Z3)) (Z2 3 (ic [] (Z9f x1.body t) ?_))
  rintro _ _ ⟨wr1,rfl,rfl⟩
  refine ie (ac wr1 Iff.rfl (fun Zg=>?_) (fun Zg=>?_))
  ·exact ar (Zo (r1 [] ⟨true,rfl,rfl⟩))
  exact ak (az (Z2 1 (ZJ k (Z0 (ZK ⟨k+1,ob,rfl,rfl,rfl⟩ (wk [0] (ZM k fl)))))))
 exact ax 0 (ar (Zo (r1 [] ⟨false,rfl,rfl⟩)))
theorem Pv (fs:LI) (q:Nat) (hl:fs.length<=1000000:=by exact ob) (hq:q<=1000000:=by exact ob):Zj 189 [Z4 fs,.i q] [] (fun r h=>∃(xs:LI),r=Z4 xs/\h=[]/\xs.length<=fs.length/\∀i∈xs,(q:Int)<=i/\i<(q:Int)+fs.length):=by
 refine ZE 26 Tryz.func189 (Zy (ar (iL (Z8 []) 0 1 fun v1=>?_)))
 refine Z0 (Ym (ab 0 (Y4 (fun fz gz m F h=>∃(k:Nat) (ys:LI) (u:Value),(k<=fs.length)/\(ys.length<=k)/\(∀i∈ys,(q:Int)<=i/\i<(q:Int)+fs.length)/\F=sF [0,1] fz [(5,ZQ ys u),(6,.i k)]/\h=[.tail u 1]/\m=fs.length-k) _ _ _ ⟨0,[],v1,ob,ob,(fun i hi=>by cases hi),rfl,rfl,rfl⟩ (wk [0] (fr (Yb fl))) ?_)))
 rintro m F h ⟨k,ys,u,Ye,Zk,Zw,rfl,rfl,rfl⟩
 refine YP 2 (iw (Ya fs) (Y9 ((k:Int)<(fs.length:Int)) (fun Za=>?_) (fun Za=>?_)))
 ·refine ak (aq (ab 1 (Y1 2 ?_)))
  obtain ⟨x1,Z3⟩:=Zs fs k om
  refine Zp (Zl none (k:Int) 1 (ZZ Z3)) (YD (x1 != 0) Y3 (fun Zg=>?_) (fun Zg=>?_))
  ·exact az (Z2 3 (ia (((q+k:Nat):Int)) (((q:Int))+((k:Int))) (iL (Z8 [((q+k:Nat):Int)]) 1 1 fun v2=>ZT 0 [(23,Z4 [((q+k:Nat):Int)])] (ip 1 (Z8 (ys++[((q+k:Nat):Int)])) (Z8 ys) (Z8 [((q+k:Nat):Int)]) u none 1 (YL _) (YL _) (Ww _) (by simp<;>omega) (by simp [Wv,Z8]) fun v3=>Z0 (az (Z2 1 (ZJ k (Z0 (ZK ⟨k+1,(ys++[((q+k:Nat):Int)]),v3,ob,ob,(XS Zw om),rfl,rfl,rfl⟩ (wk [0] (fr (ZM k fl))))))))))))
  exact ak (az (Z2 1 (ZJ k (Z0 (ZK ⟨k+1,ys,u,ob,ob,ob,rfl,rfl,rfl⟩ (wk [0] (fr (ZM k fl))))))))
 exact ax 0 (ar (Zo (r2 [] [ZQ ys u] ⟨ys,rfl,rfl,⟨by omega,Zw⟩⟩ (Zc.forget _ _))))
theorem Pp (n:Zm) (qz:Nat) (hn:FN n qz:=by exact ob) (hqz:qz<=100000:=by exact ob):Zj 136 [Yr n] [] (fun r h=>∃(xs:List LI),r=KA xs/\h=[]/\LC n n.routines.length xs):=by
 have hnl:=hn.len
 refine ZE 31 Tryz.func136 (ar (iA (YZ n) fun b1=>Z0 (ar (iL (Wq []) 0 1 fun v1=>?_))))
 refine Z0 (Ym (ab 0 (Y4 (fun fz gz m F h=>∃(k:Nat) (ys:List LI) (u:Value),(k<=n.routines.length)/\(ys.length=k)/\(LC n k ys)/\F=sF [1] fz [(3,BL ys u),(4,.i k)]/\h=[Zd gz 1,.tail u 1]/\m=n.routines.length-k) _ _ _ ⟨0,[],v1,ob,ob,LC.nil,rfl,rfl,rfl⟩ (wk [1,0] (fr (Yb fl))) ?_)))
 rintro m F h ⟨k,ys,u,Ye,Zk,Zw,rfl,rfl,rfl⟩
 refine Yk 3 [0] (iw (U9 n.routines) (Y9 ((k:Int)<(n.routines.length:Int)) (fun Za=>?_) (fun Za=>?_)))
 ·refine ak (aq (ab 1 (Zv 2 [0] (ic [] (Z9z n (k:Int) qz) ?_))))
  rintro _ _ ⟨wr1,rfl,rfl⟩
  refine ie (ac wr1 Iff.rfl (fun Zg=>?_) (fun Zg=>?_))
  ·exact az (Z2 1 (iL (Z8 []) 0 1 fun v2=>ZT 0 [(17,Z4 [])] (iL (Wq [[]]) 1 1 fun v3=>ZT 0 [(18,KA [[]])] (ip 3 (Wq (ys++[[]])) (Wq ys) (Wq [[]]) u none 1 (BB _) (BB _) (FZ _) (by simp<;>omega) (by simp [IL,Wq]) fun v4=>Z0 (az (Z2 1 (ZJ k (Z0 (ZK ⟨k+1,(ys++[[]]),v4,ob,ob,(Zw.snoc (by simp) (fun r hr v hv=>by cases hv)),rfl,rfl,rfl⟩ (wk [3,0] (fr (ZM k fl))))))))))))
  refine az (ZL 4 [0] ?_)
  obtain ⟨x1,Z3⟩:=Zs n.routines k om
  have hrp:=(FN.ok hn).params_at Z3
  have hss:=(Qh.bd (f:=⟨(x1).params,(x1).result,default⟩) (hn.sigs _ (Y0 Z3))).1
  refine Zp (Zl none (k:Int) 5 (WR Z3)) (Z2 2 (ic [] (Pv x1.params 0) ?_))
  rintro _ _ ⟨xs1,rfl,rfl,ZY⟩
  have hhf:=ZY
  exact iL (Wq [xs1]) 1 1 fun v5=>ZT 0 [(28,KA [xs1])] (ip 2 (Wq (ys++[xs1])) (Wq ys) (Wq [xs1]) u none 1 (BB _) (BB _) (FZ _) (by simp<;>omega) (by simp [IL,Wq]) fun v6=>Z0 (az (Z2 1 (ZJ k (Z0 (ZK ⟨k+1,(ys++[xs1]),v6,ob,ob,(Zw.snoc om (fun r hr v hv=>by rw [Z3] at hr;cases hr;have:=hhf.2 v hv;omega)),rfl,rfl,rfl⟩ (wk [2,0] (fr (ZM k fl)))))))))
 exact ax 0 (ar (Zo (r2 [] [BL ys u] ⟨ys,rfl,rfl,(by rw [show n.routines.length=k by omega];exact Zw)⟩ (Zc.forget _ _))))
theorem Z9j (n:Zm) (b:Z6) (t:Int) (mq:Nat) (hn:X4 n) (hf:fB n.decls n.routines.length mq b) (hz:b.sz<=1000000) (ih:∀(b2:Z6) (t:Int) (m2:Nat),(fB n.decls n.routines.length m2 b2)->(b2.sz<=1000000)->(b2.sz<b.sz)->Zj 190 [Yr n,Y7 b2,.i t] [] (fun r h=>∃(wr:Bool),r=.b wr/\h=[])):Zj 190 [Yr n,Y7 b,.i t] [] (fun r h=>∃(wr:Bool),r=.b wr/\h=[]):=by
 have hbl:=JG b.steps
 have hbe:=b.sz_eq
 refine ZE 68 Tryz.func190 (ar (iA (YZ n) fun b1=>iA (Xs b) fun b2=>Z0 (X7 (VX [0] (ac (b.result==t) Zq (fun Za=>?_) (fun Za=>?_))))))
 ·exact ar (Zo (r1 [] ⟨true,rfl,rfl⟩))
 refine ak (Ym (ab 0 (Y4 (fun fz gz m F h=>∃(k:Nat),(k<=b.steps.length)/\F=sF [2,3,4] fz [(7,.i k)]/\h=gz/\m=b.steps.length-k) _ _ _ ⟨0,ob,rfl,rfl,rfl⟩ (wk [0,0] (Yb fl)) ?_)))
 rintro m F h ⟨k,Ye,rfl,rfl,rfl⟩
 refine Yk 3 [0] (iw (VR b.steps) (Y9 ((k:Int)<(b.steps.length:Int)) (fun Zg=>?_) (fun Zg=>?_)))
 ·refine ak (aq (ab 1 (Zv 3 [0] ?_)))
  obtain ⟨x1,Z3⟩:=Zs b.steps k om
  have hfs:=(IW x1).1 (G8 ((G6 b).1 hf).1 Z3)
  have hxs:=MS (Y0 Z3)
  have hxe:=(x1).sz_eq
  have hxk:=Te x1
  refine Zp (Zl none (k:Int) 5 (VK Z3)) (Z2 1 (iA [.i 0,.i 0,.i 0,nl,nl] fun b3=>?_))
  refine ZH 0 b3 (Xx x1) (ie (Ym (ab 2 (Y4 (fun fz gz m F h=>∃(j:Nat),(j<=x1.args.length)/\F=sF [2,3,4,7,8] fz [(9,.i j)]/\h=gz/\m=x1.args.length-j) _ _ _ ⟨0,ob,rfl,rfl,rfl⟩ (ZG 3 (Yb fl)) ?_))))
  rintro m F h ⟨j,U7,rfl,rfl,rfl⟩
  refine Yk 3 [0] (iw (Ya x1.args) (Y9 ((j:Int)<(x1.args.length:Int)) (fun ZD=>?_) (fun ZD=>?_)))
  ·refine ak (aq (ab 3 (Zv 3 [0] ?_)))
   obtain ⟨x2,Zr⟩:=Zs x1.args j om
   refine Zp (Zl none (j:Int) 1 (ZZ Zr)) (XD 12 [2,3,4,7,8,9] [(45,.b ((x2==t)&&Ta x1.op))] (fun gz=>gz) ?_ (fun hj1=>?_))
   ·refine Xv [2,3,4,7,8,9] [(52,.b (((x2==t)&&Ta x1.op)&&(!WV n x1.op x1.num j)))] (fun gz=>gz) ?_ ?_
    ·refine Z2 1 (ib (b:=((x2==t)&&Ta x1.op)) 46 (fun Zb=>?_) (fun Zb=>?_))
     ·exact ZL 3 [2,0] (Zx [] (Fh n x1 j (hnum:=hfs.call)) (Z0 (ZG 3 (Zt (!WV n x1.op x1.num j) Zb fl))))
     exact Z0 (ZG 3 (Zt false Zb fl))
    refine ac (((x2==t)&&Ta x1.op)&&(!WV n x1.op x1.num j)) (p:=((x2=t)/\(Ta x1.op=true))/\(¬(WV n x1.op x1.num j=true))) (YK (YK Zq Iff.rfl) (Yl Iff.rfl)) (fun Yj=>?_) (fun Yj=>?_)
    ·exact ar (Zo (r1 [] ⟨true,rfl,rfl⟩))
    exact ak (az (Z2 1 (ZJ j (Z0 (ZK ⟨j+1,ob,rfl,rfl,rfl⟩ (ZG 3 (ZM j fl)))))))
   refine Z2 4 (ib (b:=(x2==t)) 41 (fun Zz=>?_) (fun Zz=>?_))
   ·exact ZL 2 [0] (Zx [] (Z1n x1.op) (Z2 1 (Yp (ZG 3 (Zt (Ta x1.op) Zz fl)) hj1)))
   exact Z2 4 (Yp (ZG 3 (Zt false Zz fl)) hj1)
  refine ax 2 (Zy (ab 4 (Y4 (fun fz gz m F h=>∃(j:Nat),(j<=x1.kids.length)/\F=sF [2,3,4,7,8] fz [(10,.i j)]/\h=gz/\m=x1.kids.length-j) _ _ _ ⟨0,ob,rfl,rfl,rfl⟩ (ZG 3 (Yb fl)) ?_)))
  rintro m F h ⟨j,Z59,rfl,rfl,rfl⟩
  refine Yk 3 [0] (iw (U8 x1.kids) (Y9 ((j:Int)<(x1.kids.length:Int)) (fun Xh=>?_) (fun Xh=>?_)))
  ·refine ak (aq (ab 5 (aD 8 (ZI 4 8 [0,1,2,3] [2,0] ?_))))
   obtain ⟨x3,YG⟩:=Zs x1.kids j om
   have hkx:=Ia (Y0 YG)
   have hfk:=G7 hfs.kids YG
   refine dx 4 (Zl none (j:Int) 2 (UV YG)) (Zh 1 3 [5,6] (Z9 7 (dc 7 [] [] [] (ih x3 t (Qz n.decls x1.op x1.num (mq+Xn (b.steps.take k)) (0+j)) hfk ob ob) ?_)))
   rintro _ _ ⟨wr1,rfl,rfl⟩
   refine de (ac wr1 Iff.rfl (fun Xl=>?_) (fun Xl=>?_))
   ·exact ar (Zo (r1 [] ⟨true,rfl,rfl⟩))
   exact ak (az (Z2 1 (ZJ j (Z0 (ZK ⟨j+1,ob,rfl,rfl,rfl⟩ (ZG 3 (ZM j fl)))))))
  exact ax 4 (az (Z2 1 (ZJ k (Z0 (ZK ⟨k+1,ob,rfl,rfl,rfl⟩ (wk [1,1] (ZM k fl)))))))
 exact ax 0 (ar (Zo (r1 [] ⟨false,rfl,rfl⟩)))
theorem Z9i (n:Zm) (b:Z6) (t:Int) (mq:Nat) (hn:X4 n:=by exact ob) (hf:fB n.decls n.routines.length mq b:=by exact ob) (hz:b.sz<=1000000:=by exact ob):Zj 190 [Yr n,Y7 b,.i t] [] (fun r h=>∃(wr:Bool),r=.b wr/\h=[]):=by
 have key:∀k:Nat,∀(b2:Z6) (t:Int) (m2:Nat),(fB n.decls n.routines.length m2 b2)->(b2.sz<=1000000)->(b2.sz<k)->Zj 190 [Yr n,Y7 b2,.i t] [] (fun r h=>∃(wr:Bool),r=.b wr/\h=[]):=by
  intro k
  induction k with
  | zero=>intro b2 t m2 h1 h2 h3;omega
  | succ k ih=>intro b2 t m2 h1 h2 h3;exact Z9j n b2 t m2 hn h1 h2 fun b3 t3 m3 q1 q2 q3=>ih b3 t3 m3 q1 q2 om
 exact key (b.sz+1) b t mq hf hz om
theorem Za0 (n:Zm) (rt:Yc) (i:Nat) (qz:Nat) (hn:FN n qz:=by exact ob) (hqz:qz<=100000:=by exact ob) (hr:n.routines[i]? = some rt:=by exact ob):Zj 137 [Yr n,.i i] [] (fun r h=>∃(xs:LI),r=Z4 xs/\h=[]/\xs.length<=rt.lent.length/\∀v∈xs,v∈rt.lent):=by
 have hok:=FN.ok hn
 have hrl:=hn.lent rt (Y0 hr)
 have hrb:=hn.body rt (Y0 hr)
 obtain ⟨hil,_⟩:=Xq.1 hr
 have hnl:=hn.len
 refine ZE 50 Tryz.func137 (ar (iA (YZ n) fun b1=>Z0 (ar (iL (Z8 []) 0 1 fun v1=>?_))))
 refine Z0 (Ym (ab 0 (Y4 (fun fz gz m F h=>∃(k:Nat) (ys:LI) (u:Value),(k<=rt.lent.length)/\(ys.length<=k)/\(∀v∈ys,v∈rt.lent)/\F=sF [1,2] fz [(5,ZQ ys u),(6,.i k)]/\h=[Zd gz 1,.tail u 1]/\m=rt.lent.length-k) _ _ _ ⟨0,[],v1,ob,ob,(fun v hv=>by cases hv),rfl,rfl,rfl⟩ (wk [1,0] (fr (Yb fl))) ?_)))
 rintro m F h ⟨k,ys,u,Ye,Zk,Zw,rfl,rfl,rfl⟩
 refine Yk 4 [0] (Zp (Zl none (i:Int) 5 (WR hr)) (Z2 2 (iw (Ya rt.lent) (Y9 ((k:Int)<(rt.lent.length:Int)) (fun Za=>?_) (fun Za=>?_)))))
 ·refine ak (aq (ab 1 (aD 18 (ZI 14 18 [0,1,2,3] [0,0] (dx 4 (Zl none (i:Int) 5 (WR hr)) (ZI 8 13 [5,6,7,8,9] [0] (dx 10 (Zl none (i:Int) 5 (WR hr)) (Zh 4 7 [11,12,13] ?_))))))))
  obtain ⟨x1,Z3⟩:=Zs rt.lent k om
  refine dx 14 (Zl none (k:Int) 1 (ZZ Z3)) (Zh 2 3 [15] (Z9 16 (dc 16 [] [] [] (Z9i n rt.body x1 rt.params.length (hn:=hok) (hf:=hrb.1)) ?_)))
  rintro _ _ ⟨wr1,rfl,rfl⟩
  refine Zh 0 1 [17] (de (ac (!wr1) (p:=¬(wr1=true)) (Yl Iff.rfl) (fun Zg=>?_) (fun Zg=>?_)))
  ·exact az (ZL 4 [0] (Zp (Zl none (i:Int) 5 (WR hr)) (Z2 3 (Zp (Zl none (k:Int) 1 (ZZ Z3)) (Z2 1 (iL (Z8 [x1]) 1 1 fun v2=>ZT 0 [(47,Z4 [x1])] (ip 2 (Z8 (ys++[x1])) (Z8 ys) (Z8 [x1]) u none 1 (YL _) (YL _) (Ww _) (by simp<;>omega) (by simp [Wv,Z8]) fun v3=>Z0 (az (Z2 1 (ZJ k (Z0 (ZK ⟨k+1,(ys++[x1]),v3,ob,ob,(XS Zw (Y0 Z3)),rfl,rfl,rfl⟩ (wk [2,0] (fr (ZM k fl)))))))))))))))
  exact ak (az (Z2 1 (ZJ k (Z0 (ZK ⟨k+1,ys,u,ob,ob,ob,rfl,rfl,rfl⟩ (wk [0,0] (fr (ZM k fl))))))))
 exact ax 0 (ar (Zo (r2 [] [ZQ ys u] ⟨ys,rfl,rfl,⟨by omega,Zw⟩⟩ (Zc.forget _ _))))
theorem Zir (s:Z5) (ih:∀(b2:Z6),(b2.sz<s.sz)->(b2.sz<=1000000000)->Zj 156 [Y7 b2] [] (Yn (Y7 b2))) (hz:s.sz<=1000000000):Zj 211 [YF s] [] (Yn (YF s)):=by
 have hkz:=Te s
 have haz:=K6 s
 refine ZE 33 Tryz.func211 (ar (iA (Xx s) fun b1=>iA [.i 0,.i 0,.i 0,nl,nl] fun b2=>ie (ar (iL (YS []) 0 2 fun v1=>?_))))
 refine Z0 (Ym (ab 0 (Y4 (fun fz gz m F h=>∃(k:Nat) (v:Value),(k<=s.kids.length)/\F=sF [1,2] fz [(3,Qc (s.kids.take k) v),(4,.i k)]/\h=[Zd gz 1,Zd gz 2,.tail v 2]/\m=s.kids.length-k) _ _ _ ⟨0,v1,ob,rfl,rfl,rfl⟩ (wk [1,1,0] (fc (x:=Qc [] v1) (Zc.slh _ (Yu YS rfl)) (Yb fl))) ?_)))
 rintro m F h ⟨k,v,Ye,rfl,rfl,rfl⟩
 refine Yk 3 [1] (iw (U8 s.kids) (Y9 ((k:Int)<(s.kids.length:Int)) (fun Za=>?_) (fun Za=>?_)))
 ·refine ak (aq (ab 1 (az (ZL 4 [1] ?_))))
  obtain ⟨x1,Z3⟩:=Zs s.kids k om
  have hks:=TF Z3
  exact Zp (Zl none (k:Int) 2 (UV Z3)) (Z2 1 (Zx [] (ih x1 ob ob) (iL [Y7 x1] 1 2 fun v2=>ZT 0 [(20,.sl [Y7 x1] none)] (ip 3 (YS (s.kids.take (k+1))) (YS (s.kids.take k)) [Y7 x1] v none 2 (Kq _) (TH rfl) rfl (by simp<;>omega) (by rw [V1 Z3];simp [Q6]) fun v3=>Z0 (az (Z2 1 (ZJ k (Z0 (ZK ⟨k+1,v3,ob,rfl,rfl,rfl⟩ (wk [2,2,0] (fr (ZM k fl))))))))))))
 refine ax 0 (aD 12 (ZI 3 12 [0,1,2,3,4,5,6,7,9] [1,1,1,1] (Z9 8 (dc 8 [] [1,1,1] [b1,b1,b1] (T2 s.args) ?_))))
 rintro _ _ ⟨v4,rfl,rfl⟩
 exact Zh 1 2 [10] (Z9 11 (YO 11 1 [] [] b2 [.i s.op,.i s.num,.i s.into,ZQ s.args v4,Qc (s.kids.take k) v] (de (ZB (r3 [] [.agg [.i s.op,.i s.num,.i s.into,ZQ s.args v4,Qc (s.kids.take k) v]] [0] [(b2,b2)] ⟨rfl,rfl⟩ (Zc.agg (.cons (lr _) (.cons (lr _) (.cons (lr _) (.cons (Zc.forget _ _) (.cons (Zc.sl _ (Yu YS (by rw [VA om]))) .nil)))))))))))
theorem Zip (b:Z6) (ih:∀(s2:Z5),(s2.sz<b.sz)->(s2.sz<=1000000000)->Zj 211 [YF s2] [] (Yn (YF s2))) (hz:b.sz<=1000000000):Zj 156 [Y7 b] [] (Yn (Y7 b)):=by
 have hbz:=T3 b
 refine ZE 28 Tryz.func156 (ar (iA (Xs b) fun b1=>iA [nl,.i 0] fun b2=>ie (ar (iL (ZF []) 0 5 fun v1=>ZL 3 [2] (iA [nl,.i 0] fun b3=>?_)))))
 refine ZH 0 b3 [Xb [] v1,.i b.result] (ie (Ym (ab 0 (Y4 (fun fz gz m F h=>∃(k:Nat) (v:Value),(k<=b.steps.length)/\F=sF [1,2,3] fz [(4,.i k)]/\h=[.obj b3 [Xb (b.steps.take k) v,.i b.result],Zd gz 2,Zd gz 3,.tail v 5]/\m=b.steps.length-k) _ _ _ ⟨0,v1,ob,rfl,rfl,rfl⟩ (wk [0,1,1,0] (Yb fl)) ?_))))
 rintro m F h ⟨k,v,Ye,rfl,rfl,rfl⟩
 refine Yk 3 [2] (iw (VR b.steps) (Y9 ((k:Int)<(b.steps.length:Int)) (fun Za=>?_) (fun Za=>?_)))
 ·refine ak (aq (ab 1 (aE 12 (ZI 7 12 [0,1,2,3,4] [0,2] ?_))))
  obtain ⟨x1,Z3⟩:=Zs b.steps k om
  have hss:=Ab Z3
  exact dx 5 (Zl none (k:Int) 5 (VK Z3)) (Zh 5 6 [6] (Z9 7 (Yz 7 [] [0] [b3] (ih x1 ob ob) (Z9 8 (dL 8 [0] [b3] [YF x1] 1 5 fun v2=>YA 3 3 [] [(24,.sl [YF x1] none)] (Z9 9 (dp 9 4 [] [] (ZF (b.steps.take (k+1))) (ZF (b.steps.take k)) [YF x1] v none 5 (Xt _) (TH rfl) rfl (by simp<;>omega) (by rw [V1 Z3];simp [VL]) fun v3=>Zh 1 2 [10] (Z9 11 (YO 11 2 [] [] b3 [Xb (b.steps.take (k+1)) v3,.i b.result] (de (az (Z2 1 (ZJ k (Z0 (ZK ⟨k+1,v3,ob,rfl,rfl,rfl⟩ (wk [0,2,2,0] (ZM k fl)))))))))))))))))
 exact ax 0 (Zv 1 [0] (ZH 1 b2 [Xb (b.steps.take k) v,.i b.result] (ie (ZB (r3 [] [.agg [Xb (b.steps.take k) v,.i b.result]] [0] [(b2,b2)] ⟨rfl,rfl⟩ (Zc.agg (.cons (Zc.sl _ (Yu ZF (by rw [VA om]))) (.cons (lr _) .nil))))))))
theorem Z1o (k:Nat):(∀(s:Z5),(s.sz<=k)->(s.sz<=1000000000)->Zj 211 [YF s] [] (Yn (YF s)))/\(∀(b:Z6),(b.sz<=k)->(b.sz<=1000000000)->Zj 156 [Y7 b] [] (Yn (Y7 b))):=by
 induction k with
 | zero=>exact ⟨fun s h=>by have:=s.sz_pos;omega,fun s h=>by have:=s.sz_pos;omega⟩
 | succ k ih=>exact ⟨fun s h hz=>Zir s (fun b2 h2 h3=>ih.2 b2 om h3) hz,fun b h hz=>Zip b (fun s2 h2 h3=>ih.1 s2 om h3) hz⟩
theorem Ziq (s:Z5) (hz:s.sz<=1000000000:=by exact ob):Zj 211 [YF s] [] (Yn (YF s)):=(Z1o s.sz).1 s (YU _) hz
theorem Hs (b:Z6) (hz:b.sz<=1000000000:=by exact ob):Zj 156 [Y7 b] [] (Yn (Y7 b)):=(Z1o b.sz).2 b (YU _) hz
theorem Gm (n:Zm) (ls:List LI) (qz:Nat) (hn:FO n qz WX:=by exact ob) (hqz:qz<=100000:=by exact ob) (hls:LC n n.routines.length ls:=by exact ob):Zj 135 [Yr n,KA ls] [] (fun r h=>∃(n2:Zm),r=Yr n2/\h=[]/\FO n2 qz WX/\n2.routines.length=n.routines.length):=by
 have hnl:=hn.fn.len
 have Xz:=hn.fn.decls.ok
 have hll:=hls.len
 refine ZE 45 Tryz.func135 (ar (iA (YZ n) fun b1=>iA [nl,nl] fun b2=>ie (Zv 2 [1] (Zx [] (Ff n.decls) (iL (X6 []) 0 5 fun v1=>Z2 1 (iA [nl,nl] fun b3=>?_))))))
 refine ZH 0 b3 [ZP n.decls,U3 [] v1] (ie (Ym (ab 0 (Y4 (fun fz gz m F h=>∃(k:Nat) (rs:List Yc) (u:Value),(k<=n.routines.length)/\(rs.length=k)/\(∀r∈rs,RF n.decls n.routines.length qz WX r)/\F=sF [1,2,4,5] fz [(6,.i k)]/\h=[.obj b3 [ZP n.decls,U3 rs u],Zd gz 2,Zd gz 3,.tail u 5]/\m=n.routines.length-k) _ _ _ ⟨0,[],v1,ob,ob,(fun r hr=>by cases hr),rfl,rfl,rfl⟩ (wk [0,1,1,0] (Yb fl)) ?_))))
 rintro m F h ⟨k,rs,u,Ye,Zk,Zw,rfl,rfl,rfl⟩
 refine Yk 3 [2] (iw (U9 n.routines) (Y9 ((k:Int)<(n.routines.length:Int)) (fun Za=>?_) (fun Za=>?_)))
 ·refine ak (aq (ab 1 (Zv 3 [2] ?_)))
  obtain ⟨x1,Z3⟩:=Zs n.routines k om
  have hrf:=hn.rf (Y0 Z3)
  have hrp:=hn.fn.ok.params_at Z3
  have hrz:=hrf.body.2
  refine Zp (Zl none (k:Int) 5 (WR Z3)) (Z2 1 (iA [nl,nl,.i 0,nl,.i 0] fun b4=>ZH 0 b4 (TG x1) (ie (aE 20 (ZI 14 20 [0,1,2,3,5,6] [1,0] ?_)))))
  obtain ⟨x2,Zr⟩:=Zs ls k om
  have hlc:=hls.at Zr Z3
  refine dx 7 (Zl none (k:Int) 1 (Ar Zr)) (ZI 8 13 [8,10,11,12,13] [0,0] (Z9 4 (dc 4 [] [0,0,1] [b4,b4,b3] (T2 x1.params) ?_)))
  rintro _ _ ⟨v2,rfl,rfl⟩
  refine Z9 9 (dc 9 [] [0,0,1] [b4,b4,b3] (T2 x2) ?_)
  rintro _ _ ⟨v3,rfl,rfl⟩
  exact Z9 14 (Yz 14 [] [0,1] [b4,b3] (Hs x1.body) (YA 4 5 [15] [(40,.agg [Z4 x1.params,Z4 x2,.i x1.result,Vs x1.body.steps,.i x1.body.result])] (Z9 16 (dL 16 [1] [b3] (X6 [Yc.mk x1.params x2 x1.result (Z6.mk x1.body.steps x1.body.result)]) 1 5 fun v4=>YA 3 3 [] [(41,KC [Yc.mk x1.params x2 x1.result (Z6.mk x1.body.steps x1.body.result)])] (Z9 17 (dp 17 7 [] [] (X6 (rs++[Yc.mk x1.params x2 x1.result (Z6.mk x1.body.steps x1.body.result)])) (X6 rs) (X6 [Yc.mk x1.params x2 x1.result (Z6.mk x1.body.steps x1.body.result)]) u none 5 (Ql _) (Ql _) (Db _) (by simp<;>omega) (by simp [Da,X6]) fun v5=>Zh 1 2 [18] (Z9 19 (YO 19 5 [] [] b3 [ZP n.decls,U3 (rs++[Yc.mk x1.params x2 x1.result (Z6.mk x1.body.steps x1.body.result)]) v5] (de (az (Z2 1 (ZJ k (Z0 (ZK ⟨k+1,(rs++[Yc.mk x1.params x2 x1.result (Z6.mk x1.body.steps x1.body.result)]),v5,ob,ob,(XS Zw (by rw [Z6.eta];exact hrf.lend hlc.1 hlc.2)),rfl,rfl,rfl⟩ (wk [0,5,5,0] (ZM k fl))))))))))))))))
 exact ax 0 (Zv 1 [0] (ZH 1 b2 [ZP n.decls,U3 rs u] (ie (ZB (r3 [] [.agg [ZP n.decls,U3 rs u]] [0] [(b2,b2)] ⟨(Zm.mk n.decls rs),rfl,rfl,(FO.fin hn.fn om Zw)⟩ (Zc.agg (.cons (lr _) (.cons (Zc.forget _ _) .nil))))))))
theorem Za8 (n:Zm) (qz:Nat) (hn:FO n qz WX:=by exact ob) (hqz:qz<=100000:=by exact ob):Zj 78 [Yr n] [] (fun r h=>∃(n2:Zm),r=Yr n2/\h=[]/\FO n2 qz WX):=by
 refine ZE 33 Tryz.func78 (ar (iA (YZ n) fun b1=>iA [nl,nl] fun b2=>?_))
 refine ie (aD 6 (ZI 4 6 [0,1] [1,1] (Jo (fun fz gz F h=>∃(n21:Zm) (b3:Nat) (xs1:List LI),(LC n n.routines.length xs1)/\(FO n21 qz WX/\n21.routines.length=n.routines.length)/\F=sF [2] fz [(3,.p b3 0)]/\h=[.obj b3 (YZ n21),Zd gz 0,Zd gz 1]) ?_ ?_)))
 ·refine VJ 2 4 ?_ ?_
  ·refine dc 2 [] [1] [b1] (Pp n qz (hn:=hn.fn)) ?_
   rintro _ _ ⟨xs1,rfl,rfl,ZY⟩
   refine VJ 3 4 ?_ ?_
   ·refine dc 3 [] [] [] (Gm n xs1 qz (hls:=(by first|assumption|(rw [<-hjl];exact XO)))) ?_
    rintro _ _ ⟨n21,rfl,rfl,Yi⟩
    have hwl:=Yi
    exact Z9 4 (dA 4 [] [] [nl,nl] fun b3=>Z9 5 (YO 5 0 [] [] b3 (YZ n21) (de (ZV ⟨_,b3,_,(by assumption),(by assumption),rfl,rfl⟩ (ZG 3 fl)))))
   refine dA 4 [1] [b1] [nl,nl] fun b4=>Z9 3 (dc 3 [] [] [] (Gm n xs1 qz (hls:=(by first|assumption|(rw [<-hjl];exact XO)))) ?_)
   rintro _ _ ⟨n22,rfl,rfl,YJ⟩
   have hwl:=YJ
   exact Z9 5 (YO 5 0 [] [] b4 (YZ n22) (de (ZV ⟨_,b4,_,(by assumption),(by assumption),rfl,rfl⟩ (ZG 3 fl))))
  refine dA 4 [1,1] [b1,b1] [nl,nl] fun b5=>Z9 2 (dc 2 [] [2] [b1] (Pp n qz (hn:=hn.fn)) ?_)
  rintro _ _ ⟨xs2,rfl,rfl,YR⟩
  refine Z9 3 (dc 3 [] [] [] (Gm n xs2 qz (hls:=(by first|assumption|(rw [<-hjl];exact XO)))) ?_)
  rintro _ _ ⟨n23,rfl,rfl,Xk⟩
  have hwl:=Xk
  exact Z9 5 (YO 5 0 [] [] b5 (YZ n23) (de (ZV ⟨_,b5,_,(by assumption),(by assumption),rfl,rfl⟩ (ZG 3 fl))))
 rintro F h ⟨n21,b3,xs1,ZY,Yi,rfl,rfl⟩
 have hwl:=Yi
 refine Ym (ab 0 (Y4 (fun fz gz m F h=>∃(k:Nat) (nn:Zm),(k<=13)/\(FO nn qz WX)/\F=sF [2,3] fz [(4,.i k)]/\h=[.obj b3 (YZ nn),Zd gz 1]/\m=13-k) _ _ _ ⟨0,n21,ob,hwl.1,rfl,rfl,rfl⟩ (wk [0,0] (Yb fl)) ?_))
 rintro m F h ⟨k,nn,Ye,Zk,rfl,rfl,rfl⟩
 refine X7 (Y9 ((k:Int)<=12) (fun Za=>?_) (fun Za=>?_))
 ·refine ak (aq (ab 1 (ar (iL (Wq []) 0 1 fun v1=>?_))))
  refine Z0 (Ym (ab 2 (Y4 (fun fz gz m F h=>∃(j:Nat) (ls:List LI) (u:Value),(j<=nn.routines.length)/\(LC nn j ls)/\(ls.length=j)/\F=sF [2,3,4] fz [(5,BL ls u),(6,.i j)]/\h=[Zd gz 1,Zd gz 2,.tail u 1]/\m=nn.routines.length-j) _ _ _ ⟨0,[],v1,ob,LC.nil,ob,rfl,rfl,rfl⟩ (wk [1,1,0] (fr (Yb fl))) ?_)))
  rintro m F h ⟨j,ls,u,U7,XO,XP,rfl,rfl,rfl⟩
  refine Yk 3 [0] (iw (U9 nn.routines) (Y9 ((j:Int)<(nn.routines.length:Int)) (fun Zg=>?_) (fun Zg=>?_)))
  ·obtain ⟨rt,hrt⟩:=Zs nn.routines j om
   have hrl:=(Zk.rf (Y0 hrt)).lent
   have hnl4:=Zk.fn.len
   refine ak (aq (ab 3 (az (ZL 3 [0] (ic [] (Za0 nn rt j qz (hn:=Zk.fn) (hr:=hrt)) ?_)))))
   rintro _ _ ⟨xs3,rfl,rfl,XX⟩
   have hkl:=XX
   exact iL (Wq [xs3]) 1 1 fun v2=>ZT 0 [(27,KA [xs3])] (ip 3 (Wq (ls++[xs3])) (Wq ls) (Wq [xs3]) u none 1 (BB _) (BB _) (FZ _) (by simp<;>omega) (by simp [IL,Wq]) fun v3=>Z0 (az (Z2 1 (ZJ j (Z0 (ZK ⟨j+1,(ls++[xs3]),v3,ob,(XO.snoc om (fun r hr v hv=>by rw [hrt] at hr;cases hr;exact hrl.2 v (hkl.2 v hv))),ob,rfl,rfl,rfl⟩ (wk [2,2,0] (fr (ZM j fl)))))))))
  have hjl:j=nn.routines.length:=by omega
  refine ax 2 (az (Kc 2 [(30,KA ls)] [0] (ic [] (Gm nn ls qz (hls:=(by first|assumption|(rw [<-hjl];exact XO)))) ?_)))
  rintro _ _ ⟨n24,rfl,rfl,WA⟩
  have hwl:=WA
  exact ZH 0 b3 (YZ n24) (ie (az (Z2 1 (ZJ k (Z0 (ZK ⟨k+1,n24,ob,hwl.1,rfl,rfl,rfl⟩ (wk [0,0] (ZM k fl))))))))
 exact ax 0 (Zv 1 [0] (ZH 1 b2 (YZ nn) (ie (ZB (r3 [] [Yr nn] [0] [(b2,b2)] ⟨nn,rfl,rfl,(by first|exact Zk|exact hwl.1)⟩ (lr _))))))
theorem Gk (xs:LI) (y:Int) (hl:xs.length<=1000000000:=by exact ob):Zj 220 [Z4 xs,.i y] [] (fun r h=>∃(v:Value),r=ZQ (TD xs y) v/\h=[.tail v 1]):=by
 refine ZE 49 Tryz.func220 (Zy (ar (iL (Z8 []) 0 1 fun v1=>?_)))
 refine Z0 (Zy (Ym (ab 0 (Y4 (fun fz gz m F h=>∃(k:Nat) (acc:LI) (d:Bool) (v:Value),(k<=xs.length)/\(acc.length<=k+(if d=true then 1 else 0))/\(acc++QR d (xs.drop k) y=TD xs y)/\F=sF [0,1] fz [(5,ZQ acc v),(6,.b d),(7,.i k)]/\h=[.tail v 1]/\m=xs.length-k) _ _ _ ⟨0,[],false,v1,ob,(by simp),rfl,rfl,rfl,rfl⟩ (wk [0] (fw (Yb fl))) ?_))))
 rintro m F h ⟨k,acc,d,v,Ye,Zk,Zw,rfl,rfl,rfl⟩
 refine YP 2 (iw (Ya xs) (Y9 ((k:Int)<(xs.length:Int)) (fun Za=>?_) (fun Za=>?_)))
 ·obtain ⟨x1,Z3⟩:=Zs xs k om
  have hil:acc.length<=k+1:=VB Zk (by split<;>omega)
  refine ak (aq (ab 1 (X7 (Xv [0,1,5,6,7] [(24,.b ((!d)&&(decide (x1>=y))))] (fun gz=>gz) ?_ ?_))))
  ·refine Z2 3 (ib (b:=(!d)) 17 (fun Zb=>?_) (fun Zb=>?_))
   ·exact Z2 2 (Zp (Zl none (k:Int) 1 (ZZ Z3)) (Z0 (wk [0] (Zt (decide (x1>=y)) Zb fl))))
   exact Z0 (wk [0] (Zt false Zb fl))
  refine Wj (fun fz gz F h=>∃(acc2:LI) (d2:Bool) (w:Value),((acc2=acc/\d2=d/\(d=true∨¬x1>=y))∨(acc2=acc++[y]/\d2=true/\¬d=true/\x1>y)∨(acc2=acc/\d2=true/\¬d=true/\x1=y))/\(acc2.length<=k+(if d2=true then 1 else 0))/\(acc2.length<=k+1)/\F=sF [0,1,7] fz [(5,ZQ acc2 w),(6,.b d2)]/\h=[.tail w 1]) ?_ ?_
  ·refine ac ((!d)&&(decide (x1>=y))) (p:=(¬(d=true))/\(x1>=y)) (YK (Yl Iff.rfl) dq) (fun Zg=>?_) (fun Zg=>?_)
   ·refine YP 2 (Zp (Zl none (k:Int) 1 (ZZ Z3)) (Z0 (Wj (fun fz gz F h=>∃(w3:Value),F=sF [0,1,7] fz [(5,ZQ (if x1>y then (acc++[y]) else acc) w3)]/\h=[.tail w3 1]) ?_ ?_)))
    ·refine XB (x1>y) (fun ZD=>?_) (fun ZD=>?_)
     ·exact az (Z2 2 (iL (Z8 [y]) 1 1 fun v2=>ZT 0 [(33,Z4 [y])] (ip 1 (Z8 (acc++[y])) (Z8 acc) (Z8 [y]) v none 1 (YL _) (YL _) (Ww _) (by simp<;>omega) (by simp [Wv,Z8]) fun v3=>Z0 (ZV ⟨v3,rfl,rfl⟩ (wk [0] (fc (x:=ZQ (acc++[y]) v3) (Zc.slh _ (Yu Z8 (by first|rfl|(rw [Ze ZD])|(rw [Z7 ZD])|(simp [ZD];done)|(rw [XH];simp [ZD];done)|omega))) fl))))))
     exact ak (ZV ⟨v,rfl,rfl⟩ (wk [0] (fc (x:=ZQ acc v) (Zc.slh _ (Yu Z8 (by first|rfl|(rw [Ze ZD])|(rw [Z7 ZD])|(simp [ZD];done)|(rw [XH];simp [ZD];done)|omega))) fl)))
    rintro F h ⟨w3,rfl,rfl⟩
    exact UY (ZV ⟨(if x1>y then (acc++[y]) else acc),true,w3,(if h:x1>y then (by rw [Ze h];exact .inr (.inl ⟨rfl,rfl,Zg.1,h⟩)) else (by rw [Z7 h];exact .inr (.inr ⟨rfl,rfl,Zg.1,by have:=Zg.2;omega⟩))),(by have h1:=Zk;rw [Z7 Zg.1] at h1;split<;>(simp<;>omega)),(by have h1:=Zk;rw [Z7 Zg.1] at h1;split<;>(simp<;>omega)),rfl,rfl⟩ (wk [0] fl))
   exact ak (ZV ⟨acc,d,v,(.inl ⟨rfl,rfl,by by_cases q:d=true;exact .inl q;exact .inr (fun z=>Zg ⟨q,z⟩)⟩),Zk,hil,rfl,rfl⟩ (wk [0] fl))
  rintro F h ⟨acc2,d2,w,Ky,GM,Zm4,rfl,rfl⟩
  exact az (Z2 3 (Zp (Zl none (k:Int) 1 (ZZ Z3)) (Z2 1 (iL (Z8 [x1]) 1 1 fun v4=>ZT 0 [(40,Z4 [x1])] (ip 1 (Z8 (acc2++[x1])) (Z8 acc2) (Z8 [x1]) w none 1 (YL _) (YL _) (Ww _) (by simp<;>omega) (by simp [Wv,Z8]) fun v5=>Z0 (az (Z2 1 (ZJ k (Z0 (ZK ⟨k+1,(acc2++[x1]),d2,v5,ob,(by simp only [Ys,YW,XJ];omega),(Zcw Z3 Zw Ky),rfl,rfl,rfl⟩ (wk [0] (fw (ZM k fl)))))))))))))
 have hil:acc.length<=k+1:=VB Zk (by split<;>omega)
 refine ax 0 (Ym (Wj (fun fz gz F h=>∃(w4:Value),F=sF [] fz [(5,ZQ (if d=true then acc else (acc++[y])) w4)]/\h=[.tail w4 1]) ?_ ?_))
 ·refine ac (!d) (p:=¬(d=true)) (Yl Iff.rfl) (fun Yj=>?_) (fun Yj=>?_)
  ·exact az (Z2 2 (iL (Z8 [y]) 1 1 fun v6=>ZT 0 [(46,Z4 [y])] (ip 1 (Z8 (acc++[y])) (Z8 acc) (Z8 [y]) v none 1 (YL _) (YL _) (Ww _) (by simp<;>omega) (by simp [Wv,Z8]) fun v7=>Z0 (ZV ⟨v7,rfl,rfl⟩ (wk [0] (fc (x:=ZQ (acc++[y]) v7) (Zc.slh _ (Yu Z8 (by first|rfl|(rw [Ze Yj])|(rw [Z7 Yj])|(simp [Yj];done)|(rw [XH];simp [Yj];done)|omega))) fl))))))
  exact ak (ZV ⟨v,rfl,rfl⟩ (wk [0] (fc (x:=ZQ acc v) (Zc.slh _ (Yu Z8 (by first|rfl|(rw [Ze Yj])|(rw [Z7 Yj])|(simp [Yj];done)|(rw [XH];simp [Yj];done)|omega))) fl)))
 rintro F h ⟨w4,rfl,rfl⟩
 exact ar (Zo (r2 [0] [ZQ (if d=true then acc else (acc++[y])) w4] ⟨w4,rfl,rfl⟩ (Zc.slh _ (Yu Z8 (Zcv om Zw)))))
theorem PE (xs:LI) (y:Int) (hl:xs.length<=1000000000:=by exact ob):Zj 249 [Z4 xs,.i y] [] (fun r h=>∃(v:Value),r=ZQ (Qx xs y) v/\h=[.tail v 1]):=by
 refine ZE 28 Tryz.func249 (Zy (ar (iL (Z8 []) 0 1 fun v1=>?_)))
 refine Z0 (Ym (ab 0 (Y4 (fun fz gz m F h=>∃(k:Nat) (acc:LI) (v:Value),(k<=xs.length)/\(acc.length<=k)/\(acc++Qx (xs.drop k) y=Qx xs y)/\F=sF [0,1] fz [(5,ZQ acc v),(6,.i k)]/\h=[.tail v 1]/\m=xs.length-k) _ _ _ ⟨0,[],v1,ob,ob,rfl,rfl,rfl,rfl⟩ (wk [0] (fr (Yb fl))) ?_)))
 rintro m F h ⟨k,acc,v,Ye,Zk,Zw,rfl,rfl,rfl⟩
 refine YP 2 (iw (Ya xs) (Y9 ((k:Int)<(xs.length:Int)) (fun Za=>?_) (fun Za=>?_)))
 ·refine ak (aq (ab 1 (Y1 2 ?_)))
  obtain ⟨x1,Z3⟩:=Zs xs k om
  refine Zp (Zl none (k:Int) 1 (ZZ Z3)) (Z0 (KV (fun fz gz F h=>∃(w:Value),F=sF [0,1,6] fz [(5,ZQ (if x1≠y then (acc++[x1]) else acc) w)]/\h=[.tail w 1]) (fun _ _=>rfl) ?_ ?_))
  ·refine ac (x1 != y) Y3 (fun Zg=>?_) (fun Zg=>?_)
   ·exact az (Z2 3 (Zp (Zl none (k:Int) 1 (ZZ Z3)) (Z2 1 (iL (Z8 [x1]) 1 1 fun v2=>ZT 0 [(25,Z4 [x1])] (ip 1 (Z8 (acc++[x1])) (Z8 acc) (Z8 [x1]) v none 1 (YL _) (YL _) (Ww _) (by simp<;>omega) (by simp [Wv,Z8]) fun v3=>Z0 (ZV ⟨v3,rfl,rfl⟩ (wk [0] (fc (x:=ZQ (acc++[x1]) v3) (Zc.slh _ (Yu Z8 (by first|rfl|(rw [Ze Zg])|(rw [Z7 Zg])|(simp [Zg];done)|(rw [XH];simp [Zg];done)|omega))) fl))))))))
   exact ak (ZV ⟨v,rfl,rfl⟩ (wk [0] (fc (x:=ZQ acc v) (Zc.slh _ (Yu Z8 (by first|rfl|(rw [Ze Zg])|(rw [Z7 Zg])|(simp [Zg];done)|(rw [XH];simp [Zg];done)|omega))) fl)))
  rintro F h ⟨w,rfl,rfl⟩
  exact az (Z2 1 (ZJ k (Z0 (ZK ⟨k+1,(if x1≠y then (acc++[x1]) else acc),w,ob,(by split<;>(try simp)<;>omega),(Zfo Z3 Zw),rfl,rfl,rfl⟩ (wk [0] (fr (ZM k fl)))))))
 exact ax 0 (ar (Zo (r2 [0] [ZQ acc v] ⟨v,rfl,rfl⟩ (Zc.slh _ (Yu Z8 (Zfn om Zw))))))
theorem Zij (s:Z5) (q:Int) (xs:LI) (ih:∀(b2:Z6) (q:Int) (k2:Nat) (xs2:LI),(b2.sz<s.sz)->(k2<=b2.steps.length)->(xs2.length+b2.sz<=1000000000)->Zj 243 [Y7 b2,.i q,.i k2,Z4 xs2] [] (Yn (Z4 (T4 q (Tl q (b2.steps.drop k2) xs2) b2.result)))) (hz:xs.length+s.sz<=1000000000):Zj 278 [YF s,.i q,Z4 xs] [] (Yn (Z4 (Ac q s xs))):=by
 have hkz:=Te s
 have haz:=K6 s
 have hse:=s.sz_eq
 refine ZE 58 Tryz.func278 (ar (iA (Xx s) fun b1=>Z0 (Yk 2 [0] (Zx [] (Ziw s.op) (ie (ac (Yx s.op) Iff.rfl (fun Za=>?_) (fun Za=>?_)))))))
 ·exact ar (Zo (ZU (Z4 xs) (Zc.sl _ (Yu Z8 (by rw [Z2r,Ze (by assumption)])))))
 refine ak (Ym (ab 0 (Y4 (fun fz gz m F h=>∃(j:Nat) (ys:LI),(j<=s.args.length)/\(ys.length<=xs.length+j)/\(Ke q (s.args.drop j) ys=Ke q s.args xs)/\F=sF [1,3] fz [(2,Z4 ys),(7,.i j)]/\h=gz/\m=s.args.length-j) _ _ _ ⟨0,xs,ob,ob,rfl,rfl,rfl,rfl⟩ (wk [0] (fr (Yb fl))) ?_)))
 rintro m F h ⟨j,ys,Ye,Zk,Zw,rfl,rfl,rfl⟩
 refine Yk 3 [0] (iw (Ya s.args) (Y9 ((j:Int)<(s.args.length:Int)) (fun Zg=>?_) (fun Zg=>?_)))
 ·refine ak (aq (ab 1 (Zv 3 [0] ?_)))
  obtain ⟨x1,Z3⟩:=Zs s.args j om
  refine Zp (Zl none (j:Int) 1 (ZZ Z3)) (Xv [1,2,3,7] [(34,.b ((decide (x1>=0))&&(decide (x1<q))))] (fun gz=>gz) ?_ ?_)
  ·refine Z2 3 (ib (b:=(decide (x1>=0))) 26 (fun Zb=>?_) (fun Zb=>?_))
   ·exact ZL 3 [0] (Zp (Zl none (j:Int) 1 (ZZ Z3)) (Z0 (wk [0] (Zt (decide (x1<q)) Zb fl))))
   exact Z0 (wk [0] (Zt false Zb fl))
  refine KV (fun fz gz F h=>F=sF [1,3,7] fz [(2,Z4 (T4 q ys x1))]/\h=gz) (fun _ _=>rfl) ?_ ?_
  ·refine ac ((decide (x1>=0))&&(decide (x1<q))) (p:=(x1>=0)/\(x1<q)) (YK dq dq) (fun ZD=>?_) (fun ZD=>?_)
   ·refine az (ZL 4 [0] (Zp (Zl none (j:Int) 1 (ZZ Z3)) (Z2 1 (ic [] (Gk ys x1) ?_))))
    rintro _ _ ⟨v1,rfl,rfl⟩
    exact Z0 (ZV ⟨rfl,rfl⟩ (wk [1] (fc (x:=ZQ (TD ys x1) v1) (Zc.sl _ (Yu Z8 (by rw [T4,Ze (by assumption)]))) fl)))
   exact ak (ZV ⟨rfl,rfl⟩ (wk [0] (fc (x:=Z4 ys) (Zc.sl _ (Yu Z8 (by rw [T4,Z7 (by assumption)]))) fl)))
  rintro F h ⟨rfl,rfl⟩
  exact az (Z2 1 (ZJ j (Z0 (ZK ⟨j+1,(T4 q ys x1),ob,(by have:=HC (n:=q) ys x1;omega),(Zkq Z3 Zw),rfl,rfl,rfl⟩ (wk [0] (fr (ZM j fl)))))))
 have hA:Ke q s.args xs=ys:=(Zkp om Zw).symm
 refine ax 0 (Ym (ab 2 (Y4 (fun fz gz m F h=>∃(j:Nat) (zs:LI),(j<=s.kids.length)/\(zs.length<=xs.length+s.args.length+X3 (s.kids.take j))/\(JK q (s.kids.drop j) zs=JK q s.kids (Ke q s.args xs))/\F=sF [1,3] fz [(2,Z4 zs),(8,.i j)]/\h=gz/\m=s.kids.length-j) _ _ _ ⟨0,ys,ob,(by rw [List.take_zero,X3];omega),(by rw [hA];rfl),rfl,rfl,rfl⟩ (wk [0] (fr (Yb fl))) ?_)))
 rintro m F h ⟨j,zs,U7,XO,XP,rfl,rfl,rfl⟩
 refine Yk 3 [0] (iw (U8 s.kids) (Y9 ((j:Int)<(s.kids.length:Int)) (fun Yj=>?_) (fun Yj=>?_)))
 ·refine ak (aq (ab 3 (az (ZL 3 [0] ?_))))
  obtain ⟨x2,Zr⟩:=Zs s.kids j om
  have hks:=TF Zr
  have hbt:=E9 Zr
  have hbx:=Ib Zr
  have hul:=HB (n:=q) x2 zs
  exact Zp (Zl none (j:Int) 2 (UV Zr)) (Z2 3 (Zx [] (ih x2 q 0 zs ob ob ob) (Z0 (az (Z2 1 (ZJ j (Z0 (ZK ⟨j+1,(Tk q x2 zs),ob,om,(Zks Zr XP),rfl,rfl,rfl⟩ (wk [0] (fc (x:=Z4 (T4 q (Tl q (x2.steps.drop 0) zs) x2.result)) (Zc.sl _ (Yu Z8 (by rw [Z2p];rfl))) (ZM j fl)))))))))))
 exact ax 2 (ar (Zo (ZU (Z4 zs) (Zc.sl _ (Yu Z8 (by rw [Z2r,Z7 (by assumption)];exact (Zkr om XP)))))))
theorem Zik (b:Z6) (q:Int) (k0:Nat) (xs:LI) (ih:∀(s2:Z5) (q:Int) (xs2:LI),(s2.sz<b.sz)->(xs2.length+s2.sz<=1000000000)->Zj 278 [YF s2,.i q,Z4 xs2] [] (Yn (Z4 (Ac q s2 xs2)))) (hk:k0<=b.steps.length) (hz:xs.length+b.sz<=1000000000):Zj 243 [Y7 b,.i q,.i k0,Z4 xs] [] (Yn (Z4 (T4 q (Tl q (b.steps.drop k0) xs) b.result))):=by
 have hbz:=T3 b
 have hbe:=b.sz_eq
 have hsd:=Z1z b.steps k0
 refine ZE 40 Tryz.func243 (ar (iA (Xs b) fun b1=>?_))
 refine Z0 (Ym (ab 0 (Y4 (fun fz gz m F h=>∃(k:Nat) (ys:LI),(k<=b.steps.length)/\(ys.length+Yf (b.steps.drop k)<=xs.length+Yf (b.steps.drop k0))/\(Tl q (b.steps.drop k) ys=Tl q (b.steps.drop k0) xs)/\F=sF [1,4] fz [(3,Z4 ys),(9,.i k)]/\h=gz/\m=b.steps.length-k) _ _ _ ⟨k0,xs,ob,(YU _),rfl,rfl,rfl,rfl⟩ (wk [0] fl) ?_)))
 rintro m F h ⟨k,ys,Ye,Zk,Zw,rfl,rfl,rfl⟩
 refine Yk 3 [0] (iw (VR b.steps) (Y9 ((k:Int)<(b.steps.length:Int)) (fun Za=>?_) (fun Za=>?_)))
 ·refine ak (aq (ab 1 (az (ZL 3 [0] ?_))))
  obtain ⟨x1,Z3⟩:=Zs b.steps k om
  have hss:=Ab Z3
  have hsd1:=Z1y Z3
  have hul:=Z2s (n:=q) x1 ys
  exact Zp (Zl none (k:Int) 5 (VK Z3)) (Z2 3 (Zx [] (ih x1 q ys ob ob) (Z0 (az (Z2 1 (ZJ k (Z0 (ZK ⟨k+1,(Ac q x1 ys),ob,ob,(Zku Z3 Zw),rfl,rfl,rfl⟩ (wk [0] (fr (ZM k fl)))))))))))
 refine ax 0 (X7 (Xv [3,4] [(34,.b ((decide (b.result>=0))&&(decide (b.result<q))))] (fun gz=>gz) ?_ ?_))
 ·refine ZL 4 [0] (ib (b:=(decide (b.result>=0))) 29 (fun Zb=>?_) (fun Zb=>?_))
  ·exact VX [0] (wk [0] (Zt (decide (b.result<q)) Zb fl))
  exact Z0 (wk [0] (Zt false Zb fl))
 refine Wj (fun fz gz F h=>F=sF [] fz [(3,Z4 (T4 q ys b.result))]/\h=[]) ?_ ?_
 ·refine ac ((decide (b.result>=0))&&(decide (b.result<q))) (p:=(b.result>=0)/\(b.result<q)) (YK dq dq) (fun Zg=>?_) (fun Zg=>?_)
  ·refine az (ZL 3 [0] (ic [] (Gk ys b.result) ?_))
   rintro _ _ ⟨v1,rfl,rfl⟩
   exact Z0 (ZV ⟨rfl,rfl⟩ (wk [] (fc (x:=ZQ (TD ys b.result) v1) (Zc.sl _ (Yu Z8 (by rw [T4,Ze (by assumption)]))) fl)))
  exact ak (ZV ⟨rfl,rfl⟩ (wk [] (fc (x:=Z4 ys) (Zc.sl _ (Yu Z8 (by rw [T4,Z7 (by assumption)]))) fl)))
 rintro F h ⟨rfl,rfl⟩
 exact ar (Zo (ZU (Z4 (T4 q ys b.result)) (Zc.sl _ (Yu Z8 (by rw [Zkt om Zw])))))
theorem Zj8 (k:Nat):(∀(s:Z5) (q:Int) (xs:LI),(s.sz<=k)->(xs.length+s.sz<=1000000000)->Zj 278 [YF s,.i q,Z4 xs] [] (Yn (Z4 (Ac q s xs))))/\(∀(b:Z6) (q:Int) (k0:Nat) (xs:LI),(b.sz<=k)->(k0<=b.steps.length)->(xs.length+b.sz<=1000000000)->Zj 243 [Y7 b,.i q,.i k0,Z4 xs] [] (Yn (Z4 (T4 q (Tl q (b.steps.drop k0) xs) b.result)))):=by
 induction k with
 | zero=>exact ⟨fun s q xs h=>by have:=s.sz_pos;omega,fun b q k0 xs h=>by have:=b.sz_pos;omega⟩
 | succ k ih=>exact ⟨fun s q xs h hz=>Zij s q xs (fun b2 q k2 xs2 h2 hk h3=>ih.2 b2 q k2 xs2 om hk h3) hz,fun b q k0 xs h hk hz=>Zik b q k0 xs (fun s2 q xs2 h2 h3=>ih.1 s2 q xs2 om h3) hk hz⟩
theorem Z1i (b:Z6) (q:Int) (k0:Nat) (xs:LI) (hk:k0<=b.steps.length:=by exact ob) (hz:xs.length+b.sz<=1000000000:=by exact ob):Zj 243 [Y7 b,.i q,.i k0,Z4 xs] [] (Yn (Z4 (T4 q (Tl q (b.steps.drop k0) xs) b.result))):=(Zj8 b.sz).2 b q k0 xs (YU _) hk hz
theorem Z1u (b:Z6) (q:Int) (hz:b.sz<=100000000:=by exact ob):Zj 201 [Y7 b,.i q] [] (Yn (Z4 (Tk q b []))):=by
 exact ZE 9 Tryz.func201 (ar (iA (Xs b) fun b1=>Z0 (Zv 2 [0] (iL (Z8 []) 0 1 fun v1=>ZT 0 [(7,Z4 [])] (Zx [] (Z1i b q 0 [] (hk:=(Af _))) (Zo (ZU (Z4 (T4 q (Tl q (b.steps.drop 0) []) b.result)) (Zc.sl _ (Yu Z8 (by rw [Z2p];rfl))))))))))
theorem Zaw (xs:LI) (ys:LI) (hz:xs.length+ys.length<=100000000:=by exact ob):Zj 244 [Z4 xs,Z4 ys] [] (fun r h=>∃(zs:LI),r=Z4 zs/\h=[]/\zs.length<=xs.length+ys.length):=by
 refine ZE 22 Tryz.func244 (Zy (Y1 1 (ic [] (T2 xs) ?_)))
 rintro _ _ ⟨v1,rfl,rfl⟩
 refine Z0 (Ym (ab 0 (Y4 (fun fz gz m F h=>∃(k:Nat) (zs:LI),(k<=ys.length)/\(zs.length<=xs.length+k)/\F=sF [1] fz [(5,Z4 zs),(6,.i k)]/\h=[]/\m=ys.length-k) _ _ _ ⟨0,xs,ob,ob,rfl,rfl,rfl⟩ (wk [] (fc (x:=ZQ xs v1) (Zc.forget _ _) (Yb fl))) ?_)))
 rintro m F h ⟨k,zs,Ye,Zk,rfl,rfl,rfl⟩
 refine YP 2 (iw (Ya ys) (Y9 ((k:Int)<(ys.length:Int)) (fun Za=>?_) (fun Za=>?_)))
 ·refine ak (aq (ab 1 (az (Z2 3 ?_))))
  obtain ⟨x1,Z3⟩:=Zs ys k om
  refine Zp (Zl none (k:Int) 1 (ZZ Z3)) (Z2 1 (ic [] (Gk zs x1) ?_))
  rintro _ _ ⟨v2,rfl,rfl⟩
  exact Z0 (az (Z2 1 (ZJ k (Z0 (ZK ⟨k+1,(TD zs x1),ob,(by have:=EC zs x1;omega),rfl,rfl,rfl⟩ (wk [] (fc (x:=ZQ (TD zs x1) v2) (Zc.forget _ _) (ZM k fl))))))))
 exact ax 0 (ar (Zo (r1 [] ⟨zs,rfl,rfl,ob⟩)))
theorem Pr (xs:LI) (ys:LI) (hz:xs.length<=100000000:=by exact ob) (hy:ys.length<=100000000:=by exact ob):Zj 281 [Z4 xs,Z4 ys] [] (fun r h=>∃(zs:LI) (v:Value),r=ZQ zs v/\h=[.tail v 1]/\zs.length<=xs.length/\∀z∈zs,z∈xs):=by
 refine ZE 28 Tryz.func281 (Zy (ar (iL (Z8 []) 0 1 fun v1=>?_)))
 refine Z0 (Ym (ab 0 (Y4 (fun fz gz m F h=>∃(k:Nat) (zs:LI) (u:Value),(k<=xs.length)/\(zs.length<=k)/\(∀z∈zs,z∈xs)/\F=sF [0,1] fz [(5,ZQ zs u),(6,.i k)]/\h=[.tail u 1]/\m=xs.length-k) _ _ _ ⟨0,[],v1,ob,ob,(fun z hz=>by cases hz),rfl,rfl,rfl⟩ (wk [0] (fr (Yb fl))) ?_)))
 rintro m F h ⟨k,zs,u,Ye,Zk,Zw,rfl,rfl,rfl⟩
 refine YP 2 (iw (Ya xs) (Y9 ((k:Int)<(xs.length:Int)) (fun Za=>?_) (fun Za=>?_)))
 ·refine ak (aq (ab 1 (Y1 3 ?_)))
  obtain ⟨x1,Z3⟩:=Zs xs k om
  refine Zp (Zl none (k:Int) 1 (ZZ Z3)) (Z2 1 (Zx [] (Ti ys x1) (ie (XB (x1∈ys) (fun Zg=>?_) (fun Zg=>?_)))))
  ·exact az (Z2 3 (Zp (Zl none (k:Int) 1 (ZZ Z3)) (Z2 1 (iL (Z8 [x1]) 1 1 fun v2=>ZT 0 [(25,Z4 [x1])] (ip 1 (Z8 (zs++[x1])) (Z8 zs) (Z8 [x1]) u none 1 (YL _) (YL _) (Ww _) (by simp<;>omega) (by simp [Wv,Z8]) fun v3=>Z0 (az (Z2 1 (ZJ k (Z0 (ZK ⟨k+1,(zs++[x1]),v3,ob,ob,(by first|exact Zw|exact XS Zw (Y0 Z3)),rfl,rfl,rfl⟩ (wk [0] (fr (ZM k fl)))))))))))))
  exact ak (az (Z2 1 (ZJ k (Z0 (ZK ⟨k+1,zs,u,ob,ob,(by first|exact Zw|exact XS Zw (Y0 Z3)),rfl,rfl,rfl⟩ (wk [0] (fr (ZM k fl))))))))
 exact ax 0 (ar (Zo (r1 [0] ⟨zs,u,rfl,rfl,⟨by omega,Zw⟩⟩)))
theorem Lf (xs:LI) (q:Int) (hz:xs.length<=100000000:=by exact ob):Zj 296 [Z4 xs,.i q] [] (fun r h=>∃(zs:LI) (v:Value),r=ZQ zs v/\h=[.tail v 1]/\zs.length<=xs.length/\∀z∈zs,z∈xs):=by
 refine ZE 28 Tryz.func296 (Zy (ar (iL (Z8 []) 0 1 fun v1=>?_)))
 refine Z0 (Ym (ab 0 (Y4 (fun fz gz m F h=>∃(k:Nat) (zs:LI) (u:Value),(k<=xs.length)/\(zs.length<=k)/\(∀z∈zs,z∈xs)/\F=sF [0,1] fz [(5,ZQ zs u),(6,.i k)]/\h=[.tail u 1]/\m=xs.length-k) _ _ _ ⟨0,[],v1,ob,ob,(fun z hz=>by cases hz),rfl,rfl,rfl⟩ (wk [0] (fr (Yb fl))) ?_)))
 rintro m F h ⟨k,zs,u,Ye,Zk,Zw,rfl,rfl,rfl⟩
 refine YP 2 (iw (Ya xs) (Y9 ((k:Int)<(xs.length:Int)) (fun Za=>?_) (fun Za=>?_)))
 ·refine ak (aq (ab 1 (Y1 2 ?_)))
  obtain ⟨x1,Z3⟩:=Zs xs k om
  refine Zp (Zl none (k:Int) 1 (ZZ Z3)) (Y9 (x1<q) (fun Zg=>?_) (fun Zg=>?_))
  ·exact az (Z2 3 (Zp (Zl none (k:Int) 1 (ZZ Z3)) (Z2 1 (iL (Z8 [x1]) 1 1 fun v2=>ZT 0 [(25,Z4 [x1])] (ip 1 (Z8 (zs++[x1])) (Z8 zs) (Z8 [x1]) u none 1 (YL _) (YL _) (Ww _) (by simp<;>omega) (by simp [Wv,Z8]) fun v3=>Z0 (az (Z2 1 (ZJ k (Z0 (ZK ⟨k+1,(zs++[x1]),v3,ob,ob,(by first|exact Zw|exact XS Zw (Y0 Z3)),rfl,rfl,rfl⟩ (wk [0] (fr (ZM k fl)))))))))))))
  exact ak (az (Z2 1 (ZJ k (Z0 (ZK ⟨k+1,zs,u,ob,ob,(by first|exact Zw|exact XS Zw (Y0 Z3)),rfl,rfl,rfl⟩ (wk [0] (fr (ZM k fl))))))))
 exact ax 0 (ar (Zo (r1 [0] ⟨zs,u,rfl,rfl,⟨by omega,Zw⟩⟩)))
theorem Bg (op:Int) (v:Int) :Zj 90 [.i op,.i v] [] (Yn (YF (ZC op v))):=by
 exact ZE 10 Tryz.func90 (ar (iA [.i 0,.i 0,.i 0,nl,nl] fun b1=>ie (Y1 2 (iL (Z8 [v]) 1 1 fun v1=>iL (YS []) 0 2 fun v2=>Z2 1 (ZH 2 b1 [.i op,.i 0,.i 0,ZQ [v] v1,Qc [] v2] (ie (ZB (r3 [] [.agg [.i op,.i 0,.i 0,ZQ [v] v1,Qc [] v2]] [0] [(b1,b1)] ⟨rfl,rfl⟩ (Zc.agg (.cons li (.cons li (.cons li (.cons (Zc.sl _ (Yu Z8 rfl)) (.cons (Zc.sl _ (Yu YS rfl)) .nil))))))))))))))
theorem A9 (op:Int) (xs:LI) (hl:xs.length<=1000000000:=by exact ob):Zj 196 [.i op,Z4 xs] [] (fun r h=>∃(v:Value),r=Xb (xs.map (ZC op)) v/\h=[.tail v 5]):=by
 refine ZE 24 Tryz.func196 (Zy (ar (iL (ZF []) 0 5 fun v1=>?_)))
 refine Z0 (Ym (ab 0 (Y4 (fun fz gz m F h=>∃(k:Nat) (v:Value),(k<=xs.length)/\F=sF [0,1] fz [(5,Xb ((xs.take k).map (ZC op)) v),(6,.i k)]/\h=[.tail v 5]/\m=xs.length-k) _ _ _ ⟨0,v1,ob,rfl,rfl,rfl⟩ (wk [0] (fc (x:=Xb [] v1) (Zc.slh _ (Yu ZF rfl)) (Yb fl))) ?_)))
 rintro m F h ⟨k,v,Ye,rfl,rfl,rfl⟩
 refine YP 2 (iw (Ya xs) (Y9 ((k:Int)<(xs.length:Int)) (fun Za=>?_) (fun Za=>?_)))
 ·refine ak (aq (ab 1 (az (Z2 4 ?_))))
  obtain ⟨x1,Z3⟩:=Zs xs k om
  exact Zp (Zl none (k:Int) 1 (ZZ Z3)) (Z2 1 (Zx [] (Bg op x1) (iL [YF (ZC op x1)] 1 5 fun v2=>ZT 0 [(21,.sl [YF (ZC op x1)] none)] (ip 1 (ZF ((xs.take (k+1)).map (ZC op))) (ZF ((xs.take k).map (ZC op))) [YF (ZC op x1)] v none 5 (Xt _) (TH rfl) rfl (by simp<;>omega) (by rw [V1 Z3];simp [VL]) fun v3=>Z0 (az (Z2 1 (ZJ k (Z0 (ZK ⟨k+1,v3,ob,rfl,rfl,rfl⟩ (wk [0] (fr (ZM k fl))))))))))))
 exact ax 0 (ar (Zo (r2 [0] [Xb ((xs.take k).map (ZC op)) v] ⟨v,rfl,rfl⟩ (Zc.slh _ (Yu ZF (by rw [VA om]))))))
theorem Zad (n:Zm) (s:Z5) (i:Nat) (mm:Nat) (hn:X4 n:=by exact ob) (hf:FS n.decls n.routines.length mm s:=by exact ob) (hi:i<s.args.length:=by exact ob):Zj 295 [Yr n,YF s,.i i] [] (fun r h=>∃(wr:Bool),r=.b wr/\h=[]):=by
 have hal:=hf.alen
 refine ZE 42 Tryz.func295 (ar (iA (YZ n) fun b1=>iA (Xx s) fun b2=>?_))
 refine Z0 (Ym (ab 0 (Y4 (fun fz gz m F h=>∃(k:Nat),(k<=s.args.length)/\F=sF [2,3,4] fz [(7,.i k)]/\h=gz/\m=s.args.length-k) _ _ _ ⟨0,ob,rfl,rfl,rfl⟩ (wk [0,0] (Yb fl)) ?_)))
 rintro m F h ⟨k,Ye,rfl,rfl,rfl⟩
 refine Yk 3 [0] (iw (Ya s.args) (Y9 ((k:Int)<(s.args.length:Int)) (fun Za=>?_) (fun Za=>?_)))
 ·refine ak (aq (ab 1 (aD 27 (Zh 23 27 [0,1,2,3] (db (b:=((k:Int) != (i:Int))) 18 (fun Zb=>?_) (fun Zb=>?_))))))
  ·refine ZI 20 23 [4,5,6] [0] ?_
   obtain ⟨x1,Z3⟩:=Zs s.args k om
   refine dx 7 (Zl none (k:Int) 1 (ZZ Z3)) (ZI 15 19 [8,9,10,11] [0] ?_)
   obtain ⟨x2,Zr⟩:=Zs s.args i om
   refine dx 12 (Zl none (i:Int) 1 (ZZ Zr)) (Zh 10 14 [13,14,15,16] (db (b:=(x1==x2)) 31 (fun Zz=>?_) (fun Zz=>?_)))
   ·refine Zh 6 10 [17,18,19,20] (db (b:=(decide ((k:Int)>(i:Int)))) 35 (fun Yo=>?_) (fun Yo=>?_))
    ·exact Zh 0 6 [21,22,23,24,25,26] (de (W6 (ar (Zo (r1 [] ⟨true,rfl,rfl⟩)))))
    refine ZI 3 6 [21,22,23] [1,0] (Z9 24 (Yz 24 [] [] [] (Fh n s k (hnum:=hf.call)) (Zh 0 2 [25,26] (de (ac (WV n s.op s.num k) Iff.rfl (fun Zg=>?_) (fun Zg=>?_))))))
    ·exact ar (Zo (r1 [] ⟨true,rfl,rfl⟩))
    exact ak (az (Z2 1 (ZJ k (Z0 (ZK ⟨k+1,ob,rfl,rfl,rfl⟩ (wk [0,0] (ZM k fl)))))))
   exact Zh 0 10 [17,18,19,20,21,22,23,24,25,26] (de (WE (ak (az (Z2 1 (ZJ k (Z0 (ZK ⟨k+1,ob,rfl,rfl,rfl⟩ (wk [0,0] (ZM k fl))))))))))
  exact Zh 0 23 [4,5,6,7,8,9,10,11,12,13,14,15,16,17,18,19,20,21,22,23,24,25,26] (de (WE (ak (az (Z2 1 (ZJ k (Z0 (ZK ⟨k+1,ob,rfl,rfl,rfl⟩ (wk [0,0] (ZM k fl))))))))))
 exact ax 0 (ar (Zo (r1 [] ⟨false,rfl,rfl⟩)))
theorem Pw (n:Zm) (s:Z5) (i:Nat) (mm:Nat) (os:LI) (ls:LI) (hn:X4 n:=by exact ob) (hf:FS n.decls n.routines.length mm s:=by exact ob) (hi:i<s.args.length:=by exact ob) (ho:os.length<=100000000:=by exact ob) (hl:ls.length<=100000000:=by exact ob):Zj 279 [Yr n,YF s,.i i,Z4 os,Z4 ls] [] (fun r h=>∃(wr:Bool),r=.b wr/\h=[]):=by
 refine ZE 34 Tryz.func279 (ar (iA (YZ n) fun b1=>iA (Xx s) fun b2=>Z0 (Zv 4 [0] ?_)))
 obtain ⟨x1,Z3⟩:=Zs s.args i om
 refine Zp (Zl none (i:Int) 1 (ZZ Z3)) (Z2 1 (Zx [] (Ti ls x1) (Z2 1 (ib (b:=(decide (x1∈ls))) 18 (fun Zb=>?_) (fun Zb=>?_)))))
 ·exact Zo (r1 [] ⟨true,rfl,rfl⟩)
 refine ZL 4 [0] (Zp (Zl none (i:Int) 1 (ZZ Z3)) (Z2 1 (Zx [] (Ti os x1) (Z2 3 (ib (b:=(!(decide (x1∈os)))) 28 (fun Zz=>?_) (fun Zz=>?_))))))
 ·exact Zo (r1 [] ⟨true,rfl,rfl⟩)
 refine ZL 3 [1,0] (ic [] (Zad n s i mm) ?_)
 rintro _ _ ⟨wr1,rfl,rfl⟩
 exact Zo (r1 [] ⟨wr1,rfl,rfl⟩)
theorem Z9s (n:Zm) (us:LI) (s:Z5) (os:LI) (ls:LI) (mm:Nat) (hn:X4 n:=by exact ob) (hf:FS n.decls n.routines.length mm s:=by exact ob) (hvl:us.length=mm:=by exact ob) (hm:mm<=100000000:=by exact ob) (ho:os.length<=100000000:=by exact ob) (hl:ls.length<=100000000:=by exact ob):Zj 245 [Yr n,Z4 us,YF s,Z4 os,Z4 ls] [] (fun r h=>∃(zs:LI),r=Z4 zs/\h=[]/\zs.length<=s.args.length/\∀z∈zs,z∈s.args):=by
 have hal:=hf.alen
 refine ZE 43 Tryz.func245 (ar (iA (YZ n) fun b1=>iA (Xx s) fun b2=>Z0 (ar (iL (Z8 []) 0 1 fun v1=>?_))))
 refine Z0 (Ym (ab 0 (Y4 (fun fz gz m F h=>∃(k:Nat) (zs:LI) (u:Value),(k<=s.args.length)/\(zs.length<=k)/\(∀z∈zs,z∈s.args)/\F=sF [1,3,4,5,7] fz [(11,ZQ zs u),(12,.i k)]/\h=[Zd gz 1,Zd gz 2,.tail u 1]/\m=s.args.length-k) _ _ _ ⟨0,[],v1,ob,ob,(fun z hz=>by cases hz),rfl,rfl,rfl⟩ (wk [1,1,0] (fr (Yb fl))) ?_)))
 rintro m F h ⟨k,zs,u,Ye,Zk,Zw,rfl,rfl,rfl⟩
 refine Yk 3 [0] (iw (Ya s.args) (Y9 ((k:Int)<(s.args.length:Int)) (fun Za=>?_) (fun Za=>?_)))
 ·obtain ⟨a1,ha1⟩:=Zs s.args k om
  have har:=hf.args a1 (Y0 ha1)
  refine ak (aq (ab 1 (Zv 4 [1,0] (Zx [] (Ht n us s k a1 (hnum:=hf.call) (ha:=ha1)) (Z2 1 (ib (b:=Q4 n us s.op s.num a1 k) 26 (fun Zb=>?_) (fun Zb=>?_)))))))
  ·refine ZL 5 [1,0] (ic [] (Pw n s k mm os ls) ?_)
   rintro _ _ ⟨wr1,rfl,rfl⟩
   refine YD wr1 Iff.rfl (fun Zg=>?_) (fun Zg=>?_)
   ·exact az (ZL 4 [0] (Zp (Zl none (k:Int) 1 (ZZ ha1)) (Z2 1 (iL (Z8 [a1]) 1 1 fun v2=>ZT 0 [(40,Z4 [a1])] (ip 3 (Z8 (zs++[a1])) (Z8 zs) (Z8 [a1]) u none 1 (YL _) (YL _) (Ww _) (by simp<;>omega) (by simp [Wv,Z8]) fun v3=>Z0 (az (Z2 1 (ZJ k (Z0 (ZK ⟨k+1,(zs++[a1]),v3,ob,ob,(by first|exact Zw|exact XS Zw (Y0 ha1)),rfl,rfl,rfl⟩ (wk [2,2,0] (fr (ZM k fl)))))))))))))
   exact ak (az (Z2 1 (ZJ k (Z0 (ZK ⟨k+1,zs,u,ob,ob,(by first|exact Zw|exact XS Zw (Y0 ha1)),rfl,rfl,rfl⟩ (ZG 3 (fr (ZM k fl))))))))
  exact Z0 (WE (ak (az (Z2 1 (ZJ k (Z0 (ZK ⟨k+1,zs,u,ob,ob,(by first|exact Zw|exact XS Zw (Y0 ha1)),rfl,rfl,rfl⟩ (ZG 3 (fr (ZM k fl))))))))))
 exact ax 0 (ar (Zo (r2 [] [ZQ zs u] ⟨zs,rfl,rfl,⟨by omega,Zw⟩⟩ (Zc.forget _ _))))
theorem Za6 (n:Zm) (us:LI) (s:Z5) (os:LI) (ls:LI) (mm:Nat) (hn:X4 n:=by exact ob) (hf:FS n.decls n.routines.length mm s:=by exact ob) (hvl:us.length=mm:=by exact ob) (hm:mm<=100000000:=by exact ob) (ho:os.length<=100000000:=by exact ob) (hl:ls.length<=100000000:=by exact ob):Zj 247 [Yr n,Z4 us,YF s,Z4 os,Z4 ls] [] (fun r h=>∃(zs:LI) (v:Value),r=ZQ zs v/\h=[.tail v 1]/\zs.length<=os.length/\∀z∈zs,z∈os):=by
 have hal:=hf.alen
 refine ZE 55 Tryz.func247 (ar (iA (YZ n) fun b1=>iA (Xx s) fun b2=>Z0 (Yk 4 [0] (ib (b:=(s.op==7)) 16 (fun Zb=>?_) (fun Zb=>?_)))))
 ·refine Z0 (W6 (Y1 2 (ic [] (Pr os ls) ?_)))
  rintro _ _ ⟨zs1,v1,rfl,rfl,Yi⟩
  have hco:=Yi
  exact Zo (r1 [0] ⟨zs1,v1,rfl,rfl,(by first|exact hco|exact ⟨by omega,Zw⟩)⟩)
 refine VX [0] (ac (s.op==8) Zq (fun Za=>?_) (fun Za=>?_))
 ·refine Y1 2 (ic [] (Pr os ls) ?_)
  rintro _ _ ⟨zs2,v2,rfl,rfl,YR⟩
  have hco:=YR
  exact Zo (r1 [0] ⟨zs2,v2,rfl,rfl,(by first|exact hco|exact ⟨by omega,Zw⟩)⟩)
 refine ak (Y1 1 (ic [] (T2 os) ?_))
 rintro _ _ ⟨v3,rfl,rfl⟩
 refine Z0 (Ym (ab 0 (Y4 (fun fz gz m F h=>∃(k:Nat) (zs:LI) (u:Value),(k<=s.args.length)/\(zs.length<=os.length)/\(∀z∈zs,z∈os)/\F=sF [1,3,4,5,7] fz [(11,ZQ zs u),(12,.i k)]/\h=[Zd gz 1,Zd gz 2,.tail u 1]/\m=s.args.length-k) _ _ _ ⟨0,os,v3,ob,ob,(fun z hz=>hz),rfl,rfl,rfl⟩ (wk [1,1,0] (fr (Yb fl))) ?_)))
 rintro m F h ⟨k,zs,u,Ye,Zk,Zw,rfl,rfl,rfl⟩
 refine Yk 3 [0] (iw (Ya s.args) (Y9 ((k:Int)<(s.args.length:Int)) (fun Zg=>?_) (fun Zg=>?_)))
 ·obtain ⟨a1,ha1⟩:=Zs s.args k om
  have har:=hf.args a1 (Y0 ha1)
  refine ak (aq (ab 1 (Zv 4 [1,0] (Zx [] (Ht n us s k a1 (hnum:=hf.call) (ha:=ha1)) (Z2 1 (ib (b:=Q4 n us s.op s.num a1 k) 38 (fun Zz=>?_) (fun Zz=>?_)))))))
  ·refine ZL 5 [1,0] (ic [] (Pw n s k mm os ls) ?_)
   rintro _ _ ⟨wr1,rfl,rfl⟩
   refine YD (!wr1) (p:=¬(wr1=true)) (Yl Iff.rfl) (fun ZD=>?_) (fun ZD=>?_)
   ·refine az (ZL 4 [0] (Zp (Zl none (k:Int) 1 (ZZ ha1)) (ZT 1 [(47,Z4 zs)] (ic [] (PE zs a1) ?_))))
    rintro _ _ ⟨v4,rfl,rfl⟩
    exact Z0 (az (Z2 1 (ZJ k (Z0 (ZK ⟨k+1,(Qx zs a1),v4,ob,(by first|exact Zk|exact VB (EU _ _) Zk),(by first|exact Zw|exact (fun z hz=>Zw z (Dz hz))),rfl,rfl,rfl⟩ (wk [1,1,0] (fr (ZM k fl))))))))
   exact ak (az (Z2 1 (ZJ k (Z0 (ZK ⟨k+1,zs,u,ob,(by first|exact Zk|exact VB (EU _ _) Zk),(by first|exact Zw|exact (fun z hz=>Zw z (Dz hz))),rfl,rfl,rfl⟩ (ZG 3 (fr (ZM k fl))))))))
  exact Z0 (WE (ak (az (Z2 1 (ZJ k (Z0 (ZK ⟨k+1,zs,u,ob,(by first|exact Zk|exact VB (EU _ _) Zk),(by first|exact Zw|exact (fun z hz=>Zw z (Dz hz))),rfl,rfl,rfl⟩ (ZG 3 (fr (ZM k fl))))))))))
 exact ax 0 (ar (Zo (r1 [2] ⟨zs,u,rfl,rfl,(by first|exact hco|exact ⟨by omega,Zw⟩)⟩)))
theorem Za7 (n:Zm) (s:Z5) (os:LI) (ls:LI) (mm:Nat) (hn:X4 n:=by exact ob) (hf:FS n.decls n.routines.length mm s:=by exact ob) (ho:os.length<=100000000:=by exact ob) (hl:ls.length<=100000000:=by exact ob):Zj 248 [Yr n,YF s,Z4 os,Z4 ls] [] (fun r h=>∃(zs:LI),r=Z4 zs/\h=[]/\zs.length<=s.args.length/\∀z∈zs,z∈s.args):=by
 have hal:=hf.alen
 refine ZE 50 Tryz.func248 (ar (iA (YZ n) fun b1=>iA (Xx s) fun b2=>Z0 (ar (iL (Z8 []) 0 1 fun v1=>?_))))
 refine Z0 (Ym (ab 0 (Y4 (fun fz gz m F h=>∃(k:Nat) (zs:LI) (u:Value),(k<=s.args.length)/\(zs.length<=k)/\(∀z∈zs,z∈s.args)/\F=sF [2,3,4,5] fz [(9,ZQ zs u),(10,.i k)]/\h=[Zd gz 1,Zd gz 2,.tail u 1]/\m=s.args.length-k) _ _ _ ⟨0,[],v1,ob,ob,(fun z hz=>by cases hz),rfl,rfl,rfl⟩ (wk [1,1,0] (fr (Yb fl))) ?_)))
 rintro m F h ⟨k,zs,u,Ye,Zk,Zw,rfl,rfl,rfl⟩
 refine Yk 3 [0] (iw (Ya s.args) (Y9 ((k:Int)<(s.args.length:Int)) (fun Za=>?_) (fun Za=>?_)))
 ·obtain ⟨a1,ha1⟩:=Zs s.args k om
  have har:=hf.args a1 (Y0 ha1)
  refine ak (aq (ab 1 (Zv 3 [1,0] (Zx [] (Fh n s k (hnum:=hf.call)) (XD 13 [2,3,4,5,9,10] [(31,.b (WV n s.op s.num k&&(decide (a1∈os))))] (fun gz=>gz) ?_ (fun hj1=>?_))))))
  ·refine Xv [2,3,4,5,9,10] [(41,.b ((WV n s.op s.num k&&(decide (a1∈os)))&&(!(decide (a1∈ls)))))] (fun gz=>gz) ?_ ?_
   ·refine Z2 1 (ib (b:=(WV n s.op s.num k&&(decide (a1∈os)))) 32 (fun Zb=>?_) (fun Zb=>?_))
    ·exact ZL 4 [0] (Zp (Zl none (k:Int) 1 (ZZ ha1)) (Z2 1 (Zx [] (Ti ls a1) (Z0 (ZG 3 (Zt (!(decide (a1∈ls))) Zb fl))))))
    exact Z0 (ZG 3 (Zt false Zb fl))
   refine ac ((WV n s.op s.num k&&(decide (a1∈os)))&&(!(decide (a1∈ls)))) (p:=((WV n s.op s.num k=true)/\(a1∈os))/\(¬(a1∈ls))) (YK (YK Iff.rfl dq) (Yl dq)) (fun Zg=>?_) (fun Zg=>?_)
   ·refine az (ZL 4 [0] (Zp (Zl none (k:Int) 1 (ZZ ha1)) (ZT 1 [(42,Z4 zs)] (ic [] (Gk zs a1) ?_))))
    rintro _ _ ⟨v2,rfl,rfl⟩
    exact Z0 (az (Z2 1 (ZJ k (Z0 (ZK ⟨k+1,(TD zs a1),v2,ob,(by first|omega|(have:=EC zs a1;omega)),(by first|exact Zw|exact (fun z hz=>(Lw.1 hz).elim (Zw z) (fun e=>e▸Y0 ha1))),rfl,rfl,rfl⟩ (wk [1,1,0] (fr (ZM k fl))))))))
   exact ak (az (Z2 1 (ZJ k (Z0 (ZK ⟨k+1,zs,u,ob,(by first|omega|(have:=EC zs a1;omega)),(by first|exact Zw|exact (fun z hz=>(Lw.1 hz).elim (Zw z) (fun e=>e▸Y0 ha1))),rfl,rfl,rfl⟩ (ZG 3 (fr (ZM k fl))))))))
  refine Z2 1 (ib (b:=WV n s.op s.num k) 23 (fun Zz=>?_) (fun Zz=>?_))
  ·exact ZL 4 [0] (Zp (Zl none (k:Int) 1 (ZZ ha1)) (Z2 1 (Zx [] (Ti os a1) (Z2 1 (Yp (ZG 3 (Zt (decide (a1∈os)) Zz fl)) hj1)))))
  exact Z2 8 (Yp (ZG 3 (Zt false Zz fl)) hj1)
 exact ax 0 (ar (Zo (r2 [] [ZQ zs u] ⟨zs,rfl,rfl,⟨by omega,Zw⟩⟩ (Zc.forget _ _))))
theorem Hu (rt:Yc) (b:Z6) (hp:rt.params.length<=4294967296:=by exact ob) (hl:rt.lent.length<=4294967296:=by exact ob):Zj 82 [K5 rt,Y7 b] [] (Yn (K5 (Yc.mk rt.params rt.lent rt.result b))):=by
 refine ZE 15 Tryz.func82 (ar (iA (TG rt) fun b1=>iA (Xs b) fun b2=>iA [nl,nl,.i 0,nl,.i 0] fun b3=>ie (aD 11 (ZI 4 11 [0,1,3,4,6,7,8] [2,2,2,1] (Z9 2 (dc 2 [] [1,2,2] [b2,b1,b1] (T2 rt.params) ?_))))))
 rintro _ _ ⟨v1,rfl,rfl⟩
 refine Z9 5 (dc 5 [] [1,2] [b2,b1] (T2 rt.lent) ?_)
 rintro _ _ ⟨v2,rfl,rfl⟩
 exact Zh 1 2 [9] (Z9 10 (YO 10 2 [] [] b3 [ZQ rt.params v1,ZQ rt.lent v2,.i rt.result,Vs b.steps,.i b.result] (de (ZB (r3 [] [.agg [ZQ rt.params v1,ZQ rt.lent v2,.i rt.result,Vs b.steps,.i b.result]] [0] [(b3,b3)] ⟨rfl,rfl⟩ (Zc.agg (.cons (Zc.sl _ (Yu Z8 ob)) (.cons (Zc.sl _ (Yu Z8 ob)) (.cons li (.cons (Zc.sl _ (Yu ZF ob)) (.cons li .nil)))))))))))
theorem Z9n (n:Zm) (us:LI) (fds:LI) (kd:Z6) (os:LI) (ls:LI) (mm:Nat) (bb:Nat) (hn:X4 n:=by exact ob) (hf:fB n.decls n.routines.length (mm+fds.length) kd:=by exact ob) (hop:Ur WX kd:=by exact ob) (hul:us.length=mm:=by exact ob) (hfl:fds.length<=3:=by exact ob) (hm:mm+3+4*kd.sz<=100000:=by exact ob) (hor:∀v∈os,0<=v/\v<(mm:Int)) (hol:os.length+3+4*kd.sz<=730:=by exact ob) (hal:ls.length+2000*kd.sz<=1000000:=by exact ob) (hbz:kd.sz<=500:=by exact ob) (hb:kd.sz<bb:=by exact ob) (ih:∀(us2:LI) (b2:Z6) (os2:LI) (as2:LI) (m2:Nat),(fB n.decls n.routines.length m2 b2)->(Ur WX b2)->(us2.length=m2)->(m2+4*b2.sz<=100000)->(∀v∈os2,0<=v/\v<(m2:Int))->(os2.length+4*b2.sz<=730)->(as2.length+2000*b2.sz<=1000000)->(b2.sz<=500)->(b2.sz<bb)->Zj 202 [Yr n,Z4 us2,Y7 b2,Z4 os2,Z4 as2] [] (fun r h=>∃(y:Z6),r=Y7 y/\h=[]/\KB n.decls n.routines.length m2 y (4500*b2.sz))):Zj 280 [Yr n,Z4 us,Z4 fds,Y7 kd,Z4 os,Z4 ls] [] (fun r h=>∃(y:Z6),r=Y7 y/\h=[]/\KB n.decls n.routines.length (mm+fds.length) y (4500*kd.sz+1470)):=by
 refine ZE 115 Tryz.func280 (ar (iA (YZ n) fun b1=>iA (Xs kd) fun b2=>iA [nl,.i 0] fun b3=>ie (Y1 1 (iw (Ya us) (Z0 (Y1 2 (ic [] (KG us fds) ?_)))))))
 rintro _ _ ⟨v1,rfl,rfl⟩
 refine Z0 (Zv 2 [2] (io (.i (((us++fds).length:Nat):Int)) (.i (((Z8 (us++fds)).length:Nat):Int)) (li (by rw [Ya])) (Zx [] (Z1u kd (((us++fds).length:Nat):Int)) ?_)))
 have hub:=HB (n:=(((us++fds).length:Nat):Int)) kd []
 simp only [XJ,Vl] at hub
 refine Z0 (ar (iL (Z8 []) 0 1 fun v2=>Z0 (ar (iL (Z8 []) 0 1 fun v3=>?_))))
 refine Z0 (Ym (ab 0 (Y4 (fun fz gz m F h=>∃(k:Nat) (ms:LI) (u:Value) (dr:LI) (w:Value),(k<=os.length)/\(ms.length<=k)/\(dr.length<=k)/\(∀v∈ms,0<=v/\v<(mm:Int))/\(∀v∈dr,0<=v/\v<(mm:Int))/\F=sF [2,4,5,6,9,12,13,15] fz [(14,Z4 (us++fds)),(16,ZQ ms u),(17,ZQ dr w),(18,.i k)]/\h=[Zd gz 3,Zd gz 4,Zd gz 5,.tail u 1,.tail w 1]/\m=os.length-k) _ _ _ ⟨0,[],v2,[],v3,ob,ob,ob,(fun v hv=>by cases hv),(fun v hv=>by cases hv),rfl,rfl,rfl⟩ (wk [3,3,3,1,0] (fc (x:=ZQ (us++fds) v1) (Zc.forget _ _) (fw (Yb fl)))) ?_)))
 rintro m F h ⟨k,ms,u,dr,w,Ye,Zk,Zw,Yy,XU,rfl,rfl,rfl⟩
 refine YP 2 (iw (Ya os) (Y9 ((k:Int)<(os.length:Int)) (fun Za=>?_) (fun Za=>?_)))
 ·obtain ⟨o1,ho1⟩:=Zs os k om
  have hor1:=hor o1 (Y0 ho1)
  refine ak (aq (ab 1 (Y1 3 (Zp (Zl none (k:Int) 1 (ZZ ho1)) (Z2 1 (Zx [] (Ti (Tk (((us++fds).length:Nat):Int) kd []) o1) (Xv [2,4,5,6,9,12,13,14,15,16,17,18] [(53,.b ((decide (o1∈(Tk (((us++fds).length:Nat):Int) kd [])))||(decide (o1∈ls))))] (fun gz=>gz) ?_ ?_)))))))
  ·refine Z2 1 (ib (b:=(decide (o1∈(Tk (((us++fds).length:Nat):Int) kd [])))) 46 (fun Zb=>?_) (fun Zb=>?_))
   ·exact Z0 (ZG 5 (Zt true Zb fl))
   exact Z2 3 (Zp (Zl none (k:Int) 1 (ZZ ho1)) (Z2 1 (Zx [] (Ti ls o1) (Z0 (ZG 5 (Zt (decide (o1∈ls)) Zb fl))))))
  refine ac ((decide (o1∈(Tk (((us++fds).length:Nat):Int) kd [])))||(decide (o1∈ls))) (p:=(o1∈(Tk (((us++fds).length:Nat):Int) kd []))∨(o1∈ls)) (Yh dq dq) (fun Zg=>?_) (fun Zg=>?_)
  ·exact az (Z2 3 (Zp (Zl none (k:Int) 1 (ZZ ho1)) (Z2 1 (iL (Z8 [o1]) 1 1 fun v4=>ZT 0 [(59,Z4 [o1])] (ip 4 (Z8 (ms++[o1])) (Z8 ms) (Z8 [o1]) u none 1 (YL _) (YL _) (Ww _) (by simp<;>omega) (by simp [Wv,Z8]) fun v5=>Z0 (az (Z2 1 (ZJ k (Z0 (ZK ⟨k+1,(ms++[o1]),v5,dr,w,ob,ob,ob,(by first|exact Yy|exact XS Yy hor1),(by first|exact XU|exact XS XU hor1),rfl,rfl,rfl⟩ (wk [2,2,2,0,1] (fw (fr (ZM k fl))))))))))))))
  exact az (Z2 3 (Zp (Zl none (k:Int) 1 (ZZ ho1)) (Z2 1 (iL (Z8 [o1]) 1 1 fun v6=>ZT 0 [(66,Z4 [o1])] (ip 5 (Z8 (dr++[o1])) (Z8 dr) (Z8 [o1]) w none 1 (YL _) (YL _) (Ww _) (by simp<;>omega) (by simp [Wv,Z8]) fun v7=>Z0 (az (Z2 1 (ZJ k (Z0 (ZK ⟨k+1,ms,u,(dr++[o1]),v7,ob,ob,ob,(by first|exact Yy|exact XS Yy hor1),(by first|exact XU|exact XS XU hor1),rfl,rfl,rfl⟩ (wk [2,2,2,2,0] (fw (fr (ZM k fl))))))))))))))
 refine ax 0 (ar (iL (Z8 []) 0 1 fun v8=>?_))
 refine Z0 (Ym (ab 2 (Y4 (fun fz gz m F h=>∃(k:Nat) (ps:LI) (w2:Value),(k<=fds.length)/\(ps.length<=k)/\(∀v∈ps,(mm:Int)<=v/\v<((mm+fds.length:Nat):Int))/\F=sF [2,5,6,9,12,13,14,15,16,17] fz [(19,ZQ ps w2),(20,.i k)]/\h=[Zd gz 1,Zd gz 2,Zd gz 3,Zd gz 4,Zd gz 5,.tail w2 1]/\m=fds.length-k) _ _ _ ⟨0,[],v8,ob,ob,(fun v hv=>by cases hv),rfl,rfl,rfl⟩ (wk [1,1,1,1,1,0] (fr (Yb fl))) ?_)))
 rintro m F h ⟨k,ps,w2,U7,XO,XP,rfl,rfl,rfl⟩
 refine YP 2 (iw (Ya fds) (Y9 ((k:Int)<(fds.length:Int)) (fun ZD=>?_) (fun ZD=>?_)))
 ·refine ak (aq (ab 3 (Y1 2 ?_)))
  obtain ⟨x1,Z3⟩:=Zs fds k om
  refine Zp (Zl none (k:Int) 1 (ZZ Z3)) (Xv [2,5,6,9,12,13,14,15,16,17,19,20] [(86,.b ((x1 != 0)&&(decide (((us.length+k:Nat):Int)∈(Tk (((us++fds).length:Nat):Int) kd [])))))] (fun gz=>gz) ?_ ?_)
  ·refine Z2 3 (ib (b:=(x1 != 0)) 80 (fun Zz=>?_) (fun Zz=>?_))
   ·exact Z2 3 (ia (((us.length+k:Nat):Int)) (((us.length:Int))+((k:Int))) (Zx [] (Ti (Tk (((us++fds).length:Nat):Int) kd []) ((us.length+k:Nat):Int)) (Z0 (ZG 6 (Zt (decide (((us.length+k:Nat):Int)∈(Tk (((us++fds).length:Nat):Int) kd []))) Zz fl)))))
   exact Z0 (ZG 6 (Zt false Zz fl))
  refine ac ((x1 != 0)&&(decide (((us.length+k:Nat):Int)∈(Tk (((us++fds).length:Nat):Int) kd [])))) (p:=(x1≠0)/\(((us.length+k:Nat):Int)∈(Tk (((us++fds).length:Nat):Int) kd []))) (YK Y3 dq) (fun Yj=>?_) (fun Yj=>?_)
  ·exact az (Z2 3 (ia (((us.length+k:Nat):Int)) (((us.length:Int))+((k:Int))) (iL (Z8 [((us.length+k:Nat):Int)]) 1 1 fun v9=>ZT 0 [(91,Z4 [((us.length+k:Nat):Int)])] (ip 6 (Z8 (ps++[((us.length+k:Nat):Int)])) (Z8 ps) (Z8 [((us.length+k:Nat):Int)]) w2 none 1 (YL _) (YL _) (Ww _) (by simp<;>omega) (by simp [Wv,Z8]) fun v10=>Z0 (az (Z2 1 (ZJ k (Z0 (ZK ⟨k+1,(ps++[((us.length+k:Nat):Int)]),v10,ob,ob,(by first|exact XP|exact XS XP om),rfl,rfl,rfl⟩ (wk [2,2,2,2,2,0] (fr (ZM k fl))))))))))))
  exact ak (az (Z2 1 (ZJ k (Z0 (ZK ⟨k+1,ps,w2,ob,ob,(by first|exact XP|exact XS XP om),rfl,rfl,rfl⟩ (ZG 6 (fr (ZM k fl))))))))
 refine ax 2 (ar (ZT 1 [(93,Z4 ps)] (ic [] (A9 14 ps) ?_)))
 rintro _ _ ⟨v11,rfl,rfl⟩
 refine ZT 1 [(95,Z4 dr)] (ic [] (A9 15 dr) ?_)
 rintro _ _ ⟨v12,rfl,rfl⟩
 refine ZT 0 [(96,Vs (dr.map (ZC 15)))] (ip 1 (ZF ((ps.map (ZC 14))++(dr.map (ZC 15)))) (ZF (ps.map (ZC 14))) (ZF (dr.map (ZC 15))) v11 none 5 (Xt _) (Xt _) (UF _) (by simp<;>omega) (by simp [V6,ZF]) fun v13=>?_)
 refine Z0 (aD 12 (ZI 5 12 [0,1,2,3,4,6,7] [4,3] (Jo (fun fz gz F h=>∃(y1:Z6) (b4:Nat) (zs1:LI),(zs1.length<=ls.length/\∀z∈zs1,z∈ls)/\(KB n.decls n.routines.length (mm+fds.length) y1 (4500*kd.sz))/\F=sF [12,21] fz [(22,.p b4 0)]/\h=[.obj b4 (Xs y1),Zd gz 0,Zd gz 1,Zd gz 2,Zd gz 3,Zd gz 4,Zd gz 6,Zd gz 7]) ?_ ?_)))
 ·refine VJ 5 10 ?_ ?_
  ·refine dp 5 5 [1,2] [b2,b1] (Z8 (ms++ps)) (Z8 ms) (Z8 ps) u (some w2) 1 (YL _) (YL _) (Ww _) (by simp<;>omega) (by simp [Wv,Z8]) fun v14=>VJ 8 10 ?_ ?_
   ·refine dc 8 [] [1,2] [b2,b1] (Lf ls (us.length:Int)) ?_
    rintro _ _ ⟨zs1,v15,rfl,rfl,Xk⟩
    have hbl:=Xk
    refine YA 3 3 [] [(103,Z4 (ms++ps)),(106,Z4 zs1)] (VJ 9 10 ?_ ?_)
    ·refine dc 9 [] [] [] (ih (us++fds) kd (ms++ps) zs1 (mm+fds.length) hf hop (by rw [Ys,hul]) ob (fun v hv=>by rcases Xi.1 hv with h|h;exact (by have:=Yy v h;omega);exact (by have:=XP v h;omega)) (by rw [Ys];omega) ob ob ob) ?_
     rintro _ _ ⟨y1,rfl,rfl,XX⟩
     have hkb:=XX
     have hkl:=hkb.len
     exact Z9 10 (dA 10 [] [] [nl,.i 0] fun b4=>Z9 11 (YO 11 0 [] [] b4 (Xs y1) (de (ZV ⟨_,b4,_,(by assumption),(by assumption),rfl,rfl⟩ (wk [0,2,2,2,2,2,2,2] fl)))))
    refine dA 10 [1,2] [b2,b1] [nl,.i 0] fun b5=>Z9 9 (dc 9 [] [] [] (ih (us++fds) kd (ms++ps) zs1 (mm+fds.length) hf hop (by rw [Ys,hul]) ob (fun v hv=>by rcases Xi.1 hv with h|h;exact (by have:=Yy v h;omega);exact (by have:=XP v h;omega)) (by rw [Ys];omega) ob ob ob) ?_)
    rintro _ _ ⟨y2,rfl,rfl,WA⟩
    have hkb:=WA
    have hkl:=hkb.len
    exact Z9 11 (YO 11 0 [] [] b5 (Xs y2) (de (ZV ⟨_,b5,_,(by assumption),(by assumption),rfl,rfl⟩ (wk [0,2,2,2,2,2,2,2] fl))))
   refine dA 10 [1,2] [b2,b1] [nl,.i 0] fun b6=>Z9 8 (dc 8 [] [2,3] [b2,b1] (Lf ls (us.length:Int)) ?_)
   rintro _ _ ⟨zs2,v16,rfl,rfl,WY⟩
   have hbl:=WY
   refine YA 2 2 [] [(103,Z4 (ms++ps)),(106,Z4 zs2)] (Z9 9 (dc 9 [] [] [] (ih (us++fds) kd (ms++ps) zs2 (mm+fds.length) hf hop (by rw [Ys,hul]) ob (fun v hv=>by rcases Xi.1 hv with h|h;exact (by have:=Yy v h;omega);exact (by have:=XP v h;omega)) (by rw [Ys];omega) ob ob ob) ?_))
   rintro _ _ ⟨y3,rfl,rfl,Vr⟩
   have hkb:=Vr
   have hkl:=hkb.len
   exact Z9 11 (YO 11 1 [] [] b6 (Xs y3) (de (ZV ⟨_,b6,_,(by assumption),(by assumption),rfl,rfl⟩ (wk [0,2,2,2,2,2,2,2] fl))))
  refine dA 10 [1,2] [b2,b1] [nl,.i 0] fun b7=>YA 4 4 [] [(102,Z4 ps)] (Z9 5 (dp 5 6 [2,3] [b2,b1] (Z8 (ms++ps)) (Z8 ms) (Z8 ps) u none 1 (YL _) (YL _) (Ww _) (by simp<;>omega) (by simp [Wv,Z8]) fun v17=>Z9 8 (dc 8 [] [2,3] [b2,b1] (Lf ls (us.length:Int)) ?_)))
  rintro _ _ ⟨zs3,v18,rfl,rfl,UH⟩
  have hbl:=UH
  refine YA 2 2 [] [(103,Z4 (ms++ps)),(106,Z4 zs3)] (Z9 9 (dc 9 [] [] [] (ih (us++fds) kd (ms++ps) zs3 (mm+fds.length) hf hop (by rw [Ys,hul]) ob (fun v hv=>by rcases Xi.1 hv with h|h;exact (by have:=Yy v h;omega);exact (by have:=XP v h;omega)) (by rw [Ys];omega) ob ob ob) ?_))
  rintro _ _ ⟨y4,rfl,rfl,T0⟩
  have hkb:=T0
  have hkl:=hkb.len
  exact Z9 11 (YO 11 2 [] [] b7 (Xs y4) (de (ZV ⟨_,b7,_,(by assumption),(by assumption),rfl,rfl⟩ (wk [0,2,2,2,2,2,2,2] fl))))
 rintro F h ⟨y1,b4,zs1,Xk,XX,rfl,rfl⟩
 have hbl:=Xk
 have hkb:=XX
 have hkl:=hkb.len
 exact aD 8 (ZI 3 8 [0,1,2,4,5] [0,0] (Z9 3 (dp 3 1 [0] [b4] (ZF (((ps.map (ZC 14))++(dr.map (ZC 15)))++y1.steps)) (ZF ((ps.map (ZC 14))++(dr.map (ZC 15)))) (ZF y1.steps) v13 none 5 (Xt _) (Xt _) (UF _) (by simp<;>omega) (by simp [V6,ZF]) fun v19=>Zh 1 2 [6] (Z9 7 (YO 7 3 [] [] b3 [Xb (((ps.map (ZC 14))++(dr.map (ZC 15)))++y1.steps) v19,.i y1.result] (de (ZB (r3 [] [.agg [Xb (((ps.map (ZC 14))++(dr.map (ZC 15)))++y1.steps) v19,.i y1.result]] [0] [(b3,b3)] ⟨(Z6.mk (((ps.map (ZC 14))++(dr.map (ZC 15)))++y1.steps) y1.result),rfl,rfl,((hkb.put (fun v hv=>by have:=XP v hv;omega) (fun v hv=>by have:=XU v hv;omega)).le om)⟩ (Zc.agg (.cons (Zc.forget _ _) (.cons (lr _) .nil)))))))))))
theorem Z9o (n:Zm) (us:LI) (s:Z5) (os:LI) (ls:LI) (mm:Nat) (bb:Nat) (hn:X4 n:=by exact ob) (hf:FS n.decls n.routines.length mm s:=by exact ob) (h11:s.op<=11:=by exact ob) (hop:J8 WX s.kids:=by exact ob) (hul:us.length=mm:=by exact ob) (hm:mm+4*s.sz<=100000:=by exact ob) (hor:∀v∈os,0<=v/\v<(mm:Int)) (hol:os.length+4*s.sz<=730:=by exact ob) (hal:ls.length+2000*s.sz<=1000000:=by exact ob) (hbz:s.sz<=500:=by exact ob) (hb:s.sz<=bb:=by exact ob) (ih:∀(us2:LI) (b2:Z6) (os2:LI) (as2:LI) (m2:Nat),(fB n.decls n.routines.length m2 b2)->(Ur WX b2)->(us2.length=m2)->(m2+4*b2.sz<=100000)->(∀v∈os2,0<=v/\v<(m2:Int))->(os2.length+4*b2.sz<=730)->(as2.length+2000*b2.sz<=1000000)->(b2.sz<=500)->(b2.sz<bb)->Zj 202 [Yr n,Z4 us2,Y7 b2,Z4 os2,Z4 as2] [] (fun r h=>∃(y:Z6),r=Y7 y/\h=[]/\KB n.decls n.routines.length m2 y (4500*b2.sz))):Zj 246 [Yr n,Z4 us,YF s,Z4 os,Z4 ls] [] (fun r h=>∃(y:Z5),r=YF y/\h=[]/\KT n.decls n.routines.length mm y (4500*X3 s.kids+4420)):=by
 have Xz:=hn.decls
 have hkf:=hf.few Xz
 have hsa:=hf.alen
 refine ZE 62 Tryz.func246 (ar (iA (YZ n) fun b1=>iA (Xx s) fun b2=>iA [.i 0,.i 0,.i 0,nl,nl] fun b3=>ie (ar (iL (YS []) 0 2 fun v1=>Z0 (Zv 4 [3,2] (ic [] (Bf n.decls s.num) ?_))))))
 rintro _ _ ⟨v2,rfl,rfl⟩
 refine Z0 (Ym (ab 0 (Y4 (fun fz gz m F h=>∃(k:Nat) (ks:List Z6) (u:Value),(k<=s.kids.length)/\(ks.length=k)/\(KK n.decls n.routines.length (Qz n.decls s.op s.num mm) ks (4500*X3 (s.kids.take k)+1470*k))/\F=sF [1,3,4,5,7,10] fz [(11,Qc ks u),(12,Z4 (ZW n.decls s.num)),(13,.i k)]/\h=[Zd gz 2,Zd gz 3,Zd gz 4,.tail u 2]/\m=s.kids.length-k) _ _ _ ⟨0,[],v1,ob,ob,(KK.nil.le (Af _)),rfl,rfl,rfl⟩ (wk [2,2,2,1] (fr (fc (x:=ZQ (ZW n.decls s.num) v2) (Zc.forget _ _) (Yb fl)))) ?_)))
 rintro m F h ⟨k,ks,u,Ye,Zk,Zw,rfl,rfl,rfl⟩
 refine Yk 3 [1] (iw (U8 s.kids) (Y9 ((k:Int)<(s.kids.length:Int)) (fun Za=>?_) (fun Za=>?_)))
 ·refine ak (aq (ab 1 (ar (iL (Z8 []) 0 1 fun v3=>?_))))
  refine Z0 (X7 (VX [2] (Wj (fun fz gz F h=>∃(fds:LI),(Qz n.decls s.op s.num mm k=mm+fds.length)/\(fds.length<=3)/\F=sF [1,3,4,5,7,10,11,12,13] fz [(14,Z4 fds)]/\h=[Zd gz 1,Zd gz 2,Zd gz 3,Zd gz 4]) ?_ ?_)))
  ·refine ac (s.op==8) Zq (fun Zg=>?_) (fun Zg=>?_)
   ·refine aE 8 (ZI 4 8 [0,1,2,3] [3] ?_)
    obtain ⟨x1,Z3⟩:=Zs (ZW n.decls s.num) k (by have:=hf.k8 (by assumption);omega)
    have hcf:=Uu Xz x1
    exact dx 4 (Zl none (k:Int) 1 (ZZ Z3)) (Zh 2 3 [5] (Z9 6 (Yz 6 [] [] [] (JD n.decls x1) (Zh 0 1 [7] (de (ZV ⟨ZX n.decls x1,(MA (by assumption) Z3),ob,rfl,rfl⟩ (wk [1,1,1,1] fl)))))))
   exact ak (ZV ⟨[],(by rw [MB (by assumption)];rfl),ob,rfl,rfl⟩ (wk [1,1,1,1] fl))
  rintro F h ⟨fds,Ky,GM,rfl,rfl⟩
  refine aE 15 (ZI 8 15 [0,1,2,3,4,5,6] [2,1] ?_)
  obtain ⟨x2,Zr⟩:=Zs s.kids k om
  have hkz:=TF Zr
  have hfk:=G7 hf.kids Zr
  rw [Vl,Ky] at hfk
  have hok:=ET.1 hop x2 (Y0 Zr)
  have hbt:=Ib Zr
  have hba:=E9 Zr
  refine dx 7 (Zl none (k:Int) 2 (UV Zr)) (Zh 4 7 [8,9,10] (Z9 11 (dc 11 [] [] [] (Z9n n us fds x2 os ls mm bb (hf:=hfk) (hop:=hok) (hor:=hor) (ih:=ih)) ?_)))
  rintro _ _ ⟨y1,rfl,rfl,ZY⟩
  have hkb:=ZY
  exact Z9 12 (WP 12 [] [] [Y7 y1] (YS [y1]) (Q6 [y1]).symm 1 2 fun v4=>YA 2 2 [] [(51,Wf [y1])] (Z9 13 (dp 13 4 [] [] (YS (ks++[y1])) (YS ks) (YS [y1]) u none 2 (Kq _) (Kq _) (Iy _) (by simp<;>omega) (by simp [Cg,YS]) fun v5=>Zh 0 1 [14] (de (az (Z2 1 (ZJ k (Z0 (ZK ⟨k+1,(ks++[y1]),v5,ob,ob,((Zw.snoc Zk (by rw [Ky];exact hkb)).le om),rfl,rfl,rfl⟩ (wk [2,2,2,0] (fw (ZM k fl))))))))))))
 refine ax 0 (aD 10 (ZI 3 10 [0,1,2,3,4,5,7] [1,1,1] (Z9 6 (dc 6 [] [1,1] [b2,b2] (T2 s.args) ?_))))
 rintro _ _ ⟨v6,rfl,rfl⟩
 exact Zh 1 2 [8] (Z9 9 (YO 9 1 [] [] b3 [.i s.op,.i s.num,.i 0,ZQ s.args v6,Qc ks u] (de (ZB (r3 [] [.agg [.i s.op,.i s.num,.i 0,ZQ s.args v6,Qc ks u]] [0] [(b3,b3)] ⟨(Z5.mk s.op s.num 0 s.args ks),rfl,rfl,((KT.of (into:=0) hf h11 om om Zw).le (by have:=Ic (xs:=s.kids) (k:=k) om;omega))⟩ (Zc.agg (.cons (lr _) (.cons (lr _) (.cons (lr _) (.cons (Zc.forget _ _) (.cons (Zc.forget _ _) .nil)))))))))))
theorem Z9l (n:Zm) (us:LI) (b:Z6) (os:LI) (ls:LI) (mm:Nat) (hn:X4 n) (hf:fB n.decls n.routines.length mm b) (hop:Ur WX b) (hul:us.length=mm) (hm:mm+4*b.sz<=100000) (hor:∀v∈os,0<=v/\v<(mm:Int)) (hol:os.length+4*b.sz<=730) (hal:ls.length+2000*b.sz<=1000000) (hbz:b.sz<=500) (ih:∀(us2:LI) (b2:Z6) (os2:LI) (as2:LI) (m2:Nat),(fB n.decls n.routines.length m2 b2)->(Ur WX b2)->(us2.length=m2)->(m2+4*b2.sz<=100000)->(∀v∈os2,0<=v/\v<(m2:Int))->(os2.length+4*b2.sz<=730)->(as2.length+2000*b2.sz<=1000000)->(b2.sz<=500)->(b2.sz<b.sz)->Zj 202 [Yr n,Z4 us2,Y7 b2,Z4 os2,Z4 as2] [] (fun r h=>∃(y:Z6),r=Y7 y/\h=[]/\KB n.decls n.routines.length m2 y (4500*b2.sz))):Zj 202 [Yr n,Z4 us,Y7 b,Z4 os,Z4 ls] [] (fun r h=>∃(y:Z6),r=Y7 y/\h=[]/\KB n.decls n.routines.length mm y (4500*b.sz)):=by
 have Xz:=hn.decls
 have hbe:=b.sz_eq
 have ZO:=T3 b
 obtain ⟨hfs,hr1,hr2⟩:=(G6 b).1 hf
 have hos:=Dx.1 ((M5 b).1 hop)
 have hdn:=Is hos
 have hdl:=hdn b.steps.length (YU _)
 rw [Vu] at hdl
 refine ZE 149 Tryz.func202 (ar (iA (YZ n) fun b1=>iA (Xs b) fun b2=>iA [nl,.i 0] fun b3=>ie (ar (iL (ZF []) 0 5 fun v1=>Z0 (Y1 1 (ic [] (T2 us) ?_))))))
 rintro _ _ ⟨v2,rfl,rfl⟩
 refine Z0 (Y1 1 (ic [] (T2 os) ?_))
 rintro _ _ ⟨v3,rfl,rfl⟩
 refine Z0 (Ym (ab 0 (Y4 (fun fz gz m F h=>∃(k:Nat) (vs:LI) (w:Value) (ms:LI) (u:Value) (xs:List Z5) (v:Value),(k<=b.steps.length)/\(vs.length=mm+k)/\(CL n.decls n.routines.length mm xs k (4500*Yf (b.steps.take k)))/\(ms.length<=os.length+k)/\(∀v∈ms,0<=v/\v<((mm+k:Nat):Int))/\F=sF [4,5,7,10] fz [(11,Xb xs v),(12,ZQ vs w),(13,ZQ ms u),(14,.i k)]/\h=[Zd gz 3,Zd gz 4,Zd gz 5,.tail u 1,.tail v 5,.tail w 1]/\m=b.steps.length-k) _ _ _ ⟨0,us,v2,os,v3,[],v1,ob,ob,CL.nil,ob,hor,rfl,rfl,rfl⟩ (wk [3,3,3,0,1,0] (fw (fr (Yb fl)))) ?_)))
 rintro m F h ⟨k,vs,w,ms,u,xs,v,Ye,Zk,Zw,Yy,XU,rfl,rfl,rfl⟩
 refine Yk 3 [1] (iw (VR b.steps) (Y9 ((k:Int)<(b.steps.length:Int)) (fun Za=>?_) (fun Za=>?_)))
 ·refine ak (aq (ab 1 (Zv 3 [1] ?_)))
  obtain ⟨x1,Z3⟩:=Zs b.steps k om
  have Xu:=DM Z3
  have hfS:=(IW x1).1 (G8 hfs Z3)
  rw [hdn k om] at hfS
  have hoS:=(H7 x1).1 (hos x1 (Y0 Z3))
  have htk:=MT Z3
  have hse:=(x1).sz_eq
  have hal4:=hfS.alen
  have hxl:=Zw.len
  have htl:=AA b.steps (k+1)
  have hsd:=Z1z b.steps (k+1)
  have hul2:=N4 (n:=((vs.length+1:Nat):Int)) (b.steps.drop (k+1)) []
  have hul3:=HC (n:=((vs.length+1:Nat):Int)) (Tl ((vs.length+1:Nat):Int) (b.steps.drop (k+1)) []) b.result
  simp only [XJ,Vl] at hul2
  refine Zp (Zl none (k:Int) 5 (VK Z3)) (Z2 1 (iA [.i 0,.i 0,.i 0,nl,nl] fun b4=>ZH 0 b4 (Xx x1) (ie (Y1 1 (iw (Ya vs) (Z0 (ar (Kc 3 [(41,Z4 vs)] [3,0] (Zx [] (MP n vs x1 ob ob) (Z0 (Zv 2 [2] (ia (((vs.length+1:Nat):Int)) (((vs.length:Int))+(1)) (Z2 1 (ZJ k (iL (Z8 []) 0 1 fun v4=>ZT 0 [(49,Z4 [])] (Zx [] (Z1i b ((vs.length+1:Nat):Int) (k+1) [] (hk:=om) (hz:=(by simp only [XJ];omega))) (Z2 1 (ic [] (Zaw (T4 ((vs.length+1:Nat):Int) (Tl ((vs.length+1:Nat):Int) (b.steps.drop (k+1)) []) b.result) ls) ?_))))))))))))))))))
  rintro _ _ ⟨zs1,rfl,rfl,ZY⟩
  have hun:=ZY
  refine Z0 (ar (Kc 6 [(55,Z4 vs),(57,Z4 ms)] [4,1] (ic [] (Z9s n vs x1 ms zs1 (mm+k) (hf:=hfS)) ?_)))
  rintro _ _ ⟨zs2,rfl,rfl,Yi⟩
  have hdu:=Yi
  have hq1:=Zw.cnts (op:=14) (.inl rfl) (vs:=zs2) (fun v hv=>hfS.args v (hdu.2 v hv))
  have hl1:=hq1.len
  refine ic [] (A9 14 zs2) ?_
  rintro _ _ ⟨v5,rfl,rfl⟩
  refine ZT 0 [(60,Vs (zs2.map (ZC 14)))] (ip 7 (ZF (xs++(zs2.map (ZC 14)))) (ZF xs) (ZF (zs2.map (ZC 14))) v none 5 (Xt _) (Xt _) (UF _) (by simp<;>omega) (by simp [V6,ZF]) fun v6=>Z0 (ar (Kc 6 [(64,Z4 vs),(66,Z4 ms)] [6,3] (ic [] (Z9o n vs x1 ms zs1 (mm+k) b.sz (hf:=hfS) (h11:=hoS.1) (hop:=hoS.2) (hor:=XU) (ih:=ih)) ?_))))
  rintro _ _ ⟨y1,rfl,rfl,YJ⟩
  have hkt:=YJ
  have hq2:=hq1.kt hkt
  have hl2:=hq2.len
  refine TC [YF y1] (ZF [y1]) (VL [y1]).symm 1 5 fun v7=>ZT 0 [(69,Vs [y1])] (ip 1 (ZF ((xs++(zs2.map (ZC 14)))++[y1])) (ZF (xs++(zs2.map (ZC 14)))) (ZF [y1]) v6 none 5 (Xt _) (Xt _) (UF _) (by simp<;>omega) (by simp [V6,ZF]) fun v8=>Z0 (ar (Kc 5 [(72,Z4 vs),(74,Z4 ms)] [7,4] (ic [] (Za6 n vs x1 ms zs1 (mm+k) (hf:=hfS)) ?_))))
  rintro _ _ ⟨zs3,v9,rfl,rfl,YR⟩
  have hla:=YR
  refine Z0 (ar (Kc 4 [(79,Z4 zs3)] [8,5] (ic [] (Za7 n x1 zs3 zs1 (mm+k) (hf:=hfS)) ?_)))
  rintro _ _ ⟨zs4,rfl,rfl,Xk⟩
  have hld:=Xk
  have hq3:=hq2.cnts (op:=15) (.inr rfl) (vs:=zs4) (fun v hv=>by have:=hfS.args v (hld.2 v hv);omega)
  have hl3:=hq3.len
  refine Z0 (Y1 2 (ic [] (A9 15 zs4) ?_))
  rintro _ _ ⟨v10,rfl,rfl⟩
  refine ZT 0 [(84,Vs (zs4.map (ZC 15)))] (ip 2 (ZF (((xs++(zs2.map (ZC 14)))++[y1])++(zs4.map (ZC 15)))) (ZF ((xs++(zs2.map (ZC 14)))++[y1])) (ZF (zs4.map (ZC 15))) v8 none 5 (Xt _) (Xt _) (UF _) (by simp<;>omega) (by simp [V6,ZF]) fun v11=>?_)
  refine Z0 (Ym (ab 2 (Y4 (fun fz gz m F h=>∃(j:Nat) (m3:LI) (u3:Value) (v3:Value) (w3:Value),(j<=zs4.length)/\(m3.length<=os.length+k)/\(∀v∈m3,0<=v/\v<((mm+k:Nat):Int))/\F=sF [4,5,7,10,14,16,17,18,19] fz [(11,Xb (((xs++(zs2.map (ZC 14)))++[y1])++(zs4.map (ZC 15))) v3),(12,ZQ vs w3),(13,ZQ m3 u3),(20,.i j)]/\h=[Zd gz 7,Zd gz 8,Zd gz 9,.tail u3 1,.tail v3 5,.tail w3 1]/\m=zs4.length-j) _ _ _ ⟨0,zs3,v9,v11,w,ob,ob,(fun v hv=>XU v (hla.2 v hv)),rfl,rfl,rfl⟩ (wk [7,7,7,2,0,6] (fw (fr (Yb fl)))) ?_)))
  rintro m F h ⟨j,m3,u3,v3,w3,U7,XO,XP,rfl,rfl,rfl⟩
  refine YP 2 (iw (Ya zs4) (Y9 ((j:Int)<(zs4.length:Int)) (fun Zg=>?_) (fun Zg=>?_)))
  ·refine ak (aq (ab 3 (az (Z2 3 ?_))))
   obtain ⟨x2,Zr⟩:=Zs zs4 j om
   refine Zp (Zl none (j:Int) 1 (ZZ Zr)) (ZT 1 [(92,Z4 m3)] (ic [] (PE m3 x2) ?_))
   rintro _ _ ⟨v12,rfl,rfl⟩
   exact Z0 (az (Z2 1 (ZJ j (Z0 (ZK ⟨j+1,(Qx m3 x2),v12,v3,w3,ob,(VB (EU _ _) XO),(fun v hv=>XP v (Dz hv)),rfl,rfl,rfl⟩ (wk [1,1,1,0,1,1] (fw (fr (ZM j fl)))))))))
  refine ax 2 (Y1 2 (iL (Z8 [Y2 n vs x1]) 1 1 fun v13=>ZT 0 [(100,Z4 [Y2 n vs x1])] (ip 6 (Z8 (vs++[Y2 n vs x1])) (Z8 vs) (Z8 [Y2 n vs x1]) w3 none 1 (YL _) (YL _) (Ww _) (by simp<;>omega) (by simp [Wv,Z8]) fun v14=>Z0 (ar (Xv [4,5,7,10,11,12,13,14,16,17] [(108,.b (((Y2 n vs x1) != 0)&&(decide ((vs.length:Int)∈zs1))))] (fun gz=>gz) ?_ ?_)))))
  ·refine Z2 3 (ib (b:=((Y2 n vs x1) != 0)) 104 (fun Zb=>?_) (fun Zb=>?_))
   ·exact Z2 2 (Zx [] (Ti zs1 (vs.length:Int)) (Z0 (ZG 7 (Zt (decide ((vs.length:Int)∈zs1)) Zb fl))))
   exact Z0 (ZG 7 (Zt false Zb fl))
  refine ac (((Y2 n vs x1) != 0)&&(decide ((vs.length:Int)∈zs1))) (p:=((Y2 n vs x1)≠0)/\((vs.length:Int)∈zs1)) (YK Y3 dq) (fun ZD=>?_) (fun ZD=>?_)
  ·exact az (Z2 2 (iL (Z8 [(vs.length:Int)]) 1 1 fun v15=>ZT 0 [(111,Z4 [(vs.length:Int)])] (ip 6 (Z8 (m3++[(vs.length:Int)])) (Z8 m3) (Z8 [(vs.length:Int)]) u3 none 1 (YL _) (YL _) (Ww _) (by simp<;>omega) (by simp [Wv,Z8]) fun v16=>Z0 (az (Z2 1 (ZJ k (Z0 (ZK ⟨k+1,(vs++[Y2 n vs x1]),v14,(m3++[(vs.length:Int)]),v16,(((xs++(zs2.map (ZC 14)))++[y1])++(zs4.map (ZC 15))),v3,ob,ob,(by first|exact hq3.le om|exact (hq3.cnt (op:=15) (.inr rfl) om).le om),ob,(by first|exact XS (fun v hv=>by have:=XP v hv;omega) om|exact (fun v hv=>by have:=XP v hv;omega)),rfl,rfl,rfl⟩ (wk [4,4,4,0,3,1] (fw (fr (ZM k fl))))))))))))
  refine ar (YD ((Y2 n vs x1) != 0) Y3 (fun Yj=>?_) (fun Yj=>?_))
  ·exact az (Z2 2 (Zx [] (Bg 15 (vs.length:Int)) (TC [YF (ZC 15 (vs.length:Int))] (ZF [(ZC 15 (vs.length:Int))]) (VL [(ZC 15 (vs.length:Int))]).symm 1 5 fun v17=>ZT 0 [(118,Vs [(ZC 15 (vs.length:Int))])] (ip 7 (ZF ((((xs++(zs2.map (ZC 14)))++[y1])++(zs4.map (ZC 15)))++[(ZC 15 (vs.length:Int))])) (ZF (((xs++(zs2.map (ZC 14)))++[y1])++(zs4.map (ZC 15)))) (ZF [(ZC 15 (vs.length:Int))]) v3 none 5 (Xt _) (Xt _) (UF _) (by simp<;>omega) (by simp [V6,ZF]) fun v18=>Z0 (az (Z2 1 (ZJ k (Z0 (ZK ⟨k+1,(vs++[Y2 n vs x1]),v14,m3,u3,((((xs++(zs2.map (ZC 14)))++[y1])++(zs4.map (ZC 15)))++[(ZC 15 (vs.length:Int))]),v18,ob,ob,(by first|exact hq3.le om|exact (hq3.cnt (op:=15) (.inr rfl) om).le om),ob,(by first|exact XS (fun v hv=>by have:=XP v hv;omega) om|exact (fun v hv=>by have:=XP v hv;omega)),rfl,rfl,rfl⟩ (wk [4,4,4,4,0,1] (fw (fr (ZM k fl)))))))))))))
  exact ak (az (Z2 1 (ZJ k (Z0 (ZK ⟨k+1,(vs++[Y2 n vs x1]),v14,m3,u3,(((xs++(zs2.map (ZC 14)))++[y1])++(zs4.map (ZC 15))),v3,ob,ob,(by first|exact hq3.le om|exact (hq3.cnt (op:=15) (.inr rfl) om).le om),ob,(by first|exact XS (fun v hv=>by have:=XP v hv;omega) om|exact (fun v hv=>by have:=XP v hv;omega)),rfl,rfl,rfl⟩ (wk [2,2,2,2,2,0] (fw (fr (ZM k fl)))))))))
 have hxl:=Zw.len
 have htl:=AA b.steps k
 refine ax 0 (Yk 3 [1] ?_)
 obtain ⟨x3,YG⟩:=Zs vs b.result.toNat om
 refine Zp (Zl (some w) b.result 1 (ZZ YG)) (Xv [7,10,11] [(138,.b ((x3 != 0)&&((decide (b.result∈ls))||(!(decide (b.result∈ms))))))] (fun gz=>gz) ?_ ?_)
 ·refine Z2 3 (ib (b:=(x3 != 0)) 126 (fun Zz=>?_) (fun Zz=>?_))
  ·refine ZL 3 [1] (Zx [] (Ti ls b.result) (Z2 1 (ib (b:=(decide (b.result∈ls))) 131 (fun Yo=>?_) (fun Yo=>?_))))
   ·exact Z0 (ZG 6 (Zt true (And.intro Zz Yo) fl))
   exact Kc 3 [(132,Z4 ms)] [1] (Zx [] (Ti ms b.result) (Z0 (ZG 6 (Zt (!(decide (b.result∈ms))) (And.intro Zz Yo) fl))))
  exact Z0 (ZG 6 (Zt false Zz fl))
 refine ac ((x3 != 0)&&((decide (b.result∈ls))||(!(decide (b.result∈ms))))) (p:=(x3≠0)/\((b.result∈ls)∨(¬(b.result∈ms)))) (YK Y3 (Yh dq (Yl dq))) (fun Xh=>?_) (fun Xh=>?_)
 ·exact az (ZL 3 [1] (Zx [] (Bg 14 b.result) (TC [YF (ZC 14 b.result)] (ZF [ZC 14 b.result]) (VL [ZC 14 b.result]).symm 1 5 fun v19=>ZT 0 [(143,Vs [ZC 14 b.result])] (ip 5 (ZF (xs++[ZC 14 b.result])) (ZF xs) (ZF [ZC 14 b.result]) v none 5 (Xt _) (Xt _) (UF _) (by simp<;>omega) (by simp [V6,ZF]) fun v20=>Z0 (Zv 4 [3] (ZH 2 b3 [Xb (xs++[ZC 14 b.result]) v20,.i b.result] (ie (ZB (r3 [] [.agg [Xb (xs++[ZC 14 b.result]) v20,.i b.result]] [0] [(b3,b3)] ⟨(Z6.mk (xs++[ZC 14 b.result]) b.result),rfl,rfl,(((Zw.cnt (op:=14) (.inl rfl) om).block om).le (by have:=AA b.steps k;omega))⟩ (Zc.agg (.cons (Zc.forget _ _) (.cons (lr _) .nil))))))))))))
 exact ak (Zv 4 [1] (ZH 0 b3 [Xb xs v,.i b.result] (ie (ZB (r3 [] [.agg [Xb xs v,.i b.result]] [0] [(b3,b3)] ⟨(Z6.mk xs b.result),rfl,rfl,((Zw.block om).le (by have:=AA b.steps k;omega))⟩ (Zc.agg (.cons (Zc.forget _ _) (.cons (lr _) .nil))))))))
theorem Z9k (n:Zm) (us:LI) (b:Z6) (os:LI) (ls:LI) (mm:Nat) (hn:X4 n:=by exact ob) (hf:fB n.decls n.routines.length mm b:=by exact ob) (hop:Ur WX b:=by exact ob) (hul:us.length=mm:=by exact ob) (hm:mm+4*b.sz<=100000:=by exact ob) (hor:∀v∈os,0<=v/\v<(mm:Int)) (hol:os.length+4*b.sz<=730:=by exact ob) (hal:ls.length+2000*b.sz<=1000000:=by exact ob) (hbz:b.sz<=500:=by exact ob):Zj 202 [Yr n,Z4 us,Y7 b,Z4 os,Z4 ls] [] (fun r h=>∃(y:Z6),r=Y7 y/\h=[]/\KB n.decls n.routines.length mm y (4500*b.sz)):=by
 have key:∀k:Nat,∀(us2:LI) (b2:Z6) (os2:LI) (as2:LI) (m2:Nat),(fB n.decls n.routines.length m2 b2)->(Ur WX b2)->(us2.length=m2)->(m2+4*b2.sz<=100000)->(∀v∈os2,0<=v/\v<(m2:Int))->(os2.length+4*b2.sz<=730)->(as2.length+2000*b2.sz<=1000000)->(b2.sz<=500)->(b2.sz<k)->Zj 202 [Yr n,Z4 us2,Y7 b2,Z4 os2,Z4 as2] [] (fun r h=>∃(y:Z6),r=Y7 y/\h=[]/\KB n.decls n.routines.length m2 y (4500*b2.sz)):=by
  intro k
  induction k with
  | zero=>intro us2 b2 os2 as2 m2 h1 h2 h3 h4 h5 h6 h7 h8 h9;omega
  | succ k ih=>intro us2 b2 os2 as2 m2 h1 h2 h3 h4 h5 h6 h7 h8 h9;exact Z9l n us2 b2 os2 as2 m2 hn h1 h2 h3 h4 h5 h6 h7 h8 fun us3 b3 os3 as3 m3 q1 q2 q3 q4 q5 q6 q7 q8 q9=>ih us3 b3 os3 as3 m3 q1 q2 q3 q4 q5 q6 q7 q8 om
 exact key (b.sz+1) us b os ls mm hf hop hul hm hor hol hal hbz om
theorem Z9m (n:Zm) (rt:Yc) (qz:Nat) (hn:X4 n:=by exact ob) (hr:RF n.decls n.routines.length qz WX rt:=by exact ob) (hqz:qz<=181:=by exact ob):Zj 146 [Yr n,K5 rt] [] (fun r h=>∃(y:Z6),r=Y7 y/\h=[]/\KB n.decls n.routines.length rt.params.length y (4500*qz+10)):=by
 have hrp:rt.params.length<=3:=(Qh.bd (f:=⟨rt.params,rt.result,default⟩) hr.sig).1
 have hrl:=hr.lent.1
 have hrz:=hr.body.2
 refine ZE 65 Tryz.func146 (ar (iA (YZ n) fun b1=>iA (TG rt) fun b2=>iA [nl,.i 0] fun b3=>ie (Zv 4 [1,1] (iw (Ya rt.params) (Zx [] (Z1u rt.body (rt.params.length:Int)) ?_)))))
 have hub:=HB (n:=(rt.params.length:Int)) rt.body []
 simp only [XJ,Vl] at hub
 refine Z0 (ar (iL (Z8 []) 0 1 fun v1=>Z0 (ar (iL (Z8 []) 0 1 fun v2=>?_))))
 refine Z0 (Ym (ab 0 (Y4 (fun fz gz m F h=>∃(k:Nat) (os:LI) (u:Value) (dr:LI) (w:Value),(k<=rt.params.length)/\(os.length<=k)/\(dr.length<=k)/\(∀v∈os,0<=v/\v<(rt.params.length:Int))/\(∀v∈dr,0<=v/\v<(rt.params.length:Int))/\F=sF [2,3,4,5] fz [(6,ZQ os u),(7,ZQ dr w),(8,.i k)]/\h=[Zd gz 2,Zd gz 3,Zd gz 4,.tail u 1,.tail w 1]/\m=rt.params.length-k) _ _ _ ⟨0,[],v1,[],v2,ob,ob,ob,(fun v hv=>by cases hv),(fun v hv=>by cases hv),rfl,rfl,rfl⟩ (wk [2,2,2,1,0] (fw (Yb fl))) ?_)))
 rintro m F h ⟨k,os,u,dr,w,Ye,Zk,Zw,Yy,XU,rfl,rfl,rfl⟩
 refine Yk 3 [1] (iw (Ya rt.params) (Y9 ((k:Int)<(rt.params.length:Int)) (fun Za=>?_) (fun Za=>?_)))
 ·refine ak (aq (ab 1 (Zv 3 [1] ?_)))
  obtain ⟨x1,Z3⟩:=Zs rt.params k om
  refine Zp (Zl none (k:Int) 1 (ZZ Z3)) (Xv [2,3,4,5,6,7,8] [(37,.b ((x1 != 0)&&(!(decide ((k:Int)∈rt.lent)))))] (fun gz=>gz) ?_ ?_)
  ·refine Z2 3 (ib (b:=(x1 != 0)) 31 (fun Zb=>?_) (fun Zb=>?_))
   ·exact ZL 3 [1] (Zx [] (Ti rt.lent (k:Int)) (Z0 (ZG 5 (Zt (!(decide ((k:Int)∈rt.lent))) Zb fl))))
   exact Z0 (ZG 5 (Zt false Zb fl))
  refine ac ((x1 != 0)&&(!(decide ((k:Int)∈rt.lent)))) (p:=(x1≠0)/\(¬((k:Int)∈rt.lent))) (YK Y3 (Yl dq)) (fun Zg=>?_) (fun Zg=>?_)
  ·refine Y1 2 (Zx [] (Ti (Tk (rt.params.length:Int) rt.body []) (k:Int)) (ie (XB ((k:Int)∈(Tk (rt.params.length:Int) rt.body [])) (fun ZD=>?_) (fun ZD=>?_))))
   ·exact az (Z2 2 (iL (Z8 [(k:Int)]) 1 1 fun v3=>ZT 0 [(43,Z4 [(k:Int)])] (ip 4 (Z8 (os++[(k:Int)])) (Z8 os) (Z8 [(k:Int)]) u none 1 (YL _) (YL _) (Ww _) (by simp<;>omega) (by simp [Wv,Z8]) fun v4=>Z0 (az (Z2 1 (ZJ k (Z0 (ZK ⟨k+1,(os++[(k:Int)]),v4,dr,w,ob,ob,ob,(by first|exact Yy|exact XS Yy om),(by first|exact XU|exact XS XU om),rfl,rfl,rfl⟩ (wk [2,2,2,0,1] (fw (ZM k fl)))))))))))
   exact az (Z2 2 (iL (Z8 [(k:Int)]) 1 1 fun v5=>ZT 0 [(47,Z4 [(k:Int)])] (ip 5 (Z8 (dr++[(k:Int)])) (Z8 dr) (Z8 [(k:Int)]) w none 1 (YL _) (YL _) (Ww _) (by simp<;>omega) (by simp [Wv,Z8]) fun v6=>Z0 (az (Z2 1 (ZJ k (Z0 (ZK ⟨k+1,os,u,(dr++[(k:Int)]),v6,ob,ob,ob,(by first|exact Yy|exact XS Yy om),(by first|exact XU|exact XS XU om),rfl,rfl,rfl⟩ (wk [2,2,2,2,0] (fw (ZM k fl)))))))))))
  exact ak (az (Z2 1 (ZJ k (Z0 (ZK ⟨k+1,os,u,dr,w,ob,ob,ob,(by first|exact Yy|exact XS Yy om),(by first|exact XU|exact XS XU om),rfl,rfl,rfl⟩ (ZG 5 (fw (ZM k fl))))))))
 refine ax 0 (Zv 6 [2,1,1] (iL (Z8 []) 0 1 fun v7=>ZT 0 [(54,Z4 os),(55,Z4 [])] (ic [] (Z9k n rt.params rt.body os [] rt.params.length (hf:=hr.body.1) (hop:=hr.op) (hor:=Yy) (hal:=(by simp only [XJ];omega))) ?_)))
 rintro _ _ ⟨y1,rfl,rfl,YJ⟩
 have hkb:=YJ
 have hkl:=hkb.len
 refine iA [nl,.i 0] fun b4=>ZH 0 b4 (Xs y1) (ie (aD 9 (Ef 4 9 [0,2,3,5,6] [(57,Z4 dr)] [0,0] (Z9 1 (dc 1 [] [0,0] [b4,b4] (A9 15 dr) ?_)))))
 rintro _ _ ⟨v8,rfl,rfl⟩
 exact Z9 4 (dp 4 0 [0] [b4] (ZF ((dr.map (ZC 15))++y1.steps)) (ZF (dr.map (ZC 15))) (ZF y1.steps) v8 none 5 (Xt _) (Xt _) (UF _) (by simp<;>omega) (by simp [V6,ZF]) fun v9=>Zh 1 2 [7] (Z9 8 (YO 8 3 [] [] b3 [Xb ((dr.map (ZC 15))++y1.steps) v9,.i y1.result] (de (ZB (r3 [] [.agg [Xb ((dr.map (ZC 15))++y1.steps) v9,.i y1.result]] [0] [(b3,b3)] ⟨(Z6.mk ((dr.map (ZC 15))++y1.steps) y1.result),rfl,rfl,((hkb.put1 (op:=15) (.inr rfl) XU).le om)⟩ (Zc.agg (.cons (Zc.forget _ _) (.cons (lr _) .nil)))))))))
theorem Z9p (n:Zm) (qz:Nat) (hn:FO n qz WX:=by exact ob) (hqz:qz<=181:=by exact ob):Zj 85 [Yr n] [] (fun r h=>∃(n2:Zm),r=Yr n2/\h=[]/\FO n2 (4500*qz+10) JS):=by
 have hnl:=hn.fn.len
 have Xz:=hn.fn.decls.ok
 have hok:=hn.fn.ok
 refine ZE 36 Tryz.func85 (ar (iA (YZ n) fun b1=>iA [nl,nl] fun b2=>ie (Zv 2 [1] (Zx [] (Ff n.decls) (iL (X6 []) 0 5 fun v1=>Z2 1 (iA [nl,nl] fun b3=>?_))))))
 refine ZH 0 b3 [ZP n.decls,U3 [] v1] (ie (Ym (ab 0 (Y4 (fun fz gz m F h=>∃(k:Nat) (rs:List Yc) (u:Value),(k<=n.routines.length)/\(rs.length=k)/\(∀r∈rs,RF n.decls n.routines.length (4500*qz+10) JS r)/\F=sF [1,2,3] fz [(4,.i k)]/\h=[.obj b3 [ZP n.decls,U3 rs u],Zd gz 2,Zd gz 3,.tail u 5]/\m=n.routines.length-k) _ _ _ ⟨0,[],v1,ob,ob,(fun r hr=>by cases hr),rfl,rfl,rfl⟩ (wk [0,1,1,0] (Yb fl)) ?_))))
 rintro m F h ⟨k,rs,u,Ye,Zk,Zw,rfl,rfl,rfl⟩
 refine Yk 3 [2] (iw (U9 n.routines) (Y9 ((k:Int)<(n.routines.length:Int)) (fun Za=>?_) (fun Za=>?_)))
 ·refine ak (aq (ab 1 (aE 19 (ZI 14 19 [0,1,2,3,4] [0,2] ?_))))
  obtain ⟨x1,Z3⟩:=Zs n.routines k om
  have hrf:=hn.rf (Y0 Z3)
  have hrp:(x1).params.length<=3:=(Qh.bd (f:=⟨(x1).params,(x1).result,default⟩) hrf.sig).1
  have hrl:=hrf.lent.1
  have hrz:=hrf.body.2
  refine dx 5 (Zl none (k:Int) 5 (WR Z3)) (ZI 8 13 [6,7,8,9,10] [2,2] (dx 11 (Zl none (k:Int) 5 (WR Z3)) (Zh 6 7 [12] (Z9 13 (dc 13 [] [2,0] [b1,b3] (Z9m n x1 qz (hr:=hrf)) ?_)))))
  rintro _ _ ⟨y1,rfl,rfl,ZY⟩
  have hkb:=ZY
  exact Z9 14 (Yz 14 [] [0] [b3] (Hu x1 y1 (hp:=om) (hl:=om)) (Z9 15 (dL 15 [0] [b3] (X6 [Yc.mk x1.params x1.lent x1.result y1]) 1 5 fun v2=>YA 3 3 [] [(32,KC [Yc.mk x1.params x1.lent x1.result y1])] (Z9 16 (dp 16 4 [] [] (X6 (rs++[Yc.mk x1.params x1.lent x1.result y1])) (X6 rs) (X6 [Yc.mk x1.params x1.lent x1.result y1]) u none 5 (Ql _) (Ql _) (Db _) (by simp<;>omega) (by simp [Da,X6]) fun v3=>Zh 1 2 [17] (Z9 18 (YO 18 2 [] [] b3 [ZP n.decls,U3 (rs++[Yc.mk x1.params x1.lent x1.result y1]) v3] (de (az (Z2 1 (ZJ k (Z0 (ZK ⟨k+1,(rs++[Yc.mk x1.params x1.lent x1.result y1]),v3,ob,ob,(XS Zw (by first|exact hrf.with hkb.fb hkb.sz hkb.op|(rw [Z6.eta];exact hrf.with hkb.fb hkb.sz hkb.op))),rfl,rfl,rfl⟩ (wk [0,2,2,0] (ZM k fl)))))))))))))))
 exact ax 0 (Zv 1 [0] (ZH 1 b2 [ZP n.decls,U3 rs u] (ie (ZB (r3 [] [.agg [ZP n.decls,U3 rs u]] [0] [(b2,b2)] ⟨(Zm.mk n.decls rs),rfl,rfl,(FO.fin hn.fn om Zw).1⟩ (Zc.agg (.cons (lr _) (.cons (Zc.forget _ _) .nil))))))))
theorem Z9h (n:Zm) (us:LI) (s:Z5) (mm:Nat) (hn:X4 n:=by exact ob) (hf:FS n.decls n.routines.length mm s:=by exact ob) (hvl:us.length=mm:=by exact ob) (hm:mm<=100000000:=by exact ob):Zj 204 [Yr n,Z4 us,YF s] [] (fun r h=>∃(zs:LI),r=Z4 zs/\h=[]/\zs.length<=s.args.length/\∀z∈zs,z∈s.args):=by
 have hal:=hf.alen
 refine ZE 31 Tryz.func204 (ar (iA (YZ n) fun b1=>iA (Xx s) fun b2=>Z0 (ar (iL (Z8 []) 0 1 fun v1=>?_))))
 refine Z0 (Ym (ab 0 (Y4 (fun fz gz m F h=>∃(k:Nat) (zs:LI) (u:Value),(k<=s.args.length)/\(zs.length<=k)/\(∀z∈zs,z∈s.args)/\F=sF [1,3,5] fz [(7,ZQ zs u),(8,.i k)]/\h=[Zd gz 1,Zd gz 2,.tail u 1]/\m=s.args.length-k) _ _ _ ⟨0,[],v1,ob,ob,(fun z hz=>by cases hz),rfl,rfl,rfl⟩ (wk [1,1,0] (fr (Yb fl))) ?_)))
 rintro m F h ⟨k,zs,u,Ye,Zk,Zw,rfl,rfl,rfl⟩
 refine Yk 3 [0] (iw (Ya s.args) (Y9 ((k:Int)<(s.args.length:Int)) (fun Za=>?_) (fun Za=>?_)))
 ·obtain ⟨a1,ha1⟩:=Zs s.args k om
  have har:=hf.args a1 (Y0 ha1)
  refine ak (aq (ab 1 (Zv 4 [1,0] (Zx [] (Ht n us s k a1 (hnum:=hf.call) (ha:=ha1)) (ie (ac (Q4 n us s.op s.num a1 k) Iff.rfl (fun Zg=>?_) (fun Zg=>?_)))))))
  ·exact az (ZL 4 [0] (Zp (Zl none (k:Int) 1 (ZZ ha1)) (Z2 1 (iL (Z8 [a1]) 1 1 fun v2=>ZT 0 [(28,Z4 [a1])] (ip 3 (Z8 (zs++[a1])) (Z8 zs) (Z8 [a1]) u none 1 (YL _) (YL _) (Ww _) (by simp<;>omega) (by simp [Wv,Z8]) fun v3=>Z0 (az (Z2 1 (ZJ k (Z0 (ZK ⟨k+1,(zs++[a1]),v3,ob,ob,(by first|exact Zw|exact XS Zw (Y0 ha1)),rfl,rfl,rfl⟩ (wk [2,2,0] (fr (ZM k fl)))))))))))))
  exact ak (az (Z2 1 (ZJ k (Z0 (ZK ⟨k+1,zs,u,ob,ob,(by first|exact Zw|exact XS Zw (Y0 ha1)),rfl,rfl,rfl⟩ (ZG 3 (fr (ZM k fl))))))))
 exact ax 0 (ar (Zo (r2 [] [ZQ zs u] ⟨zs,rfl,rfl,⟨by omega,Zw⟩⟩ (Zc.forget _ _))))
theorem Za4 (n:Zm) (us:LI) (s:Z5) (mm:Nat) (bb:Nat) (hn:X4 n:=by exact ob) (hf:FS n.decls n.routines.length mm s:=by exact ob) (h11:s.op<=11:=by exact ob) (hop:J8 WX s.kids:=by exact ob) (hul:us.length=mm:=by exact ob) (hm:mm+4*s.sz<=100000:=by exact ob) (hbz:s.sz<=500:=by exact ob) (hb:s.sz<=bb:=by exact ob) (ih:∀(us2:LI) (b2:Z6) (mi2:LI) (m2:Nat),(fB n.decls n.routines.length m2 b2)->(Ur WX b2)->(us2.length=m2)->(m2+4*b2.sz<=100000)->(∀v∈mi2,0<=v/\v<(m2:Int))->(mi2.length<=3)->(b2.sz<=500)->(b2.sz<bb)->Zj 147 [Yr n,Z4 us2,Y7 b2,Z4 mi2] [] (fun r h=>∃(y:Z6),r=Y7 y/\h=[]/\KB n.decls n.routines.length m2 y (60*b2.sz))):Zj 205 [Yr n,Z4 us,YF s] [] (fun r h=>∃(y:Z5),r=YF y/\h=[]/\KT n.decls n.routines.length mm y (60*X3 s.kids+23)):=by
 have Xz:=hn.decls
 have hkf:=hf.few Xz
 have hsa:=hf.alen
 refine ZE 72 Tryz.func205 (ar (iA (YZ n) fun b1=>iA (Xx s) fun b2=>iA [.i 0,.i 0,.i 0,nl,nl] fun b3=>ie (ar (iL (YS []) 0 2 fun v1=>Z0 (Zv 4 [3,2] (ic [] (Bf n.decls s.num) ?_))))))
 rintro _ _ ⟨v2,rfl,rfl⟩
 refine Z0 (Ym (ab 0 (Y4 (fun fz gz m F h=>∃(k:Nat) (ks:List Z6) (u:Value),(k<=s.kids.length)/\(ks.length=k)/\(KK n.decls n.routines.length (Qz n.decls s.op s.num mm) ks (60*X3 (s.kids.take k)+6*k))/\F=sF [1,3,5,6] fz [(7,Qc ks u),(8,Z4 (ZW n.decls s.num)),(9,.i k)]/\h=[Zd gz 2,Zd gz 3,Zd gz 4,.tail u 2]/\m=s.kids.length-k) _ _ _ ⟨0,[],v1,ob,ob,(KK.nil.le (Af _)),rfl,rfl,rfl⟩ (wk [2,2,2,1] (fr (fc (x:=ZQ (ZW n.decls s.num) v2) (Zc.forget _ _) (Yb fl)))) ?_)))
 rintro m F h ⟨k,ks,u,Ye,Zk,Zw,rfl,rfl,rfl⟩
 refine Yk 3 [1] (iw (U8 s.kids) (Y9 ((k:Int)<(s.kids.length:Int)) (fun Za=>?_) (fun Za=>?_)))
 ·refine ak (aq (ab 1 (ar (iL (Z8 []) 0 1 fun v3=>?_))))
  refine Z0 (X7 (VX [2] (Wj (fun fz gz F h=>∃(fds:LI),(Qz n.decls s.op s.num mm k=mm+fds.length)/\(fds.length<=3)/\F=sF [1,3,5,6,7,8,9] fz [(10,Z4 fds)]/\h=[Zd gz 1,Zd gz 2,Zd gz 3,Zd gz 4]) ?_ ?_)))
  ·refine ac (s.op==8) Zq (fun Zg=>?_) (fun Zg=>?_)
   ·refine aE 8 (ZI 4 8 [0,1,2,3] [3] ?_)
    obtain ⟨x1,Z3⟩:=Zs (ZW n.decls s.num) k (by have:=hf.k8 (by assumption);omega)
    have hcf:=Uu Xz x1
    exact dx 4 (Zl none (k:Int) 1 (ZZ Z3)) (Zh 2 3 [5] (Z9 6 (Yz 6 [] [] [] (JD n.decls x1) (Zh 0 1 [7] (de (ZV ⟨ZX n.decls x1,(MA (by assumption) Z3),ob,rfl,rfl⟩ (wk [1,1,1,1] fl)))))))
   exact ak (ZV ⟨[],(by rw [MB (by assumption)];rfl),ob,rfl,rfl⟩ (wk [1,1,1,1] fl))
  rintro F h ⟨fds,Ky,GM,rfl,rfl⟩
  refine Y1 2 (iw (Ya us) (ic [] (Pv fds us.length) ?_))
  rintro _ _ ⟨xs1,rfl,rfl,ZY⟩
  have hhf:=ZY
  refine Z0 (aD 13 (ZI 7 13 [0,1,2,4,5,6] [2,1] ?_))
  obtain ⟨x2,Zr⟩:=Zs s.kids k om
  have hkz:=TF Zr
  have hfk:=G7 hf.kids Zr
  rw [Vl,Ky] at hfk
  have hok:=ET.1 hop x2 (Y0 Zr)
  have hbt:=Ib Zr
  have hba:=E9 Zr
  refine dx 7 (Zl none (k:Int) 2 (UV Zr)) (Zh 4 6 [8,9] (Jo (fun fz gz F h=>∃(y1:Z6) (b4:Nat),(KB n.decls n.routines.length (mm+fds.length) y1 (60*x2.sz))/\F=sF [1,3,5,6,7,8,9,11] fz [(12,.p b4 0)]/\h=[.obj b4 (Xs y1),Zd gz 0,Zd gz 1,Zd gz 2,Zd gz 3]) ?_ ?_))
  ·refine VJ 3 11 ?_ ?_
   ·refine dc 3 [] [1,2] [b2,b1] (KG us fds) ?_
    rintro _ _ ⟨v4,rfl,rfl⟩
    refine YA 3 3 [] [(44,Z4 (us++fds))] (VJ 10 11 ?_ ?_)
    ·refine dc 10 [] [] [] (ih (us++fds) x2 xs1 (mm+fds.length) hfk hok (by rw [Ys,hul]) ob (fun v hv=>by have:=hhf.2 v hv;omega) ob ob ob) ?_
     rintro _ _ ⟨y1,rfl,rfl,Yi⟩
     have hkb:=Yi
     have hkl:=hkb.len
     exact Z9 11 (dA 11 [] [] [nl,.i 0] fun b4=>Z9 12 (YO 12 0 [] [] b4 (Xs y1) (de (ZV ⟨_,b4,(by assumption),rfl,rfl⟩ (wk [0,1,1,1,1] fl)))))
    refine dA 11 [1,2] [b2,b1] [nl,.i 0] fun b5=>Z9 10 (dc 10 [] [] [] (ih (us++fds) x2 xs1 (mm+fds.length) hfk hok (by rw [Ys,hul]) ob (fun v hv=>by have:=hhf.2 v hv;omega) ob ob ob) ?_)
    rintro _ _ ⟨y2,rfl,rfl,YJ⟩
    have hkb:=YJ
    have hkl:=hkb.len
    exact Z9 12 (YO 12 0 [] [] b5 (Xs y2) (de (ZV ⟨_,b5,(by assumption),rfl,rfl⟩ (wk [0,1,1,1,1] fl))))
   refine dA 11 [1,2] [b2,b1] [nl,.i 0] fun b6=>Z9 3 (dc 3 [] [2,3] [b2,b1] (KG us fds) ?_)
   rintro _ _ ⟨v5,rfl,rfl⟩
   refine YA 2 2 [] [(44,Z4 (us++fds))] (Z9 10 (dc 10 [] [] [] (ih (us++fds) x2 xs1 (mm+fds.length) hfk hok (by rw [Ys,hul]) ob (fun v hv=>by have:=hhf.2 v hv;omega) ob ob ob) ?_))
   rintro _ _ ⟨y3,rfl,rfl,YR⟩
   have hkb:=YR
   have hkl:=hkb.len
   exact Z9 12 (YO 12 1 [] [] b6 (Xs y3) (de (ZV ⟨_,b6,(by assumption),rfl,rfl⟩ (wk [0,1,1,1,1] fl))))
  rintro F h ⟨y1,b4,Yi,rfl,rfl⟩
  have hkb:=Yi
  have hkl:=hkb.len
  refine aE 12 (ZI 6 12 [0,1,3,4,6,7] [0,0] (Z9 2 (dc 2 [] [0,0] [b4,b4] (A9 14 xs1) ?_)))
  rintro _ _ ⟨v6,rfl,rfl⟩
  exact Z9 5 (dp 5 0 [0] [b4] (ZF ((xs1.map (ZC 14))++y1.steps)) (ZF (xs1.map (ZC 14))) (ZF y1.steps) v6 none 5 (Xt _) (Xt _) (UF _) (by simp<;>omega) (by simp [V6,ZF]) fun v7=>YA 3 4 [8] [(60,.agg [Vs ((xs1.map (ZC 14))++y1.steps),.i y1.result])] (Z9 9 (WP 9 [] [] [Y7 (Z6.mk ((xs1.map (ZC 14))++y1.steps) y1.result)] (YS [Z6.mk ((xs1.map (ZC 14))++y1.steps) y1.result]) (Q6 [Z6.mk ((xs1.map (ZC 14))++y1.steps) y1.result]).symm 1 2 fun v8=>YA 2 2 [] [(61,Wf [Z6.mk ((xs1.map (ZC 14))++y1.steps) y1.result])] (Z9 10 (dp 10 6 [] [] (YS (ks++[Z6.mk ((xs1.map (ZC 14))++y1.steps) y1.result])) (YS ks) (YS [Z6.mk ((xs1.map (ZC 14))++y1.steps) y1.result]) u none 2 (Kq _) (Kq _) (Iy _) (by simp<;>omega) (by simp [Cg,YS]) fun v9=>Zh 0 1 [11] (de (az (Z2 1 (ZJ k (Z0 (ZK ⟨k+1,(ks++[Z6.mk ((xs1.map (ZC 14))++y1.steps) y1.result]),v9,ob,ob,((Zw.snoc Zk (by rw [Ky];exact hkb.put1 (op:=14) (.inl rfl) (fun v hv=>by have:=hhf.2 v hv;omega))).le om),rfl,rfl,rfl⟩ (wk [4,4,4,0] (fw (ZM k fl))))))))))))))
 refine ax 0 (aD 10 (ZI 3 10 [0,1,2,3,4,5,7] [1,1,1] (Z9 6 (dc 6 [] [1,1] [b2,b2] (T2 s.args) ?_))))
 rintro _ _ ⟨v10,rfl,rfl⟩
 exact Zh 1 2 [8] (Z9 9 (YO 9 1 [] [] b3 [.i s.op,.i s.num,.i 0,ZQ s.args v10,Qc ks u] (de (ZB (r3 [] [.agg [.i s.op,.i s.num,.i 0,ZQ s.args v10,Qc ks u]] [0] [(b3,b3)] ⟨(Z5.mk s.op s.num 0 s.args ks),rfl,rfl,((KT.of (into:=0) hf h11 om om Zw).le (by have:=Ic (xs:=s.kids) (k:=k) om;omega))⟩ (Zc.agg (.cons (lr _) (.cons (lr _) (.cons (lr _) (.cons (Zc.forget _ _) (.cons (Zc.forget _ _) .nil)))))))))))
theorem Za3 (n:Zm) (us:LI) (b:Z6) (mi:LI) (mm:Nat) (hn:X4 n) (hf:fB n.decls n.routines.length mm b) (hop:Ur WX b) (hul:us.length=mm) (hm:mm+4*b.sz<=100000) (hmr:∀v∈mi,0<=v/\v<(mm:Int)) (hml:mi.length<=3) (hbz:b.sz<=500) (ih:∀(us2:LI) (b2:Z6) (mi2:LI) (m2:Nat),(fB n.decls n.routines.length m2 b2)->(Ur WX b2)->(us2.length=m2)->(m2+4*b2.sz<=100000)->(∀v∈mi2,0<=v/\v<(m2:Int))->(mi2.length<=3)->(b2.sz<=500)->(b2.sz<b.sz)->Zj 147 [Yr n,Z4 us2,Y7 b2,Z4 mi2] [] (fun r h=>∃(y:Z6),r=Y7 y/\h=[]/\KB n.decls n.routines.length m2 y (60*b2.sz))):Zj 147 [Yr n,Z4 us,Y7 b,Z4 mi] [] (fun r h=>∃(y:Z6),r=Y7 y/\h=[]/\KB n.decls n.routines.length mm y (60*b.sz)):=by
 have Xz:=hn.decls
 have hbe:=b.sz_eq
 have ZO:=T3 b
 obtain ⟨hfs,hr1,hr2⟩:=(G6 b).1 hf
 have hos:=Dx.1 ((M5 b).1 hop)
 have hdn:=Is hos
 have hdl:=hdn b.steps.length (YU _)
 rw [Vu] at hdl
 refine ZE 80 Tryz.func147 (ar (iA (YZ n) fun b1=>iA (Xs b) fun b2=>iA [nl,.i 0] fun b3=>ie (ar (iL (ZF []) 0 5 fun v1=>Z0 (Y1 1 (ic [] (T2 us) ?_))))))
 rintro _ _ ⟨v2,rfl,rfl⟩
 refine Z0 (Y1 1 (ic [] (T2 mi) ?_))
 rintro _ _ ⟨v3,rfl,rfl⟩
 refine Z0 (Ym (ab 0 (Y4 (fun fz gz m F h=>∃(k:Nat) (vs:LI) (w:Value) (ow:LI) (u:Value) (xs:List Z5) (v:Value) (z0:Nat),(k<=b.steps.length)/\(vs.length=mm+k)/\(CL n.decls n.routines.length mm xs k z0)/\(z0+2*ow.length<=60*Yf (b.steps.take k)+2*mi.length)/\(∀v∈ow,0<=v/\v<((mm+k:Nat):Int))/\F=sF [4,6,8] fz [(9,Xb xs v),(10,ZQ vs w),(11,ZQ ow u),(12,.i k)]/\h=[Zd gz 3,Zd gz 4,Zd gz 5,.tail u 1,.tail v 5,.tail w 1]/\m=b.steps.length-k) _ _ _ ⟨0,us,v2,mi,v3,[],v1,0,ob,ob,CL.nil,(by simp),hmr,rfl,rfl,rfl⟩ (wk [3,3,3,0,1,0] (fw (fr (Yb fl)))) ?_)))
 rintro m F h ⟨k,vs,w,ow,u,xs,v,z0,Ye,Zk,Zw,Yy,XU,rfl,rfl,rfl⟩
 refine Yk 3 [1] (iw (VR b.steps) (Y9 ((k:Int)<(b.steps.length:Int)) (fun Za=>?_) (fun Za=>?_)))
 ·refine ak (aq (ab 1 (Zv 3 [1] ?_)))
  obtain ⟨x1,Z3⟩:=Zs b.steps k om
  have Xu:=DM Z3
  have hfS:=(IW x1).1 (G8 hfs Z3)
  rw [hdn k om] at hfS
  have hoS:=(H7 x1).1 (hos x1 (Y0 Z3))
  have htk:=MT Z3
  have hse:=(x1).sz_eq
  have hal4:=hfS.alen
  have hxl:=Zw.len
  have htl:=AA b.steps (k+1)
  refine Zp (Zl none (k:Int) 5 (VK Z3)) (Z2 1 (iA [.i 0,.i 0,.i 0,nl,nl] fun b4=>ZH 0 b4 (Xx x1) (ie (ar (Kc 3 [(33,Z4 vs)] [3,0] (Zx [] (MP n vs x1 ob ob) (Z0 (ar (Kc 4 [(38,Z4 vs)] [3,0] (ic [] (Z9h n vs x1 (mm+k) (hf:=hfS)) ?_))))))))))
  rintro _ _ ⟨zs1,rfl,rfl,ZY⟩
  have hdu:=ZY
  have hq1:=Zw.cnts (op:=14) (.inl rfl) (vs:=zs1) (fun v hv=>hfS.args v (hdu.2 v hv))
  have hl1:=hq1.len
  refine ic [] (A9 14 zs1) ?_
  rintro _ _ ⟨v4,rfl,rfl⟩
  refine ZT 0 [(41,Vs (zs1.map (ZC 14)))] (ip 6 (ZF (xs++(zs1.map (ZC 14)))) (ZF xs) (ZF (zs1.map (ZC 14))) v none 5 (Xt _) (Xt _) (UF _) (by simp<;>omega) (by simp [V6,ZF]) fun v5=>Z0 (ar (Kc 4 [(45,Z4 vs)] [5,2] (ic [] (Za4 n vs x1 (mm+k) b.sz (hf:=hfS) (h11:=hoS.1) (hop:=hoS.2) (ih:=ih)) ?_))))
  rintro _ _ ⟨y1,rfl,rfl,Yi⟩
  have hkt:=Yi
  have hq2:=hq1.kt hkt
  have hl2:=hq2.len
  refine TC [YF y1] (ZF [y1]) (VL [y1]).symm 1 5 fun v6=>ZT 0 [(48,Vs [y1])] (ip 1 (ZF ((xs++(zs1.map (ZC 14)))++[y1])) (ZF (xs++(zs1.map (ZC 14)))) (ZF [y1]) v5 none 5 (Xt _) (Xt _) (UF _) (by simp<;>omega) (by simp [V6,ZF]) fun v7=>Z0 (X7 (YD ((Y2 n vs x1) != 0) Y3 (fun Zg=>?_) (fun Zg=>?_))))
  ·exact az (Z2 2 (iw (Ya vs) (iL (Z8 [(vs.length:Int)]) 1 1 fun v8=>ZT 0 [(55,Z4 [(vs.length:Int)])] (ip 8 (Z8 (ow++[(vs.length:Int)])) (Z8 ow) (Z8 [(vs.length:Int)]) u none 1 (YL _) (YL _) (Ww _) (by simp<;>omega) (by simp [Wv,Z8]) fun v9=>Z0 (az (Z2 2 (iL (Z8 [Y2 n vs x1]) 1 1 fun v10=>ZT 0 [(59,Z4 [Y2 n vs x1])] (ip 10 (Z8 (vs++[Y2 n vs x1])) (Z8 vs) (Z8 [Y2 n vs x1]) w none 1 (YL _) (YL _) (Ww _) (by simp<;>omega) (by simp [Wv,Z8]) fun v11=>Z0 (az (Z2 1 (ZJ k (Z0 (ZK ⟨k+1,(vs++[Y2 n vs x1]),v11,(ow++[(vs.length:Int)]),v9,((xs++(zs1.map (ZC 14)))++[y1]),v7,_,ob,ob,hq2,(by (try simp only [Ys,YW,XJ]);omega),(by first|exact XS (fun v hv=>by have:=XU v hv;omega) om|exact (fun v hv=>by have:=XU v hv;omega)),rfl,rfl,rfl⟩ (wk [8,8,8,2,3,0] (fw (fr (ZM k fl)))))))))))))))))
  exact ak (az (Z2 2 (iL (Z8 [Y2 n vs x1]) 1 1 fun v12=>ZT 0 [(59,Z4 [Y2 n vs x1])] (ip 9 (Z8 (vs++[Y2 n vs x1])) (Z8 vs) (Z8 [Y2 n vs x1]) w none 1 (YL _) (YL _) (Ww _) (by simp<;>omega) (by simp [Wv,Z8]) fun v13=>Z0 (az (Z2 1 (ZJ k (Z0 (ZK ⟨k+1,(vs++[Y2 n vs x1]),v13,ow,u,((xs++(zs1.map (ZC 14)))++[y1]),v7,_,ob,ob,hq2,(by (try simp only [Ys,YW,XJ]);omega),(by first|exact XS (fun v hv=>by have:=XU v hv;omega) om|exact (fun v hv=>by have:=XU v hv;omega)),rfl,rfl,rfl⟩ (wk [6,6,6,6,2,0] (fw (fr (ZM k fl)))))))))))))
 have hxl:=Zw.len
 have htl:=AA b.steps k
 refine ax 0 (Yk 3 [1] ?_)
 obtain ⟨x2,Zr⟩:=Zs vs b.result.toNat om
 refine Zp (Zl (some w) b.result 1 (ZZ Zr)) (YD (x2 != 0) Y3 (fun ZD=>?_) (fun ZD=>?_))
 ·refine az (ZL 3 [1] (Zx [] (Bg 14 b.result) (TC [YF (ZC 14 b.result)] (ZF [ZC 14 b.result]) (VL [ZC 14 b.result]).symm 1 5 fun v14=>ZT 0 [(71,Vs [ZC 14 b.result])] (ip 5 (ZF (xs++[ZC 14 b.result])) (ZF xs) (ZF [ZC 14 b.result]) v none 5 (Xt _) (Xt _) (UF _) (by simp<;>omega) (by simp [V6,ZF]) fun v15=>Z0 (aD 8 (Ef 4 8 [0,1,4,5] [(74,Z4 ow)] [3] (Z9 2 (dc 2 [] [1] [b2] (A9 15 ow) ?_))))))))
  rintro _ _ ⟨v16,rfl,rfl⟩
  exact YA 3 3 [] [(75,Vs (ow.map (ZC 15)))] (Z9 3 (dp 3 1 [1] [b2] (ZF ((xs++[ZC 14 b.result])++(ow.map (ZC 15)))) (ZF (xs++[ZC 14 b.result])) (ZF (ow.map (ZC 15))) v15 none 5 (Xt _) (Xt _) (UF _) (by simp<;>omega) (by simp [V6,ZF]) fun v17=>Zh 1 2 [6] (Z9 7 (YO 7 3 [] [] b3 [Xb ((xs++[ZC 14 b.result])++(ow.map (ZC 15))) v17,.i b.result] (de (ZB (r3 [] [.agg [Xb ((xs++[ZC 14 b.result])++(ow.map (ZC 15))) v17,.i b.result]] [0] [(b3,b3)] ⟨(Z6.mk ((xs++[ZC 14 b.result])++(ow.map (ZC 15))) b.result),rfl,rfl,((((Zw.cnt (op:=14) (.inl rfl) om).cnts (op:=15) (.inr rfl) (fun v hv=>by have:=XU v hv;omega)).block om).le (by have:=AA b.steps k;omega))⟩ (Zc.agg (.cons (Zc.forget _ _) (.cons (lr _) .nil))))))))))
 refine ak (aD 8 (Ef 4 8 [0,1,4,5] [(74,Z4 ow)] [1] (Z9 2 (dc 2 [] [1] [b2] (A9 15 ow) ?_))))
 rintro _ _ ⟨v18,rfl,rfl⟩
 exact YA 3 3 [] [(75,Vs (ow.map (ZC 15)))] (Z9 3 (dp 3 5 [1] [b2] (ZF (xs++(ow.map (ZC 15)))) (ZF xs) (ZF (ow.map (ZC 15))) v none 5 (Xt _) (Xt _) (UF _) (by simp<;>omega) (by simp [V6,ZF]) fun v19=>Zh 1 2 [6] (Z9 7 (YO 7 2 [] [] b3 [Xb (xs++(ow.map (ZC 15))) v19,.i b.result] (de (ZB (r3 [] [.agg [Xb (xs++(ow.map (ZC 15))) v19,.i b.result]] [0] [(b3,b3)] ⟨(Z6.mk (xs++(ow.map (ZC 15))) b.result),rfl,rfl,(((Zw.cnts (op:=15) (.inr rfl) (fun v hv=>by have:=XU v hv;omega)).block om).le (by have:=AA b.steps k;omega))⟩ (Zc.agg (.cons (Zc.forget _ _) (.cons (lr _) .nil))))))))))
theorem Za2 (n:Zm) (us:LI) (b:Z6) (mi:LI) (mm:Nat) (hn:X4 n:=by exact ob) (hf:fB n.decls n.routines.length mm b:=by exact ob) (hop:Ur WX b:=by exact ob) (hul:us.length=mm:=by exact ob) (hm:mm+4*b.sz<=100000:=by exact ob) (hmr:∀v∈mi,0<=v/\v<(mm:Int)) (hml:mi.length<=3:=by exact ob) (hbz:b.sz<=500:=by exact ob):Zj 147 [Yr n,Z4 us,Y7 b,Z4 mi] [] (fun r h=>∃(y:Z6),r=Y7 y/\h=[]/\KB n.decls n.routines.length mm y (60*b.sz)):=by
 have key:∀k:Nat,∀(us2:LI) (b2:Z6) (mi2:LI) (m2:Nat),(fB n.decls n.routines.length m2 b2)->(Ur WX b2)->(us2.length=m2)->(m2+4*b2.sz<=100000)->(∀v∈mi2,0<=v/\v<(m2:Int))->(mi2.length<=3)->(b2.sz<=500)->(b2.sz<k)->Zj 147 [Yr n,Z4 us2,Y7 b2,Z4 mi2] [] (fun r h=>∃(y:Z6),r=Y7 y/\h=[]/\KB n.decls n.routines.length m2 y (60*b2.sz)):=by
  intro k
  induction k with
  | zero=>intro us2 b2 mi2 m2 h1 h2 h3 h4 h5 h6 h7 h9;omega
  | succ k ih=>intro us2 b2 mi2 m2 h1 h2 h3 h4 h5 h6 h7 h9;exact Za3 n us2 b2 mi2 m2 hn h1 h2 h3 h4 h5 h6 h7 fun us3 b3 mi3 m3 q1 q2 q3 q4 q5 q6 q7 q9=>ih us3 b3 mi3 m3 q1 q2 q3 q4 q5 q6 q7 om
 exact key (b.sz+1) us b mi mm hf hop hul hm hmr hml hbz om
theorem Zal (rt:Yc) (hp:rt.params.length<=1000000:=by exact ob) (hl:rt.lent.length<=1000000:=by exact ob):Zj 148 [K5 rt] [] (fun r h=>∃(os:LI),r=Z4 os/\h=[]/\os.length<=rt.params.length/\∀v∈os,0<=v/\v<(rt.params.length:Int)):=by
 refine ZE 31 Tryz.func148 (ar (iA (TG rt) fun b1=>Z0 (ar (iL (Z8 []) 0 1 fun v1=>?_))))
 refine Z0 (Ym (ab 0 (Y4 (fun fz gz m F h=>∃(k:Nat) (os:LI) (u:Value),(k<=rt.params.length)/\(os.length<=k)/\(∀v∈os,0<=v/\v<(rt.params.length:Int))/\F=sF [1] fz [(3,ZQ os u),(4,.i k)]/\h=[Zd gz 1,.tail u 1]/\m=rt.params.length-k) _ _ _ ⟨0,[],v1,ob,ob,(fun v hv=>by cases hv),rfl,rfl,rfl⟩ (wk [1,0] (fr (Yb fl))) ?_)))
 rintro m F h ⟨k,os,u,Ye,Zk,Zw,rfl,rfl,rfl⟩
 refine Yk 3 [0] (iw (Ya rt.params) (Y9 ((k:Int)<(rt.params.length:Int)) (fun Za=>?_) (fun Za=>?_)))
 ·refine ak (aq (ab 1 (Zv 3 [0] ?_)))
  obtain ⟨x1,Z3⟩:=Zs rt.params k om
  refine Zp (Zl none (k:Int) 1 (ZZ Z3)) (Xv [1,3,4] [(25,.b ((x1 != 0)&&(!(decide ((k:Int)∈rt.lent)))))] (fun gz=>gz) ?_ ?_)
  ·refine Z2 3 (ib (b:=(x1 != 0)) 19 (fun Zb=>?_) (fun Zb=>?_))
   ·exact ZL 3 [0] (Zx [] (Ti rt.lent (k:Int)) (Z0 (wk [0,0] (Zt (!(decide ((k:Int)∈rt.lent))) Zb fl))))
   exact Z0 (wk [0,0] (Zt false Zb fl))
  refine ac ((x1 != 0)&&(!(decide ((k:Int)∈rt.lent)))) (p:=(x1≠0)/\(¬((k:Int)∈rt.lent))) (YK Y3 (Yl dq)) (fun Zg=>?_) (fun Zg=>?_)
  ·exact az (Z2 2 (iL (Z8 [(k:Int)]) 1 1 fun v2=>ZT 0 [(28,Z4 [(k:Int)])] (ip 2 (Z8 (os++[(k:Int)])) (Z8 os) (Z8 [(k:Int)]) u none 1 (YL _) (YL _) (Ww _) (by simp<;>omega) (by simp [Wv,Z8]) fun v3=>Z0 (az (Z2 1 (ZJ k (Z0 (ZK ⟨k+1,(os++[(k:Int)]),v3,ob,ob,(by first|exact Zw|exact XS Zw om),rfl,rfl,rfl⟩ (wk [2,0] (fr (ZM k fl)))))))))))
  exact ak (az (Z2 1 (ZJ k (Z0 (ZK ⟨k+1,os,u,ob,ob,(by first|exact Zw|exact XS Zw om),rfl,rfl,rfl⟩ (wk [0,0] (fr (ZM k fl))))))))
 exact ax 0 (ar (Zo (r2 [] [ZQ os u] ⟨os,rfl,rfl,⟨by omega,Zw⟩⟩ (Zc.forget _ _))))
theorem Za1 (n:Zm) (qz:Nat) (hn:FO n qz WX:=by exact ob) (hqz:qz<=181:=by exact ob):Zj 86 [Yr n] [] (fun r h=>∃(n2:Zm),r=Yr n2/\h=[]/\FO n2 (60*qz) JS):=by
 have hnl:=hn.fn.len
 have Xz:=hn.fn.decls.ok
 have hok:=hn.fn.ok
 refine ZE 39 Tryz.func86 (ar (iA (YZ n) fun b1=>iA [nl,nl] fun b2=>ie (Zv 2 [1] (Zx [] (Ff n.decls) (iL (X6 []) 0 5 fun v1=>Z2 1 (iA [nl,nl] fun b3=>?_))))))
 refine ZH 0 b3 [ZP n.decls,U3 [] v1] (ie (Ym (ab 0 (Y4 (fun fz gz m F h=>∃(k:Nat) (rs:List Yc) (u:Value),(k<=n.routines.length)/\(rs.length=k)/\(∀r∈rs,RF n.decls n.routines.length (60*qz) JS r)/\F=sF [1,2,3] fz [(4,.i k)]/\h=[.obj b3 [ZP n.decls,U3 rs u],Zd gz 2,Zd gz 3,.tail u 5]/\m=n.routines.length-k) _ _ _ ⟨0,[],v1,ob,ob,(fun r hr=>by cases hr),rfl,rfl,rfl⟩ (wk [0,1,1,0] (Yb fl)) ?_))))
 rintro m F h ⟨k,rs,u,Ye,Zk,Zw,rfl,rfl,rfl⟩
 refine Yk 3 [2] (iw (U9 n.routines) (Y9 ((k:Int)<(n.routines.length:Int)) (fun Za=>?_) (fun Za=>?_)))
 ·refine ak (aq (ab 1 (Zv 3 [2] ?_)))
  obtain ⟨x1,Z3⟩:=Zs n.routines k om
  have hrf:=hn.rf (Y0 Z3)
  have hrp:(x1).params.length<=3:=(Qh.bd (f:=⟨(x1).params,(x1).result,default⟩) hrf.sig).1
  have hrl:=hrf.lent.1
  have hrz:=hrf.body.2
  refine Zp (Zl none (k:Int) 5 (WR Z3)) (Z2 1 (iA [nl,nl,.i 0,nl,.i 0] fun b4=>ZH 0 b4 (TG x1) (ie (aE 16 (ZI 7 16 [0,1,2,3,4,5,6,7,8] [1,0,3,0,0,0] (Z9 9 (dc 9 [] [0,0,3,0,1] [b4,b4,b1,b4,b3] (Zal x1) ?_)))))))
  rintro _ _ ⟨os1,rfl,rfl,ZY⟩
  have hop:=ZY
  refine Z9 10 (dc 10 [] [0,1] [b4,b3] (Za2 n x1.params x1.body os1 _ (hf:=hrf.body.1) (hop:=hrf.op) (hul:=rfl) (hmr:=hop.2)) ?_)
  rintro _ _ ⟨y1,rfl,rfl,Yi⟩
  have hkb0:=Yi
  have hkb:=hkb0.le (z2:=60*qz) om
  exact Z9 11 (Yz 11 [] [1] [b3] (Hu x1 y1 (hp:=om) (hl:=om)) (Z9 12 (dL 12 [1] [b3] (X6 [Yc.mk x1.params x1.lent x1.result y1]) 1 5 fun v2=>YA 3 3 [] [(35,KC [Yc.mk x1.params x1.lent x1.result y1])] (Z9 13 (dp 13 5 [] [] (X6 (rs++[Yc.mk x1.params x1.lent x1.result y1])) (X6 rs) (X6 [Yc.mk x1.params x1.lent x1.result y1]) u none 5 (Ql _) (Ql _) (Db _) (by simp<;>omega) (by simp [Da,X6]) fun v3=>Zh 1 2 [14] (Z9 15 (YO 15 3 [] [] b3 [ZP n.decls,U3 (rs++[Yc.mk x1.params x1.lent x1.result y1]) v3] (de (az (Z2 1 (ZJ k (Z0 (ZK ⟨k+1,(rs++[Yc.mk x1.params x1.lent x1.result y1]),v3,ob,ob,(XS Zw (by first|exact hrf.with hkb.fb hkb.sz hkb.op|(rw [Z6.eta];exact hrf.with hkb.fb hkb.sz hkb.op))),rfl,rfl,rfl⟩ (wk [0,3,3,0] (ZM k fl)))))))))))))))
 exact ax 0 (Zv 1 [0] (ZH 1 b2 [ZP n.decls,U3 rs u] (ie (ZB (r3 [] [.agg [ZP n.decls,U3 rs u]] [0] [(b2,b2)] ⟨(Zm.mk n.decls rs),rfl,rfl,(FO.fin hn.fn om Zw).1⟩ (Zc.agg (.cons (lr _) (.cons (Zc.forget _ _) .nil))))))))
theorem Zix (s:Z5) :Zj 224 [YF s] [] (Yn (.b ((s.op==14)||(s.op==15)))):=by
 refine ZE 11 Tryz.func224 (ar (iA (Xx s) fun b1=>Z0 (ar (XD 8 [] [(10,.b ((s.op==14)||(s.op==15)))] (fun gz=>gz) ?_ (fun hj1=>?_)))))
 ·exact Zo (BY)
 refine ZL 4 [0] (ib (b:=(s.op==14)) 6 (fun Zb=>?_) (fun Zb=>?_))
 ·exact Z2 4 (Yp (wk [0] (Zt true Zb fl)) hj1)
 exact ZL 4 [0] (Yp (wk [0] (Zt (s.op==15) Zb fl)) hj1)
theorem RO (b:Nat) (ga:Hd) (gb:Hd) (gc:Hd) (gd:Hd) (ge:Hd) (gf:Hd) (n:Zm) (s:Z5) (L:Zu) (ln:LI) (q:Int) (i:Nat) (kb0:Z6) (m:LI) (hn:X4 n:=by exact ob) (hk:Xd n.decls L q:=by exact ob) (hf:AL n L.vars s:=by exact ob) (hop:s.op=7∨s.op=8:=by exact ob) (hkb:s.kids[i]? = some kb0:=by exact ob) (harm:(X9 n.decls s.op s.num)[i]? = some m:=by exact ob) (hbt:0<=YT n (L.vars++m) kb0:=by exact ob) (hb:L.vars.length+4*s.sz<=1000000000:=by exact ob) (hq:0<=q/\q+4*s.sz<=999999990:=by exact ob) (hln:ln.length<=4294967296:=by exact ob) (ih:∀(b2:Z6) (c:Nat) (ra:Hd) (rb:Hd) (rc:Hd) (rd:Hd) (re:Hd) (rf:Hd) (M:Zu) (mm:Nat) (p:Int),(b2.sz<s.sz)->(Xd n.decls M p)->(0<=YT n M.vars b2)->(mm<=M.vars.length)->(M.vars.length+4*b2.sz<=1000000000)->(0<=p/\p+4*b2.sz<=999999990)->Zj 170 [.p c 0,Yr n,Y7 b2,.i mm] [.obj c [.h ra,.h rb,.h rc,.h rd,.h re,.h rf,Z4 ln],rV ra M.vars,rV rb M.own,rV rc M.par,rV rd M.con,rV re M.fst,rV rf M.tok] (fun r h=>(∃(wa:Hd) (wb:Hd) (wc:Hd) (wd:Hd) (we:Hd) (wf:Hd) (M':Zu),r=.b true/\h=[.obj c [.h wa,.h wb,.h wc,.h wd,.h we,.h wf,Z4 ln],rV wa M'.vars,rV wb M'.own,rV wc M'.par,rV wd M'.con,rV we M'.fst,rV wf M'.tok]/\Vp n ln M mm b2=some M')∨(r=.b false/\h=[]/\Vp n ln M mm b2=none))):Zj 259 [.p b 0,Yr n,YF s,.i i] [.obj b [.h ga,.h gb,.h gc,.h gd,.h ge,.h gf,Z4 ln],rV ga L.vars,rV gb L.own,rV gc L.par,rV gd L.con,rV ge L.fst,rV gf L.tok] (fun r h=>(∃(c:Nat) (wa:Hd) (wb:Hd) (wc:Hd) (wd:Hd) (we:Hd) (wf:Hd) (L':Zu),r=.tup [.p c 0,.b true]/\h=[.obj c [.h wa,.h wb,.h wc,.h wd,.h we,.h wf,Z4 ln],rV wa L'.vars,rV wb L'.own,rV wc L'.par,rV wd L'.con,rV we L'.fst,rV wf L'.tok,.obj b [.h ga,.h gb,.h gc,.h gd,.h ge,.h gf,Z4 ln],rV ga L.vars,rV gb L.own,rV gc L.par,rV gd L.con,rV ge L.fst,rV gf L.tok]/\Vp n ln (VM n.decls L s.op s.num s.args i) L.vars.length kb0=some L')∨(r=.tup [.any,.b false]/\h=[.obj b [.h ga,.h gb,.h gc,.h gd,.h ge,.h gf,Z4 ln],rV ga L.vars,rV gb L.own,rV gc L.par,rV gd L.con,rV ge L.fst,rV gf L.tok]/\Vp n ln (VM n.decls L s.op s.num s.args i) L.vars.length kb0=none)):=by
 obtain ⟨e1,e2,e3,e4,e5⟩:=hk.len
 have Xz:=hn.decls
 have hkz:=Te s
 have haz:=K6 s
 have hK:=Dr hk hq.1 hf hop harm
 have hm3:=E6 Xz harm
 have hkl:=(Xq.1 hkb).1
 have hks:=TF hkb
 refine ZE 83 Tryz.func259 (ar (iA (YZ n) fun b1=>iA (Xx s) fun b2=>Z0 (Zv 4 [2] (Zp (JL 3 ga L.vars) (Z0 (Y1 1 (ic [2,2,2,2,2,2,2] (Zdz b ga gb gc gd ge gf L ln (hlk:=hk.len)) ?_)))))))
 rintro _ _ ⟨c1,wa1,wb1,wc1,wd1,we1,wf1,rfl,rfl⟩
 refine Z0 (X7 (VX [14] (ac (s.op==8) Zq (fun Za=>?_) (fun Za=>?_))))
 ·obtain ⟨x,hxa⟩:=hf.one om
  have ha:s.args[0]? = some x:=by rw [hxa];rfl
  have hx:=hf.args x (by rw [hxa];simp)
  obtain ⟨cc,hcc,hmc⟩:=I5 Za harm
  have hal:=(Xq.1 ha).1
  have hcl:=(Xq.1 hcc).1
  have hm4:=hm3
  rw [hmc] at hm4
  refine Zv 4 [15,14] (ic [] (Bf n.decls s.num) ?_)
  rintro _ _ ⟨v1,rfl,rfl⟩
  refine Z2 1 (Zp (Zl (some v1) (i:Int) 1 (ZZ hcc)) (Z0 (Zv 3 [16] (Zx [] (JD n.decls cc) (Z0 (aD 11 (ZI 5 11 [0,1,2,3,4,5] [1,15] (dx 6 (Zl none 0 1 (ZZ ha)) (Zh 2 4 [7,8] (dx 9 (Wg 5 wd1 L.con x x.toNat (hq:=rfl)) (Z9 10 (An 10 5 [] [] wd1 L.con x.toNat cc (de (aD 11 (ZI 5 11 [0,1,2,3,4,5] [2,15] (dx 6 (Zl none 0 1 (ZZ ha)) (Zh 2 4 [7,8] (dx 9 (Wg 6 we1 L.fst x x.toNat (hq:=rfl)) (Z9 10 (An 10 6 [] [] we1 L.fst x.toNat (L.vars.length:Int) (de (Zy (ab 0 (Y4 (fun fz gz m F h=>∃(k:Nat) (L3:Zu) (ka:Hd) (kb:Hd) (kc:Hd) (kd:Hd) (ke:Hd) (kf:Hd),(k<=(ZX n.decls cc).length)/\(WH L3)/\(L3.vars.length=L.vars.length+k)/\(Jt L3 x ((ZX n.decls cc).drop k)=Aj n.decls L x cc)/\F=sF [3,5,6,10,11,13] fz [(14,.i k)]/\h=[.obj c1 [.h ka,.h kb,.h kc,.h kd,.h ke,.h kf,Z4 ln],Zd gz 8,Zd gz 9,Zd gz 10,Zd gz 11,Zd gz 12,Zd gz 13,Zd gz 14,Zd gz 15,Zd gz 16,rV ka L3.vars,rV kb L3.own,rV kc L3.par,rV kd L3.con,rV ke L3.fst,rV kf L3.tok]/\m=(ZX n.decls cc).length-k) _ _ _ ⟨0,(Zu.mk L.vars L.own L.par (L.con.set x.toNat cc) (L.fst.set x.toNat (L.vars.length:Int)) L.tok),wa1,wb1,wc1,wd1,we1,wf1,ob,(WH.arm hk.len),ob,(by rw [Aj];rfl),rfl,rfl,rfl⟩ (wk [3,7,7,7,7,7,7,7,7,7,3,3,3,1,0,1] (Yb fl) (e:=(rc (rc (rc (rc (rc (rc (rc (rc (rc (rc (rv (xs:=L.vars) ob (rv (xs:=L.own) ob (rv (xs:=L.par) ob (rv (xs:=(L.con.set x.toNat cc)) ob (rv (xs:=(L.fst.set x.toNat (L.vars.length:Int))) ob (rv (xs:=L.tok) ob rz)))))))))))))))))) ?_))))))))))))))))))))))))
  rintro m F h ⟨k,L3,ka,kb,kc,kd,ke,kf,Ye,Zk,Zw,Yy,rfl,rfl,rfl⟩
  refine YP 2 (io (.i (((ZX n.decls cc).length:Nat):Int)) (.i (((Z8 (ZX n.decls cc)).length:Nat):Int)) (li (by rw [Ya])) (Y9 ((k:Int)<(((ZX n.decls cc).length:Nat):Int)) (fun Zg=>?_) (fun Zg=>?_)))
  ·refine ak (aq (ab 1 (aE 10 (Zh 7 10 [0,1,2] ?_))))
   obtain ⟨x1,Z3⟩:=Zs (ZX n.decls cc) k om
   refine dx 3 (Zl none (k:Int) 1 (ZZ Z3)) (ZI 3 6 [4,5,6] [8] (dx 7 (Zl none 0 1 (ZZ ha)) (Zh 1 2 [8] (Z9 9 (dc 9 [0,9,9,9,9,9,9] [] [] (J5 c1 ka kb kc kd ke kf L3 ln x1 0 x (hlk:=Zk)) ?_)))))
   rintro _ _ ⟨wa2,wb2,wc2,wd2,we2,wf2,rfl⟩
   exact de (az (Z2 1 (ZJ k (Z0 (ZK ⟨k+1,(L3.grow x1 0 x),wa2,wb2,wc2,wd2,we2,wf2,ob,(WH.grow Zk),(by simp [Zu.grow];omega),(by rw [Y5 Z3,Jt] at Yy;exact Yy),rfl,rfl,rfl⟩ (wk [0,6,6,6,6,6,6,6,6,6,0,0,0,0,0,0] (ZM k fl)))))))
  have hE:VM n.decls L s.op s.num s.args i=L3:=by rw [Zdg Za ha hcc,<-Yy,Xj om];rfl
  refine ax 0 (aD 12 (ZI 6 12 [0,1,2,3,4,5] [9,8] (dx 6 (Zl none (i:Int) 2 (UV hkb)) (Zh 3 5 [7,8] (Z9 9 (dc 9 [0,9,9,9,9,9,9] [] [] (ih kb0 c1 ka kb kc kd ke kf L3 L.vars.length q ob (by rw [<-hE];exact hK.1) (by rw [<-hE,hK.2];exact hbt) (by rw [<-hE,hK.2];simp) (by rw [<-hE,hK.2,Ys];omega) ob) ?_))))))
  rintro _ _ (⟨wa3,wb3,wc3,wd3,we3,wf3,M'1,rfl,rfl,ZY⟩|⟨rfl,rfl,Yi⟩)
  ·exact Zh 0 2 [10,11] (de (ZB (r2 [0,0,0,0,0,0,0,0,0,0,0,0,0,0] [.p c1 0,.b true] (.inl ⟨c1,wa3,wb3,wc3,wd3,we3,wf3,M'1,rfl,rfl,(by rw [hE];exact ZY)⟩) (lr _))))
  exact Zh 0 2 [10,11] (de (ZB (r2 [0,0,0,0,0,0,0] [.p c1 0,.b false] (.inr ⟨rfl,rfl,(by rw [hE];exact Yi)⟩) (Zc.tup (.cons (Zc.any _) (.cons (lr _) .nil))))))
 have hE:=Zdh (ds:=n.decls) (L:=L) (num:=s.num) (args:=s.args) (i:=i) Za
 refine ak (aD 12 (ZI 6 12 [0,1,2,3,4,5] [15,14] (dx 6 (Zl none (i:Int) 2 (UV hkb)) (Zh 3 5 [7,8] (Z9 9 (dc 9 [0,0,0,0,0,0,0] [] [] (ih kb0 c1 wa1 wb1 wc1 wd1 we1 wf1 L L.vars.length q ob (by rw [<-hE];exact hK.1) (by rw [<-hE,hK.2];exact hbt) (by rw [<-hE,hK.2];simp) (by rw [<-hE,hK.2,Ys];omega) ob) ?_))))))
 rintro _ _ (⟨wa4,wb4,wc4,wd4,we4,wf4,M'2,rfl,rfl,YJ⟩|⟨rfl,rfl,YR⟩)
 ·exact Zh 0 2 [10,11] (de (ZB (r2 [0,0,0,0,0,0,0,0,0,0,0,0,0,0] [.p c1 0,.b true] (.inl ⟨c1,wa4,wb4,wc4,wd4,we4,wf4,M'2,rfl,rfl,(by rw [hE];exact YJ)⟩) (lr _))))
 exact Zh 0 2 [10,11] (de (ZB (r2 [0,0,0,0,0,0,0] [.p c1 0,.b false] (.inr ⟨rfl,rfl,(by rw [hE];exact YR)⟩) (Zc.tup (.cons (Zc.any _) (.cons (lr _) .nil))))))
theorem Zdy (b:Nat) (ga:Hd) (gb:Hd) (gc:Hd) (gd:Hd) (ge:Hd) (gf:Hd) (n:Zm) (s:Z5) (L:Zu) (ln:LI) (q:Int) (hn:X4 n:=by exact ob) (hk:Xd n.decls L q:=by exact ob) (hf:AL n L.vars s:=by exact ob) (hop:s.op=7∨s.op=8:=by exact ob) (hb:L.vars.length+4*s.sz<=1000000000:=by exact ob) (hq:0<=q/\q+4*s.sz<=999999990:=by exact ob) (hln:ln.length<=4294967296:=by exact ob) (ih:∀(b2:Z6) (c:Nat) (ra:Hd) (rb:Hd) (rc:Hd) (rd:Hd) (re:Hd) (rf:Hd) (M:Zu) (mm:Nat) (p:Int),(b2.sz<s.sz)->(Xd n.decls M p)->(0<=YT n M.vars b2)->(mm<=M.vars.length)->(M.vars.length+4*b2.sz<=1000000000)->(0<=p/\p+4*b2.sz<=999999990)->Zj 170 [.p c 0,Yr n,Y7 b2,.i mm] [.obj c [.h ra,.h rb,.h rc,.h rd,.h re,.h rf,Z4 ln],rV ra M.vars,rV rb M.own,rV rc M.par,rV rd M.con,rV re M.fst,rV rf M.tok] (fun r h=>(∃(wa:Hd) (wb:Hd) (wc:Hd) (wd:Hd) (we:Hd) (wf:Hd) (M':Zu),r=.b true/\h=[.obj c [.h wa,.h wb,.h wc,.h wd,.h we,.h wf,Z4 ln],rV wa M'.vars,rV wb M'.own,rV wc M'.par,rV wd M'.con,rV we M'.fst,rV wf M'.tok]/\Vp n ln M mm b2=some M')∨(r=.b false/\h=[]/\Vp n ln M mm b2=none))):Zj 209 [.p b 0,Yr n,YF s] [.obj b [.h ga,.h gb,.h gc,.h gd,.h ge,.h gf,Z4 ln],rV ga L.vars,rV gb L.own,rV gc L.par,rV gd L.con,rV ge L.fst,rV gf L.tok] (fun r h=>(∃(wa:Hd) (wb:Hd) (wc:Hd) (wd:Hd) (we:Hd) (wf:Hd) (L':Zu),r=.b true/\h=[.obj b [.h wa,.h wb,.h wc,.h wd,.h we,.h wf,Z4 ln],rV wa L'.vars,rV wb L'.own,rV wc L'.par,rV wd L'.con,rV we L'.fst,rV wf L'.tok]/\JV n ln L s=some L')∨(r=.b false/\h=[]/\JV n ln L s=none)):=by
 obtain ⟨e1,e2,e3,e4,e5⟩:=hk.len
 have Xz:=hn.decls
 have hkz:=Te s
 have haz:=K6 s
 obtain ⟨hk1,hk2,hk3⟩:=hf.kids hop
 obtain ⟨kd,hkd⟩:=Zs s.kids 0 om
 obtain ⟨m0,hm0⟩:=Zs (X9 n.decls s.op s.num) 0 om
 obtain ⟨x,hxa⟩:=hf.one om
 have ha:s.args[0]? = some x:=by rw [hxa];rfl
 have hx:=hf.args x (by rw [hxa];simp)
 have hgx:=A3 ha
 have hal:=(Xq.1 ha).1
 refine ZE 88 Tryz.func209 (ar (iA (YZ n) fun b1=>iA (Xx s) fun b2=>Z0 (X7 (Xv [0,4,5] [(23,.b ((s.op==8)&&(!Wd L ln x)))] (fun gz=>[Zd gz 2,Zd gz 3,Zd gz 4,Zd gz 5,Zd gz 6,Zd gz 7,Zd gz 8,Zd gz 0,Zd gz 1]) ?_ ?_))))
 ·refine ZL 4 [0] (ib (b:=(s.op==8)) 15 (fun Zb=>?_) (fun Zb=>?_))
  ·exact ZL 3 [0] (Zp (Zl none 0 1 (ZZ ha)) (Z2 1 (Zx [2,2,2,2,2,2,2] (GW b ga gb gc gd ge gf L ln x (hlk:=hk.len) (hd:=hk.down)) (Z0 (ZG 9 (Zt (!Wd L ln x) Zb fl))))))
  exact Z0 (wk [2,2,2,2,2,2,2,0,0] (Zt false Zb fl))
 refine ac ((s.op==8)&&(!Wd L ln x)) (p:=(s.op=8)/\(¬(Wd L ln x=true))) (YK Zq (Yl Iff.rfl)) (fun Za=>?_) (fun Za=>?_)
 ·exact ar (Zo (r1 [] (.inr ⟨rfl,rfl,(by rw [JV,Ze (by rw [hgx];exact Za)])⟩)))
 have hgo:=O4 (n:=n) (ln:=ln) (L:=L) (s:=s) (by rw [hgx];exact Za) hkd
 refine ak (Zv 3 [8,7] (ic [0,0,0,0,0,0,0] (RO b ga gb gc gd ge gf n s L ln q 0 kd m0 (hkb:=hkd) (harm:=hm0) (hbt:=(hk3 0 kd m0 hkd hm0)) (ih:=ob)) ?_))
 rintro _ _ (⟨c1,wa1,wb1,wc1,wd1,we1,wf1,L'1,rfl,rfl,YJ⟩|⟨rfl,rfl,YR⟩)
 ·have hone:=YJ
  obtain ⟨l1,l2⟩:=Rx hn hk hq.1 hf hop hkd hm0 (hk3 0 kd m0 hkd hm0) hone
  refine Z0 (Ym (WE (ak (Ym (ab 0 (Y4 (fun fz gz m F h=>∃(k:Nat),(1<=k/\k<=s.kids.length)/\(J3 n ln L s.op s.num s.args L'1 (s.kids.drop k) k=J3 n ln L s.op s.num s.args L'1 (s.kids.drop 1) 1)/\F=sF [0,4,5,7] fz [(9,.i k)]/\h=gz/\m=s.kids.length-k) _ _ _ ⟨1,ob,ob,rfl,rfl,rfl⟩ (ZG 16 (fc (x:=.i 1) li fl)) ?_))))))
  rintro m F h ⟨k,Ye,Zk,rfl,rfl,rfl⟩
  refine Yk 3 [14] (iw (U8 s.kids) (Y9 ((k:Int)<(s.kids.length:Int)) (fun Zg=>?_) (fun Zg=>?_)))
  ·obtain ⟨ke,hke⟩:=Zs s.kids k om
   obtain ⟨mk,hmk⟩:=Zs (X9 n.decls s.op s.num) k om
   have hcs:=EF (n:=n) (ln:=ln) (L:=L) (op:=s.op) (num:=s.num) (args:=s.args) (one:=L'1) hke
   refine ak (aq (ab 1 (Zv 4 [15,14] (ic [7,7,7,7,7,7,7] (RO b ga gb gc gd ge gf n s L ln q k ke mk (hkb:=hke) (harm:=hmk) (hbt:=(hk3 k ke mk hke hmk)) (ih:=ob)) ?_))))
   rintro _ _ (⟨c2,wa2,wb2,wc2,wd2,we2,wf2,L'2,rfl,rfl,Xk⟩|⟨rfl,rfl,XX⟩)
   ·have htwo:=Xk
    obtain ⟨l3,l4⟩:=Rx hn hk hq.1 hf hop hke hmk (hk3 k ke mk hke hmk) htwo
    refine Z0 (aD 26 (ZI 15 26 [0,1,2,3,4,5,6,7,8,9,10] [14,0] (Z9 11 (Tb 11 [16,2] [] [] [rV wb1 L'1.own,rV wb2 L'2.own] (Z1r L'1.own L'2.own) CY (gL (v:=wb1) 0 (gL (v:=wb2) 1 gN)) (Uq (Uq Tf)) ?_))))
    rintro _ _ ⟨rfl,rfl⟩
    refine JZ [0,4,5,7,9] [(73,.b ((!(decide (L'1.own=L'2.own)))||(!(decide (L'1.tok=L'2.tok)))))] (fun gz=>gz) ?_ ?_
    ·refine Zh 11 14 [12,13,14] (db (b:=(!(decide (L'1.own=L'2.own)))) 62 (fun Zz=>?_) (fun Zz=>?_))
     ·exact Zh 0 11 [15,16,17,18,19,20,21,22,23,24,25] (de (ZG 23 (Zt true Zz fl)))
     refine ZI 3 11 [15,16,17,18,19,20,21,22] [15,2] (Z9 23 (Tb 23 [20,7] [] [] [rV wf1 L'1.tok,rV wf2 L'2.tok] (Z1r L'1.tok L'2.tok) CY (gL (v:=wf1) 0 (gL (v:=wf2) 1 gN)) (Uq (Uq Tf)) ?_))
     rintro _ _ ⟨rfl,rfl⟩
     exact Zh 0 2 [24,25] (de (wk [2,2,2,2,2,2,2,1,1,1,1,1,1,1,1,1,1,1,1,1,0,0,0] (Zt (!(decide (L'1.tok=L'2.tok))) Zz fl)))
    refine ac ((!(decide (L'1.own=L'2.own)))||(!(decide (L'1.tok=L'2.tok)))) (p:=(¬(L'1.own=L'2.own))∨(¬(L'1.tok=L'2.tok))) (Yh (Yl dq) (Yl dq)) (fun ZD=>?_) (fun ZD=>?_)
    ·exact ar (Zo (r1 [] (.inr ⟨rfl,rfl,(by rw [hgo,hone];exact EJ (by rw [<-Zk,hcs,htwo];exact Z0n ZD))⟩)))
    exact ak (az (Z2 1 (ZJ k (Z0 (ZK ⟨k+1,ob,(by rw [hcs,htwo,Z0o ZD] at Zk;exact Zk),rfl,rfl,rfl⟩ (wk [15,15,0,14,14,14,14,7,7,7,7,7,7,7,7,7] (ZM k fl)))))))
   have htwo:=XX
   exact Z0 (aD 26 (Zh 0 26 [0,1,2,3,4,5,6,7,8,9,10,11,12,13,14,15,16,17,18,19,20,21,22,23,24,25] (de (W6 (ar (Zo (r1 [] (.inr ⟨rfl,rfl,(by rw [hgo,hone];exact EJ (by rw [<-Zk,hcs,htwo];rfl))⟩))))))))
  have hE:J3 n ln L s.op s.num s.args L'1 (s.kids.drop 1) 1=true:=by rw [<-Zk,Xj om,J3]
  exact ax 0 (Zv 7 [0] (ZH 7 b [.h ga,.h wb1,.h gc,.h gd,.h ge,.h gf,Z4 ln] (ie (Zv 7 [1] (ZH 0 b [.h ga,.h wb1,.h gc,.h gd,.h ge,.h wf1,Z4 ln] (ie (ar (Zo (r1 [0,7,2,7,7,7,5] (.inl ⟨ga,wb1,gc,gd,ge,wf1,(Zu.mk L.vars L'1.own L.par L.con L.fst L'1.tok),rfl,rfl,(by rw [hgo,hone];exact S0 hE)⟩) (eq:=(rc (rv (xs:=L.vars) ob (rv (xs:=L'1.own) ob (rv (xs:=L.par) ob (rv (xs:=L.con) ob (rv (xs:=L.fst) ob (rv (xs:=L'1.tok) ob rz)))))))))))))))))
 have hone:=YR
 exact Z0 (Ym (W6 (ar (Zo (r1 [] (.inr ⟨rfl,rfl,(by rw [hgo,hone];rfl)⟩))))))
theorem RP (b:Nat) (ga:Hd) (gb:Hd) (gc:Hd) (gd:Hd) (ge:Hd) (gf:Hd) (n:Zm) (s:Z5) (L:Zu) (ln:LI) (q:Int) (hn:X4 n:=by exact ob) (hk:Xd n.decls L q:=by exact ob) (ht:0<=Y2 n L.vars s:=by exact ob) (hb:L.vars.length+4*s.sz<=1000000000:=by exact ob) (hq:0<=q/\q+4*s.sz<=999999990:=by exact ob) (hln:ln.length<=4294967296:=by exact ob) (ih:∀(b2:Z6) (c:Nat) (ra:Hd) (rb:Hd) (rc:Hd) (rd:Hd) (re:Hd) (rf:Hd) (M:Zu) (mm:Nat) (p:Int),(b2.sz<s.sz)->(Xd n.decls M p)->(0<=YT n M.vars b2)->(mm<=M.vars.length)->(M.vars.length+4*b2.sz<=1000000000)->(0<=p/\p+4*b2.sz<=999999990)->Zj 170 [.p c 0,Yr n,Y7 b2,.i mm] [.obj c [.h ra,.h rb,.h rc,.h rd,.h re,.h rf,Z4 ln],rV ra M.vars,rV rb M.own,rV rc M.par,rV rd M.con,rV re M.fst,rV rf M.tok] (fun r h=>(∃(wa:Hd) (wb:Hd) (wc:Hd) (wd:Hd) (we:Hd) (wf:Hd) (M':Zu),r=.b true/\h=[.obj c [.h wa,.h wb,.h wc,.h wd,.h we,.h wf,Z4 ln],rV wa M'.vars,rV wb M'.own,rV wc M'.par,rV wd M'.con,rV we M'.fst,rV wf M'.tok]/\Vp n ln M mm b2=some M')∨(r=.b false/\h=[]/\Vp n ln M mm b2=none))):Zj 151 [.p b 0,Yr n,YF s] [.obj b [.h ga,.h gb,.h gc,.h gd,.h ge,.h gf,Z4 ln],rV ga L.vars,rV gb L.own,rV gc L.par,rV gd L.con,rV ge L.fst,rV gf L.tok] (fun r h=>(∃(wa:Hd) (wb:Hd) (wc:Hd) (wd:Hd) (we:Hd) (wf:Hd) (L':Zu),r=.b true/\h=[.obj b [.h wa,.h wb,.h wc,.h wd,.h we,.h wf,Z4 ln],rV wa L'.vars,rV wb L'.own,rV wc L'.par,rV wd L'.con,rV we L'.fst,rV wf L'.tok]/\UA n ln L s=some L')∨(r=.b false/\h=[]/\UA n ln L s=none)):=by
 obtain ⟨e1,e2,e3,e4,e5⟩:=hk.len
 have Xz:=hn.decls
 have hkz:=Te s
 have haz:=K6 s
 have hf:=CF ht
 refine ZE 89 Tryz.func151 (ar (iA (YZ n) fun b1=>iA (Xx s) fun b2=>Z0 (aD 8 (ZI 2 8 [0,1,2,3,4,5] [1,2,0] (Z9 6 (Tb 6 [3] [] [] [rV ga L.vars] (MP n L.vars s ob ob) CY (gS (gL (v:=ga) 0 (gS gN))) (Uq Tf) ?_))))))
 rintro _ _ ⟨rfl,rfl⟩
 refine Zh 0 1 [7] (de (Zy (X7 (VX [1] (ab 0 (ar (YD (s.op==14) Zq (fun Za=>?_) (fun Za=>?_))))))))
 ·obtain ⟨x,hxa⟩:=hf.one om
  have ha:s.args[0]? = some x:=by rw [hxa];rfl
  have hx:=hf.args x (by rw [hxa];simp)
  have hgx:=A3 ha
  have hal:=(Xq.1 ha).1
  obtain ⟨xo,hxo⟩:=Zs L.own x.toNat om
  have hgo:=WS hxo
  have hob:=hk.bd xo (Y0 hxo)
  have hon:=hk.nn xo (Y0 hxo)
  refine Zv 3 [1] (Zp (Zl none 0 1 (ZZ ha)) (Z2 1 (Zx [3,0,2,2,2,2,2] (GW b ga gb gc gd ge gf L ln x (hlk:=hk.len) (hd:=hk.down)) (Z0 (aE 21 (ZI 15 21 [0,1,2,3,4,5] [0,7] (dx 6 (Zl none 0 1 (ZZ ha)) (ZI 7 14 [7,8,9,10,11,12,13] [0,7] (dx 14 (Zl none 0 1 (ZZ ha)) (Zh 5 6 [15] (dx 16 (Wg 2 gb L.own x x.toNat (hq:=rfl)) (Ue 17 (VY 2 gb L.own x.toNat xo hxo) (da 18 ((xo+1)) ((xo)+(1)) (dx 19 (Wg 2 gb L.own x x.toNat (hq:=rfl)) (Z9 20 (An 20 2 [] [] gb L.own x.toNat (xo+1) (de (X7 (YD (!Wd L ln x) (p:=¬(Wd L ln x=true)) (Yl Iff.rfl) (fun Zg=>?_) (fun Zg=>?_))))))))))))))))))))
  ·have hP:=(Mc (n:=n) (ln:=ln) (L:=L) Za hgx).trans (Z7k Zg)
   exact ar (Zo (r1 [] (.inr ⟨rfl,rfl,(by rw [UL,hP];first|rfl|exact Tz (by assumption)|exact TA (by assumption) (by assumption)|exact TB (by assumption))⟩)))
  have hP:=(Mc (n:=n) (ln:=ln) (L:=L) Za hgx).trans (Z7l Zg hgo)
  obtain ⟨kx,hxv⟩:=BP hn hk hq.1 hf hP
  refine ak (Yk 2 [7] (Zx [] (JE s.op) (Xv [0,5,7] [(80,.b (W7 s.op&&((Y2 n L.vars s) != 0)))] (fun gz=>gz) ?_ ?_)))
  ·refine Z2 1 (ib (b:=W7 s.op) 77 (fun Zb=>?_) (fun Zb=>?_))
   ·exact Z0 (ZG 9 (Zt ((Y2 n L.vars s) != 0) Zb fl))
   exact Z0 (ZG 9 (Zt false Zb fl))
  refine ac (W7 s.op&&((Y2 n L.vars s) != 0)) (p:=(W7 s.op=true)/\((Y2 n L.vars s)≠0)) (YK Iff.rfl Y3) (fun ZD=>?_) (fun ZD=>?_)
  ·refine az (Z2 2 (ic [1,1,0,0,0,0,0] (J5 b ga gb gc gd ge gf (Zu.mk L.vars (L.own.set x.toNat (xo+1)) L.par L.con L.fst L.tok) ln (Y2 n L.vars s) 1 (-1) (hlb:=(by rw [hxv];omega)) (hlk:=kx.len)) ?_))
   rintro _ _ ⟨wa1,wb1,wc1,wd1,we1,wf1,rfl⟩
   exact ie (ar (Zo (r1 [0,0,0,0,0,0,0] (.inl ⟨wa1,wb1,wc1,wd1,we1,wf1,((Zu.mk L.vars (L.own.set x.toNat (xo+1)) L.par L.con L.fst L.tok).grow (Y2 n L.vars s) 1 (-1)),rfl,rfl,(by rw [UL,hP];first|rfl|exact Tz (by assumption)|exact TA (by assumption) (by assumption)|exact TB (by assumption))⟩))))
  refine Zv 2 [7] (Zx [] (JE s.op) (ie (ac (W7 s.op) Iff.rfl (fun Yj=>?_) (fun Yj=>?_))))
  ·refine az (Z2 1 (ic [1,1,0,0,0,0,0] (J5 b ga gb gc gd ge gf (Zu.mk L.vars (L.own.set x.toNat (xo+1)) L.par L.con L.fst L.tok) ln 0 0 (-1) (hlb:=(by rw [hxv];omega)) (hlk:=kx.len)) ?_))
   rintro _ _ ⟨wa2,wb2,wc2,wd2,we2,wf2,rfl⟩
   exact ie (ar (Zo (r1 [0,0,0,0,0,0,0] (.inl ⟨wa2,wb2,wc2,wd2,we2,wf2,((Zu.mk L.vars (L.own.set x.toNat (xo+1)) L.par L.con L.fst L.tok).grow 0 0 (-1)),rfl,rfl,(by rw [UL,hP];first|rfl|exact Tz (by assumption)|exact TA (by assumption) (by assumption)|exact TB (by assumption))⟩))))
  exact ak (ar (Zo (r1 [1,1,0,0,0,0,0] (.inl ⟨ga,gb,gc,gd,ge,gf,(Zu.mk L.vars (L.own.set x.toNat (xo+1)) L.par L.con L.fst L.tok),rfl,rfl,(by rw [UL,hP];first|rfl|exact Tz (by assumption)|exact TA (by assumption) (by assumption)|exact TB (by assumption))⟩) (eq:=(rc (rv (xs:=L.vars) ob (rv (xs:=(L.own.set x.toNat (xo+1))) ob (rv (xs:=L.par) ob (rv (xs:=L.con) ob (rv (xs:=L.fst) ob (rv (xs:=L.tok) ob rz)))))))))))
 refine ar (YD (s.op==15) Zq (fun Xh=>?_) (fun Xh=>?_))
 ·obtain ⟨x,hxa⟩:=hf.one om
  have ha:s.args[0]? = some x:=by rw [hxa];rfl
  have hx:=hf.args x (by rw [hxa];simp)
  have hgx:=A3 ha
  have hal:=(Xq.1 ha).1
  refine az (ZL 3 [1] (Zp (Zl none 0 1 (ZZ ha)) (Z2 1 (ic [3,0,2,2,2,2,2] (GX b ga gb gc gd ge gf L ln x (hlk:=hk.len) (hq:=(fun y hy=>⟨hk.nn y hy,by have:=hk.bd y hy;omega⟩))) ?_))))
  rintro _ _ (⟨wa3,wb3,wc3,wd3,we3,wf3,L'1,rfl,rfl,YJ⟩|⟨rfl,rfl,YR⟩)
  ·have hP:=(Md (n:=n) (ln:=ln) (L:=L) Xh hgx).trans (YJ)
   obtain ⟨kx,hxv⟩:=BP hn hk hq.1 hf hP
   refine Z0 (Ym (WE (ak (Yk 2 [7] (Zx [] (JE s.op) (Xv [0,5,7] [(80,.b (W7 s.op&&((Y2 n L.vars s) != 0)))] (fun gz=>gz) ?_ ?_))))))
   ·refine Z2 1 (ib (b:=W7 s.op) 77 (fun Zz=>?_) (fun Zz=>?_))
    ·exact Z0 (ZG 9 (Zt ((Y2 n L.vars s) != 0) Zz fl))
    exact Z0 (ZG 9 (Zt false Zz fl))
   refine ac (W7 s.op&&((Y2 n L.vars s) != 0)) (p:=(W7 s.op=true)/\((Y2 n L.vars s)≠0)) (YK Iff.rfl Y3) (fun Xl=>?_) (fun Xl=>?_)
   ·refine az (Z2 2 (ic [0,0,0,0,0,0,0] (J5 b wa3 wb3 wc3 wd3 we3 wf3 L'1 ln (Y2 n L.vars s) 1 (-1) (hlb:=(by rw [hxv];omega)) (hlk:=kx.len)) ?_))
    rintro _ _ ⟨wa4,wb4,wc4,wd4,we4,wf4,rfl⟩
    exact ie (ar (Zo (r1 [0,0,0,0,0,0,0] (.inl ⟨wa4,wb4,wc4,wd4,we4,wf4,(L'1.grow (Y2 n L.vars s) 1 (-1)),rfl,rfl,(by rw [UL,hP];first|rfl|exact Tz (by assumption)|exact TA (by assumption) (by assumption)|exact TB (by assumption))⟩))))
   refine Zv 2 [7] (Zx [] (JE s.op) (ie (ac (W7 s.op) Iff.rfl (fun U0=>?_) (fun U0=>?_))))
   ·refine az (Z2 1 (ic [0,0,0,0,0,0,0] (J5 b wa3 wb3 wc3 wd3 we3 wf3 L'1 ln 0 0 (-1) (hlb:=(by rw [hxv];omega)) (hlk:=kx.len)) ?_))
    rintro _ _ ⟨wa5,wb5,wc5,wd5,we5,wf5,rfl⟩
    exact ie (ar (Zo (r1 [0,0,0,0,0,0,0] (.inl ⟨wa5,wb5,wc5,wd5,we5,wf5,(L'1.grow 0 0 (-1)),rfl,rfl,(by rw [UL,hP];first|rfl|exact Tz (by assumption)|exact TA (by assumption) (by assumption)|exact TB (by assumption))⟩))))
   exact ak (ar (Zo (r1 [0,0,0,0,0,0,0] (.inl ⟨wa3,wb3,wc3,wd3,we3,wf3,L'1,rfl,rfl,(by rw [UL,hP];first|rfl|exact Tz (by assumption)|exact TA (by assumption) (by assumption)|exact TB (by assumption))⟩))))
  have hP:=(Md (n:=n) (ln:=ln) (L:=L) Xh hgx).trans (YR)
  exact Z0 (Ym (W6 (ar (Zo (r1 [] (.inr ⟨rfl,rfl,(by rw [UL,hP];first|rfl|exact Tz (by assumption)|exact TA (by assumption) (by assumption)|exact TB (by assumption))⟩))))))
 refine Ym (Wj (fun fz gz F h=>F=sF [0,4,5,7,17] fz [(58,.b ((s.op==16)||(s.op==17)))]/\h=gz) ?_ ?_)
 ·refine ac (s.op==16) Zq (fun VT=>?_) (fun VT=>?_)
  ·exact ak (ZV ⟨rfl,rfl⟩ (ZG 9 (fc (x:=.b (s.op==16)) (lb (by first|rfl|(rw [Ze VT])|(rw [Z7 VT])|(simp [VT];done)|(rw [XH];simp [VT];done)|omega)) fl)))
  exact UY (ZV ⟨rfl,rfl⟩ (ZG 9 (fc (x:=.b (s.op==17)) (lb (by first|rfl|(rw [Ze VT])|(rw [Z7 VT])|(simp [VT];done)|(rw [XH];simp [VT];done)|omega)) fl)))
 rintro F h ⟨rfl,rfl⟩
 refine ac ((s.op==16)||(s.op==17)) (p:=(s.op=16)∨(s.op=17)) (Yh Zq Zq) (fun VU=>?_) (fun VU=>?_)
 ·obtain ⟨x,hxa⟩:=hf.one om
  have ha:s.args[0]? = some x:=by rw [hxa];rfl
  have hx:=hf.args x (by rw [hxa];simp)
  have hgx:=A3 ha
  have hal:=(Xq.1 ha).1
  refine az (ZL 3 [2,1] (ic [3,0,2,2,2,2,2] (Ze1 b ga gb gc gd ge gf n s L ln q x) ?_))
  rintro _ _ (⟨wa6,wb6,wc6,wd6,we6,wf6,L'2,rfl,rfl,WA⟩|⟨rfl,rfl,WY⟩)
  ·have hP:=(Me (n:=n) (ln:=ln) (L:=L) VU hgx).trans (WA)
   obtain ⟨kx,hxv⟩:=BP hn hk hq.1 hf hP
   refine Z0 (Ym (WE (ak (Yk 2 [7] (Zx [] (JE s.op) (Xv [0,5,7] [(80,.b (W7 s.op&&((Y2 n L.vars s) != 0)))] (fun gz=>gz) ?_ ?_))))))
   ·refine Z2 1 (ib (b:=W7 s.op) 77 (fun Yo=>?_) (fun Yo=>?_))
    ·exact Z0 (ZG 9 (Zt ((Y2 n L.vars s) != 0) Yo fl))
    exact Z0 (ZG 9 (Zt false Yo fl))
   refine ac (W7 s.op&&((Y2 n L.vars s) != 0)) (p:=(W7 s.op=true)/\((Y2 n L.vars s)≠0)) (YK Iff.rfl Y3) (fun TU=>?_) (fun TU=>?_)
   ·refine az (Z2 2 (ic [0,0,0,0,0,0,0] (J5 b wa6 wb6 wc6 wd6 we6 wf6 L'2 ln (Y2 n L.vars s) 1 (-1) (hlb:=(by rw [hxv];omega)) (hlk:=kx.len)) ?_))
    rintro _ _ ⟨wa7,wb7,wc7,wd7,we7,wf7,rfl⟩
    exact ie (ar (Zo (r1 [0,0,0,0,0,0,0] (.inl ⟨wa7,wb7,wc7,wd7,we7,wf7,(L'2.grow (Y2 n L.vars s) 1 (-1)),rfl,rfl,(by rw [UL,hP];first|rfl|exact Tz (by assumption)|exact TA (by assumption) (by assumption)|exact TB (by assumption))⟩))))
   refine Zv 2 [7] (Zx [] (JE s.op) (ie (ac (W7 s.op) Iff.rfl (fun A4=>?_) (fun A4=>?_))))
   ·refine az (Z2 1 (ic [0,0,0,0,0,0,0] (J5 b wa6 wb6 wc6 wd6 we6 wf6 L'2 ln 0 0 (-1) (hlb:=(by rw [hxv];omega)) (hlk:=kx.len)) ?_))
    rintro _ _ ⟨wa8,wb8,wc8,wd8,we8,wf8,rfl⟩
    exact ie (ar (Zo (r1 [0,0,0,0,0,0,0] (.inl ⟨wa8,wb8,wc8,wd8,we8,wf8,(L'2.grow 0 0 (-1)),rfl,rfl,(by rw [UL,hP];first|rfl|exact Tz (by assumption)|exact TA (by assumption) (by assumption)|exact TB (by assumption))⟩))))
   exact ak (ar (Zo (r1 [0,0,0,0,0,0,0] (.inl ⟨wa6,wb6,wc6,wd6,we6,wf6,L'2,rfl,rfl,(by rw [UL,hP];first|rfl|exact Tz (by assumption)|exact TA (by assumption) (by assumption)|exact TB (by assumption))⟩))))
  have hP:=(Me (n:=n) (ln:=ln) (L:=L) VU hgx).trans (WY)
  exact Z0 (Ym (W6 (ar (Zo (r1 [] (.inr ⟨rfl,rfl,(by rw [UL,hP];first|rfl|exact Tz (by assumption)|exact TA (by assumption) (by assumption)|exact TB (by assumption))⟩))))))
 refine Ym (Wj (fun fz gz F h=>F=sF [0,4,5,7] fz [(65,.b ((s.op==7)||(s.op==8)))]/\h=gz) ?_ ?_)
 ·refine ac (s.op==7) Zq (fun Qo=>?_) (fun Qo=>?_)
  ·exact ak (ZV ⟨rfl,rfl⟩ (ZG 9 (fc (x:=.b (s.op==7)) (lb (by first|rfl|(rw [Ze Qo])|(rw [Z7 Qo])|(simp [Qo];done)|(rw [XH];simp [Qo];done)|omega)) fl)))
  exact UY (ZV ⟨rfl,rfl⟩ (ZG 9 (fc (x:=.b (s.op==8)) (lb (by first|rfl|(rw [Ze Qo])|(rw [Z7 Qo])|(simp [Qo];done)|(rw [XH];simp [Qo];done)|omega)) fl)))
 rintro F h ⟨rfl,rfl⟩
 refine ac ((s.op==7)||(s.op==8)) (p:=(s.op=7)∨(s.op=8)) (Yh Zq Zq) (fun Jy=>?_) (fun Jy=>?_)
 ·refine az (ZL 3 [2,1] (ic [3,0,2,2,2,2,2] (Zdy b ga gb gc gd ge gf n s L ln q (ih:=ob)) ?_))
  rintro _ _ (⟨wa9,wb9,wc9,wd9,we9,wf9,L'3,rfl,rfl,T0⟩|⟨rfl,rfl,T1⟩)
  ·have hP:=(Hb (n:=n) (ln:=ln) (L:=L) Jy).trans (T0)
   obtain ⟨kx,hxv⟩:=BP hn hk hq.1 hf hP
   refine Z0 (Ym (WE (ak (Yk 2 [7] (Zx [] (JE s.op) (Xv [0,5,7] [(80,.b (W7 s.op&&((Y2 n L.vars s) != 0)))] (fun gz=>gz) ?_ ?_))))))
   ·refine Z2 1 (ib (b:=W7 s.op) 77 (fun Xg=>?_) (fun Xg=>?_))
    ·exact Z0 (ZG 9 (Zt ((Y2 n L.vars s) != 0) Xg fl))
    exact Z0 (ZG 9 (Zt false Xg fl))
   refine ac (W7 s.op&&((Y2 n L.vars s) != 0)) (p:=(W7 s.op=true)/\((Y2 n L.vars s)≠0)) (YK Iff.rfl Y3) (fun Cr=>?_) (fun Cr=>?_)
   ·refine az (Z2 2 (ic [0,0,0,0,0,0,0] (J5 b wa9 wb9 wc9 wd9 we9 wf9 L'3 ln (Y2 n L.vars s) 1 (-1) (hlb:=(by rw [hxv];omega)) (hlk:=kx.len)) ?_))
    rintro _ _ ⟨wa10,wb10,wc10,wd10,we10,wf10,rfl⟩
    exact ie (ar (Zo (r1 [0,0,0,0,0,0,0] (.inl ⟨wa10,wb10,wc10,wd10,we10,wf10,(L'3.grow (Y2 n L.vars s) 1 (-1)),rfl,rfl,(by rw [UL,hP];first|rfl|exact Tz (by assumption)|exact TA (by assumption) (by assumption)|exact TB (by assumption))⟩))))
   refine Zv 2 [7] (Zx [] (JE s.op) (ie (ac (W7 s.op) Iff.rfl (fun Ll=>?_) (fun Ll=>?_))))
   ·refine az (Z2 1 (ic [0,0,0,0,0,0,0] (J5 b wa9 wb9 wc9 wd9 we9 wf9 L'3 ln 0 0 (-1) (hlb:=(by rw [hxv];omega)) (hlk:=kx.len)) ?_))
    rintro _ _ ⟨wa11,wb11,wc11,wd11,we11,wf11,rfl⟩
    exact ie (ar (Zo (r1 [0,0,0,0,0,0,0] (.inl ⟨wa11,wb11,wc11,wd11,we11,wf11,(L'3.grow 0 0 (-1)),rfl,rfl,(by rw [UL,hP];first|rfl|exact Tz (by assumption)|exact TA (by assumption) (by assumption)|exact TB (by assumption))⟩))))
   exact ak (ar (Zo (r1 [0,0,0,0,0,0,0] (.inl ⟨wa9,wb9,wc9,wd9,we9,wf9,L'3,rfl,rfl,(by rw [UL,hP];first|rfl|exact Tz (by assumption)|exact TA (by assumption) (by assumption)|exact TB (by assumption))⟩))))
  have hP:=(Hb (n:=n) (ln:=ln) (L:=L) Jy).trans (T1)
  exact Z0 (Ym (W6 (ar (Zo (r1 [] (.inr ⟨rfl,rfl,(by rw [UL,hP];first|rfl|exact Tz (by assumption)|exact TA (by assumption) (by assumption)|exact TB (by assumption))⟩))))))
 refine az (ZL 3 [2,1] (ic [3,0,2,2,2,2,2] (Ze0 b ga gb gc gd ge gf n s L ln q (hnum:=hf.num) (hargs:=hf.args) (hinto:=(fun q=>(hf.into om).2))) ?_))
 rintro _ _ (⟨wa12,wb12,wc12,wd12,we12,wf12,L'4,rfl,rfl,J2⟩|⟨rfl,rfl,Kw⟩)
 ·have hP:=(SA (n:=n) (ln:=ln) (L:=L) Za Xh VU Jy).trans (J2)
  obtain ⟨kx,hxv⟩:=BP hn hk hq.1 hf hP
  refine Z0 (Ym (WE (ak (Yk 2 [7] (Zx [] (JE s.op) (Xv [0,5,7] [(80,.b (W7 s.op&&((Y2 n L.vars s) != 0)))] (fun gz=>gz) ?_ ?_))))))
  ·refine Z2 1 (ib (b:=W7 s.op) 77 (fun Wx=>?_) (fun Wx=>?_))
   ·exact Z0 (ZG 9 (Zt ((Y2 n L.vars s) != 0) Wx fl))
   exact Z0 (ZG 9 (Zt false Wx fl))
  refine ac (W7 s.op&&((Y2 n L.vars s) != 0)) (p:=(W7 s.op=true)/\((Y2 n L.vars s)≠0)) (YK Iff.rfl Y3) (fun Lm=>?_) (fun Lm=>?_)
  ·refine az (Z2 2 (ic [0,0,0,0,0,0,0] (J5 b wa12 wb12 wc12 wd12 we12 wf12 L'4 ln (Y2 n L.vars s) 1 (-1) (hlb:=(by rw [hxv];omega)) (hlk:=kx.len)) ?_))
   rintro _ _ ⟨wa13,wb13,wc13,wd13,we13,wf13,rfl⟩
   exact ie (ar (Zo (r1 [0,0,0,0,0,0,0] (.inl ⟨wa13,wb13,wc13,wd13,we13,wf13,(L'4.grow (Y2 n L.vars s) 1 (-1)),rfl,rfl,(by rw [UL,hP];first|rfl|exact Tz (by assumption)|exact TA (by assumption) (by assumption)|exact TB (by assumption))⟩))))
  refine Zv 2 [7] (Zx [] (JE s.op) (ie (ac (W7 s.op) Iff.rfl (fun A5=>?_) (fun A5=>?_))))
  ·refine az (Z2 1 (ic [0,0,0,0,0,0,0] (J5 b wa12 wb12 wc12 wd12 we12 wf12 L'4 ln 0 0 (-1) (hlb:=(by rw [hxv];omega)) (hlk:=kx.len)) ?_))
   rintro _ _ ⟨wa14,wb14,wc14,wd14,we14,wf14,rfl⟩
   exact ie (ar (Zo (r1 [0,0,0,0,0,0,0] (.inl ⟨wa14,wb14,wc14,wd14,we14,wf14,(L'4.grow 0 0 (-1)),rfl,rfl,(by rw [UL,hP];first|rfl|exact Tz (by assumption)|exact TA (by assumption) (by assumption)|exact TB (by assumption))⟩))))
  exact ak (ar (Zo (r1 [0,0,0,0,0,0,0] (.inl ⟨wa12,wb12,wc12,wd12,we12,wf12,L'4,rfl,rfl,(by rw [UL,hP];first|rfl|exact Tz (by assumption)|exact TA (by assumption) (by assumption)|exact TB (by assumption))⟩))))
 have hP:=(SA (n:=n) (ln:=ln) (L:=L) Za Xh VU Jy).trans (Kw)
 exact Z0 (Ym (W6 (ar (Zo (r1 [] (.inr ⟨rfl,rfl,(by rw [UL,hP];first|rfl|exact Tz (by assumption)|exact TA (by assumption) (by assumption)|exact TB (by assumption))⟩))))))
theorem Zdx (c:Nat) (ga:Hd) (gb:Hd) (gc:Hd) (gd:Hd) (ge:Hd) (gf:Hd) (n:Zm) (b:Z6) (L:Zu) (ln:LI) (q:Int) (mm:Nat) (hn:X4 n) (hk:Xd n.decls L q) (ht:0<=YT n L.vars b) (hm:mm<=L.vars.length) (hb:L.vars.length+4*b.sz<=1000000000) (hq:0<=q/\q+4*b.sz<=999999990) (hln:ln.length<=4294967296) (ih:∀(s2:Z5) (c:Nat) (ra:Hd) (rb:Hd) (rc:Hd) (rd:Hd) (re:Hd) (rf:Hd) (M:Zu) (p:Int),(s2.sz<b.sz)->(Xd n.decls M p)->(0<=Y2 n M.vars s2)->(M.vars.length+4*s2.sz<=1000000000)->(0<=p/\p+4*s2.sz<=999999990)->Zj 151 [.p c 0,Yr n,YF s2] [.obj c [.h ra,.h rb,.h rc,.h rd,.h re,.h rf,Z4 ln],rV ra M.vars,rV rb M.own,rV rc M.par,rV rd M.con,rV re M.fst,rV rf M.tok] (fun r h=>(∃(wa:Hd) (wb:Hd) (wc:Hd) (wd:Hd) (we:Hd) (wf:Hd) (M':Zu),r=.b true/\h=[.obj c [.h wa,.h wb,.h wc,.h wd,.h we,.h wf,Z4 ln],rV wa M'.vars,rV wb M'.own,rV wc M'.par,rV wd M'.con,rV we M'.fst,rV wf M'.tok]/\UA n ln M s2=some M')∨(r=.b false/\h=[]/\UA n ln M s2=none))):Zj 170 [.p c 0,Yr n,Y7 b,.i mm] [.obj c [.h ga,.h gb,.h gc,.h gd,.h ge,.h gf,Z4 ln],rV ga L.vars,rV gb L.own,rV gc L.par,rV gd L.con,rV ge L.fst,rV gf L.tok] (fun r h=>(∃(wa:Hd) (wb:Hd) (wc:Hd) (wd:Hd) (we:Hd) (wf:Hd) (L':Zu),r=.b true/\h=[.obj c [.h wa,.h wb,.h wc,.h wd,.h we,.h wf,Z4 ln],rV wa L'.vars,rV wb L'.own,rV wc L'.par,rV wd L'.con,rV we L'.fst,rV wf L'.tok]/\Vp n ln L mm b=some L')∨(r=.b false/\h=[]/\Vp n ln L mm b=none)):=by
 have hbz:=b.sz_eq
 obtain ⟨vs,rt,hvs,hres,hrt⟩:=CT ht
 have hri:=KS hres
 have Xu:=T3 b
 refine ZE 45 Tryz.func170 (ar (iA (YZ n) fun b1=>iA (Xs b) fun b2=>?_))
 refine Z0 (Ym (ab 0 (Y4 (fun fz gz m F h=>∃(k:Nat) (q2:Int) (L2:Zu) (ka:Hd) (kb:Hd) (kc:Hd) (kd:Hd) (ke:Hd) (kf:Hd),(k<=b.steps.length)/\(Xd n.decls L2 q2)/\(0<=q2/\q2+4*Yf (b.steps.drop k)<=999999990)/\(L2.vars.length+4*Yf (b.steps.drop k)<=1000000000)/\(Xp n (b.steps.drop k) L2.vars=some vs)/\(Vz n ln L2 (b.steps.drop k)=Vz n ln L b.steps)/\(L.vars.length<=L2.vars.length)/\F=sF [0,3,5,6] fz [(9,.i k)]/\h=[Zd gz 0,Zd gz 1,.obj c [.h ka,.h kb,.h kc,.h kd,.h ke,.h kf,Z4 ln],rV ka L2.vars,rV kb L2.own,rV kc L2.par,rV kd L2.con,rV ke L2.fst,rV kf L2.tok]/\m=b.steps.length-k) _ _ _ ⟨0,q,L,ga,gb,gc,gd,ge,gf,ob,hk,(by rw [KM];omega),(by rw [KM];omega),hvs,rfl,om,rfl,rfl,rfl⟩ (ZG 9 (Yb fl)) ?_)))
 rintro m F h ⟨k,q2,L2,ka,kb,kc,kd,ke,kf,Ye,Zk,Zw,Yy,XU,Tt,If,rfl,rfl,rfl⟩
 refine Yk 3 [0] (iw (VR b.steps) (Y9 ((k:Int)<(b.steps.length:Int)) (fun Za=>?_) (fun Za=>?_)))
 ·obtain ⟨s1,hs1⟩:=Zs b.steps k om
  have hss:=Ab hs1
  have hdr:=Y5 hs1
  have hz:Yf (b.steps.drop k)=s1.sz+Yf (b.steps.drop (k+1)):=by rw [hdr,Yf]
  rw [hdr] at XU Tt
  obtain ⟨g1,g2⟩:=DN XU
  refine ak (aq (ab 1 (aD 9 (ZI 4 9 [0,1,2,3,4] [1,0] (dx 5 (Zl none (k:Int) 5 (VK hs1)) (Zh 2 3 [6] (Z9 7 (dc 7 [2,2,2,2,2,2,2] [] [] (ih s1 c ka kb kc kd ke kf L2 q2 ob Zk g1 om om) ?_))))))))
  rintro _ _ (⟨wa1,wb1,wc1,wd1,we1,wf1,M'1,rfl,rfl,ZY⟩|⟨rfl,rfl,Yi⟩)
  ·have hP:=ZY
   have kx:=Hv hn Zk Zw.1 g1 hP
   exact Zh 0 1 [8] (de (WE (ak (az (Z2 1 (ZJ k (Z0 (ZK ⟨k+1,(q2+4*s1.sz),M'1,wa1,wb1,wc1,wd1,we1,wf1,ob,kx.1,om,(by rw [kx.2];have:=F9 n L2.vars s1;omega),(by rw [kx.2];exact g2),(by rw [<-Tt,Vz,hP];rfl),(by rw [kx.2];have:=F9 n L2.vars s1;omega),rfl,rfl,rfl⟩ (wk [7,7,0,0,0,0,0,0,0] (ZM k fl))))))))))
  have hP:=Yi
  exact Zh 0 1 [8] (de (W6 (ar (Zo (r1 [] (.inr ⟨rfl,rfl,(by rw [JT,<-Tt,Vz,hP];rfl)⟩))))))
 rw [Xj om] at XU Tt
 have hvv:L2.vars=vs:=by rw [Xp] at XU;exact UP XU
 have hB:Vp n ln L mm b=Ug mm b.result L2:=by rw [JT,<-Tt,Vz];rfl
 obtain ⟨xr,hxr⟩:=Zs L2.vars b.result.toNat (by rw [hvv];omega)
 have hgr:=WS hxr
 have hrl:0<=b.result/\b.result<L2.vars.length:=by rw [hvv];omega
 rw [Xp] at XU
 refine ax 0 (aq (aD 16 (ZI 10 16 [0,1,2,3,4,5] [2,0] (dx 6 (Wg 3 ka L2.vars b.result b.result.toNat (hq:=rfl)) (Ue 7 (VY 3 ka L2.vars b.result.toNat xr hxr) (Zh 6 8 [8,9] (db (b:=(xr != 0)) 35 (fun Zb=>?_) (fun Zb=>?_))))))))
 ·have YJ:xr≠0:=(Y3).1 Zb
  refine ZI 3 6 [10,11,12] [0] (Z9 13 (dc 13 [2,2,2,2,2,2,2] [] [] (GX c ka kb kc kd ke kf L2 ln b.result (hlk:=Zk.len) (hq:=(fun y hy=>⟨Zk.nn y hy,by have:=Zk.bd y hy;omega⟩))) ?_))
  rintro _ _ (⟨wa2,wb2,wc2,wd2,we2,wf2,L'1,rfl,rfl,YR⟩|⟨rfl,rfl,Xk⟩)
  ·have hE:=hB.trans (Z8b hgr (by assumption) YR)
   have kx:=Zk.take YR
   have hxv:L'1.vars.length=L2.vars.length:=by rw [(KI YR).2.1]
   refine Zh 0 2 [14,15] (de (WE (ak (Y1 2 (ic [0,0,0,0,0,0,0] (LN c wa2 wb2 wc2 wd2 we2 wf2 L'1 ln mm (hlk:=(by first|exact kx.len|exact Zk.len)) (hlb:=om) (hm:=om)) ?_)))))
   rintro _ _ (⟨wa3,wb3,wc3,wd3,we3,wf3,L'2,rfl,rfl,XX⟩|⟨rfl,rfl,WA⟩)
   ·exact Zo (r1 [0,0,0,0,0,0,0] (.inl ⟨wa3,wb3,wc3,wd3,we3,wf3,L'2,rfl,rfl,(by first|exact hE|(rw [hE];exact XX)|(rw [hB,Em hgr (by assumption)];exact XX))⟩))
   exact Zo (r1 [] (.inr ⟨rfl,rfl,(by first|exact hE|(rw [hE];exact WA)|(rw [hB,Em hgr (by assumption)];exact WA))⟩))
  have hE:=hB.trans (Z8a hgr (by assumption) Xk)
  exact Zh 0 2 [14,15] (de (W6 (ar (Zo (r1 [] (.inr ⟨rfl,rfl,(by first|exact hE|(rw [hE];exact Xk)|(rw [hB,Em hgr (by assumption)];exact Xk))⟩))))))
 have WY:¬(xr≠0):=Y6 Y3 Zb
 refine Zh 0 6 [10,11,12,13,14,15] (de (WE (ak (Y1 2 (ic [2,2,2,2,2,2,2] (LN c ka kb kc kd ke kf L2 ln mm (hlk:=(by first|exact kx.len|exact Zk.len)) (hlb:=om) (hm:=om)) ?_)))))
 rintro _ _ (⟨wa4,wb4,wc4,wd4,we4,wf4,L'3,rfl,rfl,Vr⟩|⟨rfl,rfl,UH⟩)
 ·exact Zo (r1 [0,0,0,0,0,0,0] (.inl ⟨wa4,wb4,wc4,wd4,we4,wf4,L'3,rfl,rfl,(by first|exact hE|(rw [hE];exact Vr)|(rw [hB,Em hgr (by assumption)];exact Vr))⟩))
 exact Zo (r1 [] (.inr ⟨rfl,rfl,(by first|exact hE|(rw [hE];exact UH)|(rw [hB,Em hgr (by assumption)];exact UH))⟩))
theorem RM (n:Zm) (ln:LI) (hn:X4 n) (hln:ln.length<=4294967296) (m:Nat):∀(b2:Z6) (c:Nat) (ra:Hd) (rb:Hd) (rc:Hd) (rd:Hd) (re:Hd) (rf:Hd) (M:Zu) (mm:Nat) (p:Int),(b2.sz<m+1)->(Xd n.decls M p)->(0<=YT n M.vars b2)->(mm<=M.vars.length)->(M.vars.length+4*b2.sz<=1000000000)->(0<=p/\p+4*b2.sz<=999999990)->Zj 170 [.p c 0,Yr n,Y7 b2,.i mm] [.obj c [.h ra,.h rb,.h rc,.h rd,.h re,.h rf,Z4 ln],rV ra M.vars,rV rb M.own,rV rc M.par,rV rd M.con,rV re M.fst,rV rf M.tok] (fun r h=>(∃(wa:Hd) (wb:Hd) (wc:Hd) (wd:Hd) (we:Hd) (wf:Hd) (M':Zu),r=.b true/\h=[.obj c [.h wa,.h wb,.h wc,.h wd,.h we,.h wf,Z4 ln],rV wa M'.vars,rV wb M'.own,rV wc M'.par,rV wd M'.con,rV we M'.fst,rV wf M'.tok]/\Vp n ln M mm b2=some M')∨(r=.b false/\h=[]/\Vp n ln M mm b2=none)):=by
 induction m with
 | zero=>intro b c ga gb gc gd ge gf L mm q h;have:=b.sz_pos;omega
 | succ m ih=>
  intro b c ga gb gc gd ge gf L mm q h1 hk ht hm hb hp
  exact Zdx c ga gb gc gd ge gf n b L ln q mm hn hk ht hm hb hp hln fun s c ga gb gc gd ge gf L q h2 hk ht hb hp=>RP c ga gb gc gd ge gf n s L ln q hn hk ht hb hp hln
   fun b2 c ga gb gc gd ge gf L mm q h3 hk ht hm hb hp=>ih b2 c ga gb gc gd ge gf L mm q om hk ht hm hb hp
theorem Ze3 (n:Zm) (ln:LI) (hn:X4 n) (hln:ln.length<=4294967296) (m:Nat):∀(s2:Z5) (c:Nat) (ra:Hd) (rb:Hd) (rc:Hd) (rd:Hd) (re:Hd) (rf:Hd) (M:Zu) (p:Int),(s2.sz<m+1)->(Xd n.decls M p)->(0<=Y2 n M.vars s2)->(M.vars.length+4*s2.sz<=1000000000)->(0<=p/\p+4*s2.sz<=999999990)->Zj 151 [.p c 0,Yr n,YF s2] [.obj c [.h ra,.h rb,.h rc,.h rd,.h re,.h rf,Z4 ln],rV ra M.vars,rV rb M.own,rV rc M.par,rV rd M.con,rV re M.fst,rV rf M.tok] (fun r h=>(∃(wa:Hd) (wb:Hd) (wc:Hd) (wd:Hd) (we:Hd) (wf:Hd) (M':Zu),r=.b true/\h=[.obj c [.h wa,.h wb,.h wc,.h wd,.h we,.h wf,Z4 ln],rV wa M'.vars,rV wb M'.own,rV wc M'.par,rV wd M'.con,rV we M'.fst,rV wf M'.tok]/\UA n ln M s2=some M')∨(r=.b false/\h=[]/\UA n ln M s2=none)):=by
 intro s c ga gb gc gd ge gf L q h2 hk ht hb hp
 exact RP c ga gb gc gd ge gf n s L ln q hn hk ht hb hp hln fun b2 c ga gb gc gd ge gf L mm q h3 hk ht hm hb hp=>RM n ln hn hln m b2 c ga gb gc gd ge gf L mm q om hk ht hm hb hp
theorem Zdw (c:Nat) (ra:Hd) (rb:Hd) (rc:Hd) (rd:Hd) (re:Hd) (rf:Hd) (n:Zm) (b2:Z6) (M:Zu) (ln:LI) (mm:Nat) (p:Int) (hn:X4 n) (hln:ln.length<=4294967296) (hk:Xd n.decls M p) (ht:0<=YT n M.vars b2) (hm:mm<=M.vars.length) (hb:M.vars.length+4*b2.sz<=1000000000) (hp:0<=p/\p+4*b2.sz<=999999990):Zj 170 [.p c 0,Yr n,Y7 b2,.i mm] [.obj c [.h ra,.h rb,.h rc,.h rd,.h re,.h rf,Z4 ln],rV ra M.vars,rV rb M.own,rV rc M.par,rV rd M.con,rV re M.fst,rV rf M.tok] (fun r h=>(∃(wa:Hd) (wb:Hd) (wc:Hd) (wd:Hd) (we:Hd) (wf:Hd) (M':Zu),r=.b true/\h=[.obj c [.h wa,.h wb,.h wc,.h wd,.h we,.h wf,Z4 ln],rV wa M'.vars,rV wb M'.own,rV wc M'.par,rV wd M'.con,rV we M'.fst,rV wf M'.tok]/\Vp n ln M mm b2=some M')∨(r=.b false/\h=[]/\Vp n ln M mm b2=none)):=RM n ln hn hln b2.sz b2 c ra rb rc rd re rf M mm p om hk ht hm hb hp
theorem Ze2 (c:Nat) (ra:Hd) (rb:Hd) (rc:Hd) (rd:Hd) (re:Hd) (rf:Hd) (n:Zm) (s2:Z5) (M:Zu) (ln:LI) (p:Int) (hn:X4 n) (hln:ln.length<=4294967296) (hk:Xd n.decls M p) (ht:0<=Y2 n M.vars s2) (hb:M.vars.length+4*s2.sz<=1000000000) (hp:0<=p/\p+4*s2.sz<=999999990):Zj 151 [.p c 0,Yr n,YF s2] [.obj c [.h ra,.h rb,.h rc,.h rd,.h re,.h rf,Z4 ln],rV ra M.vars,rV rb M.own,rV rc M.par,rV rd M.con,rV re M.fst,rV rf M.tok] (fun r h=>(∃(wa:Hd) (wb:Hd) (wc:Hd) (wd:Hd) (we:Hd) (wf:Hd) (M':Zu),r=.b true/\h=[.obj c [.h wa,.h wb,.h wc,.h wd,.h we,.h wf,Z4 ln],rV wa M'.vars,rV wb M'.own,rV wc M'.par,rV wd M'.con,rV we M'.fst,rV wf M'.tok]/\UA n ln M s2=some M')∨(r=.b false/\h=[]/\UA n ln M s2=none)):=Ze3 n ln hn hln s2.sz s2 c ra rb rc rd re rf M p om hk ht hb hp
theorem Z1q (rt:Yc) (hp:rt.params.length<=1000000:=by exact ob) (hl:rt.lent.length<=4294967296:=by exact ob):Zj 150 [K5 rt] [] (fun r h=>∃(c:Nat) (wa:Hd) (wb:Hd) (wc:Hd) (wd:Hd) (we:Hd) (wf:Hd),r=.p c 0/\h=[.obj c [.h wa,.h wb,.h wc,.h wd,.h we,.h wf,Z4 rt.lent],rV wa ((UI rt).vars),rV wb ((UI rt).own),rV wc ((UI rt).par),rV wd ((UI rt).con),rV we ((UI rt).fst),rV wf ((UI rt).tok)]):=by
 refine ZE 45 Tryz.func150 (ar (iA (TG rt) fun b1=>Z0 (Zv 2 [0] (ic [] (T2 rt.lent) ?_))))
 rintro _ _ ⟨v1,rfl,rfl⟩
 refine ZT 1 [(8,.agg [nl,nl,nl,nl,nl,nl,Z4 rt.lent])] (iA [nl,nl,nl,nl,nl,nl,Z4 rt.lent] fun b2=>?_)
 refine W8 (Z2i 0 b2 [nl,nl,nl,nl,nl,nl,Z4 rt.lent] [.h hN,.h hN,.h hN,.h hN,.h hN,.h hN,Z4 rt.lent] (.cons (Zc.hd (v:=hN)) (.cons (Zc.hd (v:=hN)) (.cons (Zc.hd (v:=hN)) (.cons (Zc.hd (v:=hN)) (.cons (Zc.hd (v:=hN)) (.cons (Zc.hd (v:=hN)) (.cons (lr _) .nil)))))))) (W8 (JJ) (W8 (JJ) (W8 (JJ) (W8 (JJ) (W8 (JJ) (W8 (JJ) (Z0 (Ym (ab 0 (Y4 (fun fz gz m F h=>∃(k:Nat) (L2:Zu) (ka:Hd) (kb:Hd) (kc:Hd) (kd:Hd) (ke:Hd) (kf:Hd),(k<=rt.params.length)/\(WH L2)/\(L2.vars.length=k)/\(KD rt.lent (rt.params.drop k) k L2=UI rt)/\F=sF [1,3] fz [(4,.i k)]/\h=[.obj b2 [.h ka,.h kb,.h kc,.h kd,.h ke,.h kf,Z4 rt.lent],Zd gz 8,rV ka L2.vars,rV kb L2.own,rV kc L2.par,rV kd L2.con,rV ke L2.fst,rV kf L2.tok]/\m=rt.params.length-k) _ _ _ ⟨0,(Zu.mk [] [] [] [] [] []),hN,hN,hN,hN,hN,hN,ob,⟨rfl,rfl,rfl,rfl,rfl⟩,rfl,rfl,rfl,rfl,rfl⟩ (wk [6,7,0,0,0,0,0,0] (Yb fl) (e:=(rc (rc (rv (xs:=[]) ob (rv (xs:=[]) ob (rv (xs:=[]) ob (rv (xs:=[]) ob (rv (xs:=[]) ob (rv (xs:=[]) ob rz)))))))))) ?_))))))))))
 rintro m F h ⟨k,L2,ka,kb,kc,kd,ke,kf,Ye,Zk,Zw,Yy,rfl,rfl,rfl⟩
 refine Yk 3 [1] (iw (Ya rt.params) (Y9 ((k:Int)<(rt.params.length:Int)) (fun Za=>?_) (fun Za=>?_)))
 ·refine ak (aq (ab 1 (Zv 3 [1] ?_)))
  obtain ⟨x1,Z3⟩:=Zs rt.params k om
  refine Zp (Zl none (k:Int) 1 (ZZ Z3)) (Xv [1,3,4] [(29,.b ((x1 != 0)&&(!(decide ((k:Int)∈rt.lent)))))] (fun gz=>gz) ?_ ?_)
  ·refine Z2 3 (ib (b:=(x1 != 0)) 23 (fun Zb=>?_) (fun Zb=>?_))
   ·exact ZL 3 [1] (Zx [] (Ti rt.lent (k:Int)) (Z0 (ZG 8 (Zt (!(decide ((k:Int)∈rt.lent))) Zb fl))))
   exact Z0 (ZG 8 (Zt false Zb fl))
  refine ac ((x1 != 0)&&(!(decide ((k:Int)∈rt.lent)))) (p:=(x1≠0)/\(¬((k:Int)∈rt.lent))) (YK Y3 (Yl dq)) (fun Zg=>?_) (fun Zg=>?_)
  ·refine az (ZL 4 [1] (Zp (Zl none (k:Int) 1 (ZZ Z3)) (Z2 1 (ic [0,1,1,1,1,1,1] (J5 b2 ka kb kc kd ke kf L2 rt.lent x1 1 (-1) (hlk:=Zk)) ?_))))
   rintro _ _ ⟨wa1,wb1,wc1,wd1,we1,wf1,rfl⟩
   exact ie (az (Z2 1 (ZJ k (Z0 (ZK ⟨k+1,(L2.grow x1 1 (-1)),wa1,wb1,wc1,wd1,we1,wf1,ob,(WH.grow Zk),(by simp [Zu.grow];omega),(by rw [Y5 Z3,KD] at Yy;first|(rw [Ze Zg] at Yy;exact Yy)|(rw [Z7 Zg] at Yy;exact Yy)),rfl,rfl,rfl⟩ (wk [0,6,0,0,0,0,0,0] (ZM k fl)))))))
  refine az (ZL 4 [1] (Zp (Zl none (k:Int) 1 (ZZ Z3)) (Z2 1 (ic [0,1,1,1,1,1,1] (J5 b2 ka kb kc kd ke kf L2 rt.lent x1 0 (-1) (hlk:=Zk)) ?_))))
  rintro _ _ ⟨wa2,wb2,wc2,wd2,we2,wf2,rfl⟩
  exact ie (az (Z2 1 (ZJ k (Z0 (ZK ⟨k+1,(L2.grow x1 0 (-1)),wa2,wb2,wc2,wd2,we2,wf2,ob,(WH.grow Zk),(by simp [Zu.grow];omega),(by rw [Y5 Z3,KD] at Yy;first|(rw [Ze Zg] at Yy;exact Yy)|(rw [Z7 Zg] at Yy;exact Yy)),rfl,rfl,rfl⟩ (wk [0,6,0,0,0,0,0,0] (ZM k fl)))))))
 refine ax 0 (Zy ?_)
 have hNl:L2=UI rt:=by rw [<-Yy,Xj om];rfl
 exact ZB (r1 [0,1,1,1,1,1,1] ⟨b2,ka,kb,kc,kd,ke,kf,rfl,rfl⟩ (eq:=(rc (rv (xs:=L2.vars) (by rw [hNl]) (rv (xs:=L2.own) (by rw [hNl]) (rv (xs:=L2.par) (by rw [hNl]) (rv (xs:=L2.con) (by rw [hNl]) (rv (xs:=L2.fst) (by rw [hNl]) (rv (xs:=L2.tok) (by rw [hNl]) rz)))))))))
theorem Zil (n:Zm) (f:Nat) (rt:Yc) (hn:X4 n:=by exact ob) (hr:n.routines[f]? = some rt:=by exact ob) (ht:0<=YT n rt.params rt.body:=by exact ob) (hz:rt.body.sz<=100000000:=by exact ob):Zj 109 [Yr n,.i f] [] (Yn (.b (Kk n rt))):=by
 have hfl:=(Xq.1 hr).1
 have hpl:=hn.params_at hr
 have hll:=hn.lent_at hr
 obtain ⟨hk,hkv⟩:=LZ n.decls rt
 refine ZE 26 Tryz.func109 (ar (iA (YZ n) fun b1=>Z0 (Zv 3 [0] (Zp (Zl none (f:Int) 5 (WR hr)) (Z2 1 (iA [nl,nl,.i 0,nl,.i 0] fun b2=>ZH 0 b2 (TG rt) (ie (Zv 1 [0] (ic [] (Z1q rt) ?_)))))))))
 rintro _ _ ⟨c1,wa1,wb1,wc1,wd1,we1,wf1,rfl,rfl⟩
 refine Z0 (Zv 6 [8,7,7] (iw (Ya rt.params) (ic [0,0,0,0,0,0,0] (Zdw c1 wa1 wb1 wc1 wd1 we1 wf1 n rt.body (UI rt) rt.lent rt.params.length 1 ob ob hk (by rw [hkv];exact ht) (by rw [hkv];omega) (by rw [hkv];omega) ob) ?_)))
 rintro _ _ (⟨wa2,wb2,wc2,wd2,we2,wf2,M'1,rfl,rfl,ZY⟩|⟨rfl,rfl,Yi⟩)
 ·have hB:=ZY
  obtain ⟨l1,l2⟩:=Z52 hn hk om (by rw [hkv];exact ht) (by rw [hkv];omega) hB
  refine Z2 2 (ic [0,0,0,0,0,0,0] (LN c1 wa2 wb2 wc2 wd2 we2 wf2 M'1 rt.lent 0 (hlk:=l1)) ?_)
  rintro _ _ (⟨wa3,wb3,wc3,wd3,we3,wf3,L'1,rfl,rfl,YJ⟩|⟨rfl,rfl,YR⟩)
  ·exact Zo (ZU (.b true) (lb (by rw [Kk,hB];exact (Z6u YJ).symm)))
  exact Zo (ZU (.b false) (lb (by rw [Kk,hB];exact (Z6t YR).symm)))
 have hB:=Yi
 exact Zo (ZU (.b false) (lb (by rw [Kk,hB])))
theorem Zim (n:Zm) (hz:V4 n:=by exact ob):Zj 48 [Yr n] [] (Yn (.b (US n))):=by
 have hzl:=hz.len
 refine ZE 18 Tryz.func48 (ar (iA (YZ n) fun b1=>Z0 (Yk 1 [0] (Zx [] (Z1v n) (YD (!WC n) (p:=¬(WC n=true)) (Yl Iff.rfl) (fun Za=>?_) (fun Za=>?_))))))
 ·exact ar (Zo (ZU (.b false) (lb (by first|rfl|omega|grind [US]))))
 have hV:WC n=true:=Wa.1 Za
 obtain ⟨hok,hall⟩:=Fs hz hV
 refine ak (Ym (ab 0 (Y4 (fun fz gz m F h=>∃(k:Nat),(k<=n.routines.length)/\(Jn n (n.routines.drop k)=Jn n n.routines)/\F=sF [1] fz [(3,.i k)]/\h=gz/\m=n.routines.length-k) _ _ _ ⟨0,ob,ob,rfl,rfl,rfl⟩ (wk [0] (Yb fl)) ?_)))
 rintro m F h ⟨k,Ye,Zk,rfl,rfl,rfl⟩
 refine Yk 3 [0] (iw (U9 n.routines) (Y9 ((k:Int)<(n.routines.length:Int)) (fun Zg=>?_) (fun Zg=>?_)))
 ·obtain ⟨rt,hrt⟩:=Zs n.routines k om
  have hrm:=Y0 hrt
  refine ak (aq (ab 1 (Zv 2 [0] (Zx [] (Zil n k rt (hr:=hrt) (ht:=(hall rt hrm)) (hz:=(VB (hz.body rt hrm) om))) (YD (!Kk n rt) (p:=¬(Kk n rt=true)) (Yl Iff.rfl) (fun ZD=>?_) (fun ZD=>?_))))))
  ·refine Zy ?_
   rw [Y5 hrt] at Zk
   exact ZB (ZU (.b false) (lb (by first|rfl|omega|grind [Jn,US])))
  refine ak (az (Z2 1 (ZJ k (Z0 ?_))))
  have hdr:=Y5 hrt
  exact ZK ⟨k+1,ob,(by rw [hdr] at Zk;clear hdr ;grind [Jn]),rfl,rfl,rfl⟩ (wk [0] (ZM k fl))
 refine ax 0 (Zy ?_)
 try rw [Xj (xs:=n.routines) (k:=k) om] at Zk
 exact ZB (ZU (.b true) (lb (by first|rfl|omega|grind [Jn,US])))
end Go.Abs
