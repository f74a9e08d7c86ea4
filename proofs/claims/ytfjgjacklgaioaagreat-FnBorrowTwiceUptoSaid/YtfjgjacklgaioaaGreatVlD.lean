/-
  A part of the proofs of several laws (see the last file): no condition.
-/
import Derived.Test.YtfjgjacklgaioaaGreatVlC
set_option linter.all false
set_option linter.unusedVariables false
set_option linter.unusedSimpArgs false
set_option linter.unusedSectionVars false
set_option maxRecDepth 10000
set_option maxHeartbeats 4000000
namespace Go.Abs
open Go.Proofs
theorem Pp (rd:Nat) (bs:LI) (p:Nat) (g:Wh) (gb:Nat) (rs:List Func) (vs:LI) (t:Int) (b:Nat) (ZM:∀z∈bs,0<=z/\z<=255) (hp:p+40000<=1000000000:=by exact ob) (hg:GP g:=by exact ob) (Wv:g.funcs <+: rs:=by exact ob) (hv:vs.length+3*b<=900:=by exact ob) (hb:b<=20:=by exact ob):Zj 241 [.p rd 0,.agg (Wz g gb),Z6 vs,.i t,.i b] [YC rd bs p,XY gb rs] (fun r h=>∃(e:Z2) (p2:Nat),r=Y8 e/\h=[YC rd bs p2,XY gb rs]/\GE g vs.length 30 e/\p<=p2/\p2<=p+40000):=by
 have Dv:=FI hb
 refine ZC 34 Tryz.func241 (ar (iA (Wz g gb) fun b1=>iA [.i 0,.i 0,nl] fun b2=>ie (Zu 5 [1] (ic [2,2] (Kf rd bs p g gb rs vs t b (ZM:=ob)) ?_))))
 rintro _ _ ⟨e1,p21,rfl,rfl,Y9⟩
 have Xp:=Y9.1
 refine iA [.i 0,.i 0,nl] fun b3=>?_
 refine Zx 0 b3 (X5 e1) (ie (aq (ab 0 (ZW (fun fz gz m F h=>∃(bq:Nat) (eQ:Z2) (pq:Nat),(GE g vs.length (bS bq) eQ)/\(bq<=b)/\(p<=pq/\pq+1900*bq<=p+1900*(b+1))/\F=sF [0,2,3,6,10,11] fz [(4,.i bq)]/\h=[.obj b3 (X5 eQ),YC rd bs pq,Zk gz 2,Zk gz 3,Zk gz 4]/\m=bq+1) _ _ _ ⟨b,e1,p21,Xp,ob,ob,rfl,rfl,rfl⟩ (ZE 5 fl) ?_))))
 rintro m F h ⟨bq,eQ,pq,Yg,Zh,Zw,rfl,rfl,rfl⟩
 refine Yf 1 [0] (ic [] (Pw eQ (hz:=(by have h1:=Yg.2;have h2:=(FI (b:=bq) om).1;omega))) ?_)
 rintro _ _ ⟨w1,rfl,rfl,Yp⟩
 have Lv:=Yp
 have hq20:=FI (b:=bq) om
 have hq21:=FI (b:=bq / 2) om
 have Xn:=Yg.2
 refine Xt [0,2,3,4,6,10,11] [(24,.b ((decide (w1<0))&&(decide ((bq:Int)>2))))] (fun gz=>gz) ?_ ?_
 ·refine Z0 2 (ib (b:=(decide (w1<0))) 21 (fun Zc=>?_) (fun Zc=>?_))
  ·exact Z1 (ZE 5 (Zs (decide ((bq:Int)>2)) Zc fl))
  exact Z1 (ZE 5 (Zs false Zc fl))
 refine ac ((decide (w1<0))&&(decide ((bq:Int)>2))) (p:=(w1<0)/\((bq:Int)>2)) (YA dq dq) (fun Zb=>?_) (fun Zb=>?_)
 ·refine ak (ab 1 (Yb 1 (Zl (CE bq 2 om om) (Z1 (az (ZO 5 [4] (ic [1,1] (Kf rd bs pq g gb rs vs t (bq / 2) (ZM:=ob)) ?_)))))))
  rintro _ _ ⟨e2,p22,rfl,rfl,Xq⟩
  have Xp:=Xq.1
  exact Zx 2 b3 (X5 e2) (ie (ZF ⟨(bq / 2),e2,p22,Xp,ob,ob,rfl,rfl,rfl⟩ (ZE 5 (fc (x:=.i (bq / 2:Nat)) li fl))))
 exact ax 0 (Zu 1 [0] (Zx 3 b2 (X5 eQ) (ie (ZL (r3 [2,2] [Y8 eQ] [0] [(b2,b2)] ⟨eQ,pq,rfl,rfl,⟨⟨Yg.1,by omega⟩,by omega⟩⟩ (lr _))))))
theorem Z9j (rd:Nat) (bs:LI) (p:Nat) (t:Int) (ZM:∀z∈bs,0<=z/\z<=255) (hp:p+14<=1000000000:=by exact ob):Zj 274 [.p rd 0,.i t] [YC rd bs p] (fun r h=>∃(e:Z2) (p2:Nat),r=Y8 e/\h=[YC rd bs p2]/\(∀g:Wh,SE g 9 e)/\p<=p2/\p2<=p+14):=by
 refine ZC 45 Tryz.func274 (ar (iA [.i 0,.i 0,nl] fun b1=>ie (ar (iL (YB []) 0 3 fun v1=>ZT 0 [(10,XI [])] (Zv [] (W0 6 0 []) (iA [.i 0,.i 0,nl] fun b2=>Zx 0 b2 (X5 (Z2.mk 6 0 [])) (ie (Xc (YJ (t==3) Zq (fun Zb=>?_) (fun Zb=>?_))))))))))
 ·refine ar (iL (YB []) 0 3 fun v2=>ZT 0 [(14,XI [])] (Zv [] (W0 6 2 []) (iA [.i 0,.i 0,nl] fun b3=>?_)))
  refine Zx 0 b3 (X5 (Z2.mk 6 2 [])) (ie (aD 9 (ZQ 6 9 [0,1,4] [0,0] (J5 (fun fz gz F h=>∃(k1:Int) (b4:Nat),(Pk 9 k1)/\F=sF [0,4,6] fz [(7,.p b4 0)]/\h=[.obj b4 (X5 (Z2.mk 6 3 [Z2.mk 6 2 [],Z2.mk 0 k1 [],Z2.mk 6 2 []])),.obj rd [Ue bs,.i (p+1:Nat)],Zk gz 0,Zk gz 1,Zk gz 2,Zk gz 3,Zk gz 4]) ?_ ?_))))
  ·refine VE 2 7 ?_ ?_
   ·refine dc 2 [5] [0,0] [b3,b3] (Wg rd bs p 9 (ZM:=ob)) ?_
    rintro _ _ ⟨k1,rfl,rfl,Y9⟩
    have qhp1:=Y9.lt om
    refine VE 3 7 ?_ ?_
    ·refine Yu 3 [] [1,1] [b3,b3] (AQ k1) (VE 5 7 ?_ ?_)
     ·refine WP 5 [] [] [Y8 (Z2.mk 6 2 []),Y8 (Z2.mk 0 k1 []),Y8 (Z2.mk 6 2 [])] (YB [Z2.mk 6 2 [],Z2.mk 0 k1 [],Z2.mk 6 2 []]) (XX [Z2.mk 6 2 [],Z2.mk 0 k1 [],Z2.mk 6 2 []]).symm 3 3 fun v3=>Yz 3 3 [] [(21,XI [Z2.mk 6 2 [],Z2.mk 0 k1 [],Z2.mk 6 2 []])] (VE 6 7 ?_ ?_)
      ·exact Yu 6 [] [] [] (W0 6 3 [Z2.mk 6 2 [],Z2.mk 0 k1 [],Z2.mk 6 2 []]) (Z8 7 (dA 7 [] [] [.i 0,.i 0,nl] fun b4=>Z8 8 (YP 8 0 [] [] b4 (X5 (Z2.mk 6 3 [Z2.mk 6 2 [],Z2.mk 0 k1 [],Z2.mk 6 2 []])) (de (ZV ⟨k1,b4,(by assumption),rfl,rfl⟩ (wk [0,1,1,1,1,1,1] fl))))))
      exact dA 7 [] [] [.i 0,.i 0,nl] fun b5=>Z8 6 (Yu 6 [] [] [] (W0 6 3 [Z2.mk 6 2 [],Z2.mk 0 k1 [],Z2.mk 6 2 []]) (Z8 8 (YP 8 0 [] [] b5 (X5 (Z2.mk 6 3 [Z2.mk 6 2 [],Z2.mk 0 k1 [],Z2.mk 6 2 []])) (de (ZV ⟨k1,b5,(by assumption),rfl,rfl⟩ (wk [0,1,1,1,1,1,1] fl))))))
     exact dA 7 [1,1] [b3,b3] [.i 0,.i 0,nl] fun b6=>Z8 5 (WP 5 [] [] [Y8 (Z2.mk 6 2 []),Y8 (Z2.mk 0 k1 []),Y8 (Z2.mk 6 2 [])] (YB [Z2.mk 6 2 [],Z2.mk 0 k1 [],Z2.mk 6 2 []]) (XX [Z2.mk 6 2 [],Z2.mk 0 k1 [],Z2.mk 6 2 []]).symm 3 3 fun v4=>Yz 2 2 [] [(21,XI [Z2.mk 6 2 [],Z2.mk 0 k1 [],Z2.mk 6 2 []])] (Z8 6 (Yu 6 [] [] [] (W0 6 3 [Z2.mk 6 2 [],Z2.mk 0 k1 [],Z2.mk 6 2 []]) (Z8 8 (YP 8 1 [] [] b6 (X5 (Z2.mk 6 3 [Z2.mk 6 2 [],Z2.mk 0 k1 [],Z2.mk 6 2 []])) (de (ZV ⟨k1,b6,(by assumption),rfl,rfl⟩ (wk [0,1,1,1,1,1,1] fl))))))))
    exact dA 7 [1,1] [b3,b3] [.i 0,.i 0,nl] fun b7=>Z8 3 (Yu 3 [] [2,2] [b3,b3] (AQ k1) (Z8 5 (WP 5 [] [] [Y8 (Z2.mk 6 2 []),Y8 (Z2.mk 0 k1 []),Y8 (Z2.mk 6 2 [])] (YB [Z2.mk 6 2 [],Z2.mk 0 k1 [],Z2.mk 6 2 []]) (XX [Z2.mk 6 2 [],Z2.mk 0 k1 [],Z2.mk 6 2 []]).symm 3 3 fun v5=>Yz 2 2 [] [(21,XI [Z2.mk 6 2 [],Z2.mk 0 k1 [],Z2.mk 6 2 []])] (Z8 6 (Yu 6 [] [] [] (W0 6 3 [Z2.mk 6 2 [],Z2.mk 0 k1 [],Z2.mk 6 2 []]) (Z8 8 (YP 8 1 [] [] b7 (X5 (Z2.mk 6 3 [Z2.mk 6 2 [],Z2.mk 0 k1 [],Z2.mk 6 2 []])) (de (ZV ⟨k1,b7,(by assumption),rfl,rfl⟩ (wk [0,1,1,1,1,1,1] fl))))))))))
   refine dA 7 [0,0] [b3,b3] [.i 0,.i 0,nl] fun b8=>Z8 2 (dc 2 [6] [1,1] [b3,b3] (Wg rd bs p 9 (ZM:=ob)) ?_)
   rintro _ _ ⟨k2,rfl,rfl,Yp⟩
   have qhp2:=Yp.lt om
   exact Z8 3 (Yu 3 [] [2,2] [b3,b3] (AQ k2) (Z8 5 (WP 5 [] [] [Y8 (Z2.mk 6 2 []),Y8 (Z2.mk 0 k2 []),Y8 (Z2.mk 6 2 [])] (YB [Z2.mk 6 2 [],Z2.mk 0 k2 [],Z2.mk 6 2 []]) (XX [Z2.mk 6 2 [],Z2.mk 0 k2 [],Z2.mk 6 2 []]).symm 3 3 fun v6=>Yz 2 2 [] [(21,XI [Z2.mk 6 2 [],Z2.mk 0 k2 [],Z2.mk 6 2 []])] (Z8 6 (Yu 6 [] [] [] (W0 6 3 [Z2.mk 6 2 [],Z2.mk 0 k2 [],Z2.mk 6 2 []]) (Z8 8 (YP 8 2 [] [] b8 (X5 (Z2.mk 6 3 [Z2.mk 6 2 [],Z2.mk 0 k2 [],Z2.mk 6 2 []])) (de (ZV ⟨k2,b8,(by assumption),rfl,rfl⟩ (wk [0,1,1,1,1,1,1] fl))))))))))
  rintro F h ⟨k1,b4,Y9,rfl,rfl⟩
  have qhp1:=Y9.lt om
  refine aD 8 (ZQ 5 8 [0,1,4] [0,2] (Z8 2 (dc 2 [1] [1,0] [b3,b4] (Wg rd bs (p+1) 9 (ZM:=ob)) ?_)))
  rintro _ _ ⟨k3,rfl,rfl,YV⟩
  have qhp3:=YV.lt om
  exact Z8 3 (Yu 3 [] [2,1] [b3,b4] (AQ k3) (Z8 5 (WP 5 [] [] [Y8 (Z2.mk 6 3 [Z2.mk 6 2 [],Z2.mk 0 k1 [],Z2.mk 6 2 []]),Y8 (Z2.mk 0 k3 []),Y8 (Z2.mk 6 2 [])] (YB [Z2.mk 6 3 [Z2.mk 6 2 [],Z2.mk 0 k1 [],Z2.mk 6 2 []],Z2.mk 0 k3 [],Z2.mk 6 2 []]) (XX [Z2.mk 6 3 [Z2.mk 6 2 [],Z2.mk 0 k1 [],Z2.mk 6 2 []],Z2.mk 0 k3 [],Z2.mk 6 2 []]).symm 3 3 fun v7=>Yz 2 2 [] [(28,XI [Z2.mk 6 3 [Z2.mk 6 2 [],Z2.mk 0 k1 [],Z2.mk 6 2 []],Z2.mk 0 k3 [],Z2.mk 6 2 []])] (Z8 6 (Yu 6 [] [] [] (W0 6 3 [Z2.mk 6 3 [Z2.mk 6 2 [],Z2.mk 0 k1 [],Z2.mk 6 2 []],Z2.mk 0 k3 [],Z2.mk 6 2 []]) (Z8 7 (YP 7 7 [] [] b1 (X5 (Z2.mk 6 3 [Z2.mk 6 3 [Z2.mk 6 2 [],Z2.mk 0 k1 [],Z2.mk 6 2 []],Z2.mk 0 k3 [],Z2.mk 6 2 []])) (de (ZL (r3 [2] [Y8 (Z2.mk 6 3 [Z2.mk 6 3 [Z2.mk 6 2 [],Z2.mk 0 k1 [],Z2.mk 6 2 []],Z2.mk 0 k3 [],Z2.mk 6 2 []])] [0] [(b1,b1)] ⟨(Z2.mk 6 3 [Z2.mk 6 3 [Z2.mk 6 2 [],Z2.mk 0 k1 [],Z2.mk 6 2 []],Z2.mk 0 k3 [],Z2.mk 6 2 []]),(p+1)+1,rfl,rfl,⟨fun g=>SE.three (s1:=4) (s2:=1) (s3:=1) om om (SE.three (s1:=1) (s2:=1) (s3:=1) om om (SE.nil om om om) (SE.int om om) (SE.nil om om om) om) (SE.int om om) (SE.nil om om om) om,by omega⟩⟩ (lr _)))))))))))
 refine ak (Zu 1 [0] (iA [.i 0,.i 0,nl] fun b9=>Zx 0 b9 (X5 (Z2.mk 6 0 [])) (ie (YU 1 (ic [4] (Wg rd bs p 3 (ZM:=ob)) ?_)))))
 rintro _ _ ⟨k4,rfl,rfl,X6⟩
 have qhp4:=X6.lt om
 refine ia ((1+k4)) ((1)+(k4)) (Z1 (ab 0 (ZW (fun fz gz m F h=>∃(j:Int) (eQ:Z2) (pq:Nat),(0<=j/\j<=3)/\(∀g:Wh,SE g (7-2*j.toNat) eQ)/\(p+1<=pq/\pq+4*j.toNat<=p+13)/\F=sF [0,4,8] fz [(9,.i j)]/\h=[YC rd bs pq,.obj b9 (X5 eQ),Zk gz 4]/\m=j.toNat) _ _ _ ⟨(1+k4),(Z2.mk 6 0 []),p+1,ob,(fun g=>SE.nil om om om),ob,rfl,rfl,rfl⟩ (wk [0,0,2] fl) ?_)))
 rintro m F h ⟨j,eQ,pq,Yg,Zh,Zw,rfl,rfl,rfl⟩
 refine Xc (ZZ (j>0) (fun Ze=>?_) (fun Ze=>?_))
 ·refine ak (aq (ab 1 (aE 7 (ZQ 5 7 [0,3] [1] (Z8 1 (dc 1 [0] [0] [b9] (Py rd bs pq (ZM:=ob)) ?_))))))
  rintro _ _ ⟨z1,rfl,rfl,Xq⟩
  have hz:=Xq
  exact Z8 2 (Yu 2 [] [1] [b9] (AQ z1) (Z8 4 (WP 4 [] [] [Y8 (Z2.mk 0 z1 []),Y8 eQ] (YB [Z2.mk 0 z1 [],eQ]) (XX [Z2.mk 0 z1 [],eQ]).symm 2 3 fun v8=>Yz 2 2 [] [(42,XI [Z2.mk 0 z1 [],eQ])] (Z8 5 (Yu 5 [] [] [] (W0 6 1 [Z2.mk 0 z1 [],eQ]) (Z8 6 (YP 6 2 [] [] b9 (X5 (Z2.mk 6 1 [Z2.mk 0 z1 [],eQ])) (de (az (Z0 1 (ia ((j-1)) ((j)-(1)) (Z1 (ZF ⟨(j-1),(Z2.mk 6 1 [Z2.mk 0 z1 [],eQ]),pq+4,ob,(fun g=>SE.two om om (SE.int (q:=1) om om) (Zh g) om),ob,rfl,rfl,rfl⟩ (wk [2,0,1] fl))))))))))))))
 exact ax 0 (Zu 1 [1] (Zx 2 b1 (X5 eQ) (ie (ZL (r3 [1] [Y8 eQ] [0] [(b1,b1)] ⟨eQ,pq,rfl,rfl,⟨fun g=>(⟨(Zh g).1,by have:=(Zh g).2;omega⟩:SE g 9 _),by omega⟩⟩ (lr _))))))
theorem Z9m (rd:Nat) (bs:LI) (p:Nat) (g:Wh) (gb:Nat) (rs:List Func) (ZM:∀z∈bs,0<=z/\z<=255) (hp:p+1600<=1000000000:=by exact ob) (hg:GP g:=by exact ob) (Wv:g.funcs <+: rs:=by exact ob):Zj 237 [.p rd 0,.agg (Wz g gb)] [YC rd bs p,XY gb rs] (fun r h=>∃(e:Z2) (p2:Nat),r=Y8 e/\h=[YC rd bs p2,XY gb rs]/\GE g 0 200 e/\p<=p2/\p2<=p+1600):=by
 have hbv:=Eb
 refine ZC 27 Tryz.func237 (ar (iA (Wz g gb) fun b1=>iA [.i 0,.i 0,nl] fun b2=>ie (Yb 1 (iL (Z7 [1,1,3]) 3 1 fun v1=>ZT 0 [(8,Z6 [1,1,3])] (ic [3] (U9 rd bs p [1,1,3] (ZM:=ob)) ?_)))))
 rintro _ _ ⟨z1,rfl,rfl,Y9⟩
 have hz:=BK (a:=1) (b:=3) Y9 (by decide)
 refine Z1 (Zu 3 [3] (iL (Z7 [z1]) 1 1 fun v2=>ZT 0 [(13,Z6 [z1])] (ic [1,4] (Kf rd bs (p+1) g gb rs [z1] 0 16 (ZM:=ob) (hv:=(by simp))) ?_)))
 rintro _ _ ⟨e1,p21,rfl,rfl,Yp⟩
 have Xp:=Yp.1
 have Ki:=Yp.2
 rw [hbv.2.2.2.1] at Xp
 refine iA [.i 0,.i 0,nl] fun b3=>Zx 0 b3 (X5 e1) (ie (YU 1 (ic [1] (Wg rd bs p21 3 (ZM:=ob)) ?_)))
 rintro _ _ ⟨k1,rfl,rfl,YV⟩
 have qhp3:=YV.lt om
 refine Z1 (W5 (fun fz gz F h=>∃(eQ:Z2),(GE g 1 151 eQ)/\F=sF [0,4,5,6] fz []/\h=[Zk gz 0,.obj b3 (X5 eQ),Zk gz 2,Zk gz 5]) ?_ ?_)
 ·refine ac (k1==0) Zq (fun Zb=>?_) (fun Zb=>?_)
  ·exact az (ZO 1 [1] (UV [Y8 e1] (YB [e1]) (XX [e1]).symm 1 3 fun v3=>ZT 0 [(19,XI [e1])] (Zv [] (W0 5 0 [e1]) (Zx 2 b3 (X5 (Z2.mk 5 0 [e1])) (ie (ZV ⟨(Z2.mk 5 0 [e1]),(GE.one om om Xp om),rfl,rfl⟩ (wk [2,0,1,3] fl)))))))
  exact ak (ZV ⟨e1,(GE.le Xp om),rfl,rfl⟩ (wk [0,0,0,2] fl))
 rintro F h ⟨eQ,Ja,rfl,rfl⟩
 refine aD 7 (ZQ 4 7 [0,1,3] [1] (Z8 2 (dc 2 [0] [0] [b3] (Z9j rd bs (p21+1) z1 (ZM:=ob)) ?_)))
 rintro _ _ ⟨e2,p22,rfl,rfl,X6⟩
 have hli:=X6.1
 exact Z8 4 (WP 4 [] [] [Y8 e2,Y8 eQ] (YB [e2,eQ]) (XX [e2,eQ]).symm 2 3 fun v4=>Yz 2 2 [] [(25,XI [e2,eQ])] (Z8 5 (Yu 5 [] [] [] (W0 13 0 [e2,eQ]) (Z8 6 (YP 6 4 [] [] b2 (X5 (Z2.mk 13 0 [e2,eQ])) (de (ZL (r3 [2,3] [Y8 (Z2.mk 13 0 [e2,eQ])] [0] [(b2,b2)] ⟨(Z2.mk 13 0 [e2,eQ]),p22,rfl,rfl,⟨GE.letS ((hli g).ge (Xa _)) Ja om,by omega⟩⟩ (lr _)))))))))
theorem Z9u (rd:Nat) (bs:LI) (p:Nat) (g:Wh) (gb:Nat) (rs:List Func) (f:Func) (i:Int) (w:Int) (ZM:∀z∈bs,0<=z/\z<=255) (hp:p+1000<=1000000000:=by exact ob) (hg:GP g:=by exact ob) (Wv:g.funcs <+: rs:=by exact ob) (hi:0<=i:=by exact ob) (hf:g.funcs[i.toNat]? = some f:=by exact ob) (hw:0<=w/\w<f.params.length:=by exact ob):Zj 238 [.p rd 0,.agg (Wz g gb),.i i,.i w] [YC rd bs p,XY gb rs] (fun r h=>∃(e:Z2) (p2:Nat),r=Y8 e/\h=[YC rd bs p2,XY gb rs]/\GE g f.params.length 200 e/\p<=p2/\p2<=p+1000):=by
 obtain ⟨hil,_⟩:=Xj.1 hf
 have hgl:=hg.len
 have hso:=(hg.sigs f (ZY hf)).bd
 have hbv:=Eb
 refine ZC 136 Tryz.func238 (ar (iA (Wz g gb) fun b1=>iA [.i 0,.i 0,nl] fun b2=>ie (Zu 3 [1] (Zl (XQ gb g.funcs.length 4 i.toNat 5 i) (Z0 1 (VV (WQ 3 gb 4 4 5 (i.toNat * 5+0) (Za (Xz rs)) [Z6 f.params] 31 (Z6 f.params) (UT Wv hf 0 rfl (V8 rfl))) (Z1 (Yb 1 (iw (Yo f.params) (Z1 (Yb 1 (iL (Z7 [0,1]) 2 1 fun v1=>ZT 0 [(26,Z6 [0,1])] (ic [] (Ku f.params [0,1]) ?_)))))))))))))
 rintro _ _ ⟨v2,rfl,rfl⟩
 refine Z1 (ar (iL (YB []) 0 3 fun v3=>?_))
 refine Z1 (Yd (ab 0 (ZW (fun fz gz m F h=>∃(k:Nat) (ys:List Z2) (u:Value) (pq:Nat),(k<=f.params.length)/\(ys.length=k)/\(∀e∈ys,GE g (f.params.length+2) 3 e)/\(p<=pq/\pq<=p+k)/\F=sF [0,2,3,5,8,9,10] fz [(11,Z6 (f.params++[0,1])),(12,QU ys u),(13,.i k)]/\h=[Zk gz 3,Zk gz 4,YC rd bs pq,Zk gz 6,.tail u 3]/\m=f.params.length-k) _ _ _ ⟨0,[],v3,p,ob,ob,(fun e he=>by cases he),ob,rfl,rfl,rfl⟩ (wk [3,3,3,3,0] (fc (x:=ZX (f.params++[0,1]) v2) (Zd.forget _ _) (fr (Y1 fl)))) ?_)))
 rintro m F h ⟨k,ys,u,pq,Yg,Zh,Zw,YS,rfl,rfl,rfl⟩
 refine Xc (ZZ ((k:Int)<(f.params.length:Int)) (fun Zb=>?_) (fun Zb=>?_))
 ·refine ak (aq (ab 1 (ar (YJ ((k:Int)==w) Zq (fun Ze=>?_) (fun Ze=>?_)))))
  ·exact az (Z0 2 (ia (((f.params.length+1:Nat):Int)) (((f.params.length:Int))+(1)) (Zv [] (QA ((f.params.length+1:Nat):Int)) (UV [Y8 (Z2.mk 12 ((f.params.length+1:Nat):Int) [])] (YB [(Z2.mk 12 ((f.params.length+1:Nat):Int) [])]) (XX [(Z2.mk 12 ((f.params.length+1:Nat):Int) [])]).symm 1 3 fun v4=>ZT 0 [(41,XI [(Z2.mk 12 ((f.params.length+1:Nat):Int) [])])] (ip 5 (YB (ys++[(Z2.mk 12 ((f.params.length+1:Nat):Int) [])])) (YB ys) (YB [(Z2.mk 12 ((f.params.length+1:Nat):Int) [])]) u none 3 (Tm _) (Tm _) (JZ _) (by simp<;>omega) (by simp [JY,YB]) fun v5=>Z1 (az (Z0 1 (ZG k (Z1 (ZF ⟨k+1,(ys++[(Z2.mk 12 ((f.params.length+1:Nat):Int) [])]),v5,pq,ob,ob,(XJ Zw (GE.var om om om)),ob,rfl,rfl,rfl⟩ (wk [2,2,2,2,0] (fw (ZI k fl)))))))))))))
  refine aq (W5 (fun fz gz F h=>∃(wb:Bool) (p5:Nat),(pq<=p5/\p5<=pq+1)/\F=sF [0,2,3,5,8,9,10,11,12,13] fz [(52,.b wb)]/\h=[Zk gz 0,Zk gz 1,YC rd bs p5,Zk gz 3,Zk gz 4]) ?_ ?_)
  ·refine az (Z0 2 ?_)
   obtain ⟨x1,Z3⟩:=Zt f.params k om
   refine Zl (Zi none (k:Int) 1 (Y5 Z3)) (Z0 3 (ib (b:=(x1==0)) 48 (fun Zc=>?_) (fun Zc=>?_)))
   ·refine Z0 1 (ic [2] (Wg rd bs pq 2 (ZM:=ob)) ?_)
    rintro _ _ ⟨k1,rfl,rfl,Yp⟩
    have qhp2:=Yp.lt om
    exact Z1 (ZV ⟨(k1==0),pq+1,om,rfl,rfl⟩ (wk [1,1,0,0,0] fl))
   exact Z1 (ZV ⟨false,pq,ob,rfl,rfl⟩ (ZE 5 fl))
  rintro F h ⟨wb,p5,kR10_0,rfl,rfl⟩
  refine ac wb Iff.rfl (fun ZB=>?_) (fun ZB=>?_)
  ·exact az (Z0 2 (Zv [] (QA (k:Int)) (Z0 1 (Zv [] (QA (f.params.length:Int)) (UV [Y8 (Z2.mk 12 (k:Int) []),Y8 (Z2.mk 12 (f.params.length:Int) [])] (YB [(Z2.mk 12 (k:Int) []),(Z2.mk 12 (f.params.length:Int) [])]) (XX [(Z2.mk 12 (k:Int) []),(Z2.mk 12 (f.params.length:Int) [])]).symm 2 3 fun v6=>ZT 0 [(58,XI [(Z2.mk 12 (k:Int) []),(Z2.mk 12 (f.params.length:Int) [])])] (Zv [] (W0 1 0 [(Z2.mk 12 (k:Int) []),(Z2.mk 12 (f.params.length:Int) [])]) (UV [Y8 (Z2.mk 1 0 [(Z2.mk 12 (k:Int) []),(Z2.mk 12 (f.params.length:Int) [])])] (YB [(Z2.mk 1 0 [(Z2.mk 12 (k:Int) []),(Z2.mk 12 (f.params.length:Int) [])])]) (XX [(Z2.mk 1 0 [(Z2.mk 12 (k:Int) []),(Z2.mk 12 (f.params.length:Int) [])])]).symm 1 3 fun v7=>ZT 0 [(60,XI [(Z2.mk 1 0 [(Z2.mk 12 (k:Int) []),(Z2.mk 12 (f.params.length:Int) [])])])] (ip 6 (YB (ys++[(Z2.mk 1 0 [(Z2.mk 12 (k:Int) []),(Z2.mk 12 (f.params.length:Int) [])])])) (YB ys) (YB [(Z2.mk 1 0 [(Z2.mk 12 (k:Int) []),(Z2.mk 12 (f.params.length:Int) [])])]) u none 3 (Tm _) (Tm _) (JZ _) (by simp<;>omega) (by simp [JY,YB]) fun v8=>Z1 (az (Z0 1 (ZG k (Z1 (ZF ⟨k+1,(ys++[(Z2.mk 1 0 [(Z2.mk 12 (k:Int) []),(Z2.mk 12 (f.params.length:Int) [])])]),v8,p5,ob,ob,(XJ Zw (GE.two (s1:=1) (s2:=1) om om (GE.var om om om) (GE.var om om om) om)),ob,rfl,rfl,rfl⟩ (wk [3,3,3,3,0] (fw (ZI k fl))))))))))))))))
  exact az (Z0 2 (Zv [] (QA (k:Int)) (UV [Y8 (Z2.mk 12 (k:Int) [])] (YB [(Z2.mk 12 (k:Int) [])]) (XX [(Z2.mk 12 (k:Int) [])]).symm 1 3 fun v9=>ZT 0 [(65,XI [(Z2.mk 12 (k:Int) [])])] (ip 5 (YB (ys++[(Z2.mk 12 (k:Int) [])])) (YB ys) (YB [(Z2.mk 12 (k:Int) [])]) u none 3 (Tm _) (Tm _) (JZ _) (by simp<;>omega) (by simp [JY,YB]) fun v10=>Z1 (az (Z0 1 (ZG k (Z1 (ZF ⟨k+1,(ys++[(Z2.mk 12 (k:Int) [])]),v10,p5,ob,ob,(XJ Zw (GE.var om om om)),ob,rfl,rfl,rfl⟩ (wk [2,2,2,2,0] (fw (ZI k fl))))))))))))
 refine ax 0 (ar (ZT 2 [(68,XI ys)] (Zv [] (W0 9 i ys) (iA [.i 0,.i 0,nl] fun b3=>Zx 0 b3 (X5 (Z2.mk 9 i ys)) (ie (Zu 1 [0] (iA [.i 0,.i 0,nl] fun b4=>?_)))))))
 refine Zx 0 b4 (X5 (Z2.mk 9 i ys)) (ie (aq (aq (W5 (fun fz gz F h=>∃(wb:Bool) (p5:Nat),(pq<=p5/\p5<=pq+1)/\F=sF [0,2,3,5,8,9,10,11,14,15] fz [(82,.b wb)]/\h=[Zk gz 0,Zk gz 1,Zk gz 2,Zk gz 3,YC rd bs p5,Zk gz 5]) ?_ ?_))))
 ·refine az (ZO 3 [3] (Zl (XQ gb g.funcs.length 4 i.toNat 5 i) (Z0 1 (VV (WQ 5 gb 4 4 5 (i.toNat * 5+1) (Za (Xz rs)) [.i f.result] 3 (.i f.result) (UT Wv hf 1 rfl (V8 rfl))) (Z0 2 (ib (b:=(f.result==1)) 78 (fun ZA=>?_) (fun ZA=>?_)))))))
  ·refine Z0 1 (ic [4] (Wg rd bs pq 5 (ZM:=ob)) ?_)
   rintro _ _ ⟨k2,rfl,rfl,Xq⟩
   have qhp5:=Xq.lt om
   exact Z1 (ZV ⟨(decide (k2>0)),pq+1,ob,rfl,rfl⟩ (wk [1,1,1,1,0,0] fl))
  exact Z1 (ZV ⟨false,pq,ob,rfl,rfl⟩ (ZE 6 fl))
 rintro F h ⟨wb,p5,kR15_0,rfl,rfl⟩
 refine W5 (fun fz gz F h=>∃(eQ:Z2) (p6:Nat),(GE g (f.params.length+2) 41 eQ)/\(p5<=p6/\p6<=p5+302)/\F=sF [0,2,3,5,8,9,15] fz []/\h=[.obj b4 (X5 eQ),Zk gz 2,Zk gz 3,YC rd bs p6,Zk gz 5]) ?_ ?_
 ·refine ac wb Iff.rfl (fun Yk=>?_) (fun Yk=>?_)
  ·refine Zu 3 [3] (ic [4,4] (Kf rd bs p5 g gb rs (f.params++[0,1]) 0 4 (ZM:=ob) (hv:=(by first|omega|(simp only [YF,YR,Xx];omega)))) ?_)
   rintro _ _ ⟨e1,p21,rfl,rfl,WJ⟩
   have Xp:=WJ.1
   have Ki:=WJ.2
   try rw [YF] at Xp
   rw [hbv.2.1] at Xp
   refine iA [.i 0,.i 0,nl] fun b5=>?_
   refine Zx 0 b5 (X5 e1) (ie (aq (aq (W5 (fun fz gz F h=>∃(wc:Bool),(True)/\F=sF [0,2,3,5,8,9,10,14,15,16] fz [(94,.b wc)]/\h=gz) ?_ ?_))))
   ·refine az (Z0 3 (ib (b:=(decide ((f.params.length:Int)>1))) 89 (fun Yt=>?_) (fun Yt=>?_)))
    ·refine Z0 1 ?_
     obtain ⟨x2,Zo⟩:=Zt f.params 0 om
     exact Zl (Zi none 0 1 (Y5 Zo)) (Z1 (ZV ⟨(x2==2),ob,rfl,rfl⟩ (ZE 7 fl)))
    exact Z1 (ZV ⟨false,ob,rfl,rfl⟩ (ZE 7 fl))
   rintro F h ⟨wc,kR17_0,rfl,rfl⟩
   refine W5 (fun fz gz F h=>∃(eA:Z2),(GE g (f.params.length+2) 30 eA)/\F=sF [0,2,3,5,8,9,14,15,16] fz []/\h=[.obj b5 (X5 eA),Zk gz 1,Zk gz 2,Zk gz 3,Zk gz 4,Zk gz 5,Zk gz 6]) ?_ ?_
   ·refine ac wc Iff.rfl (fun Xo=>?_) (fun Xo=>?_)
    ·exact az (Zv [] (QA 0) (Z0 1 (Zv [] (QA (f.params.length:Int)) (UV [Y8 (Z2.mk 12 0 []),Y8 (Z2.mk 12 (f.params.length:Int) [])] (YB [Z2.mk 12 0 [],(Z2.mk 12 (f.params.length:Int) [])]) (XX [Z2.mk 12 0 [],(Z2.mk 12 (f.params.length:Int) [])]).symm 2 3 fun v11=>ZT 0 [(98,XI [Z2.mk 12 0 [],(Z2.mk 12 (f.params.length:Int) [])])] (Zv [] (W0 11 0 [Z2.mk 12 0 [],(Z2.mk 12 (f.params.length:Int) [])]) (Zx 1 b5 (X5 (Z2.mk 11 0 [Z2.mk 12 0 [],(Z2.mk 12 (f.params.length:Int) [])])) (ie (ZV ⟨(Z2.mk 11 0 [Z2.mk 12 0 [],(Z2.mk 12 (f.params.length:Int) [])]),(GE.two (s1:=1) (s2:=1) om om (GE.var om om om) (GE.var om om om) om),rfl,rfl⟩ (wk [0,1,1,1,1,1,1] fl)))))))))
    exact ak (ZV ⟨e1,Xp,rfl,rfl⟩ (ZE 7 fl))
   rintro F h ⟨eA,Zd5,rfl,rfl⟩
   exact az (ZO 2 [0,4] (UV [Y8 eA,Y8 (Z2.mk 9 i ys)] (YB [eA,Z2.mk 9 i ys]) (XX [eA,Z2.mk 9 i ys]).symm 2 3 fun v12=>ZT 0 [(102,XI [eA,Z2.mk 9 i ys])] (Zv [] (W0 6 1 [eA,Z2.mk 9 i ys]) (Zx 4 b4 (X5 (Z2.mk 6 1 [eA,Z2.mk 9 i ys])) (ie (ZV ⟨(Z2.mk 6 1 [eA,Z2.mk 9 i ys]),p21,(GE.two (s1:=30) (s2:=10) om om Zd5 (GE.node (L:=f.params.length) (s:=3) (q:=10) om (fun _=>by omega) om Zw om om om) om),ob,rfl,rfl⟩ (wk [0,5,5,2,2] fl)))))))
  refine Zu 3 [3] (Zl (XQ gb g.funcs.length 4 i.toNat 5 i) (Z0 1 (VV (WQ 5 gb 4 4 5 (i.toNat * 5+1) (Za (Xz rs)) [.i f.result] 3 (.i f.result) (UT Wv hf 1 rfl (V8 rfl))) (YJ (f.result==0) Zq (fun Xh=>?_) (fun Xh=>?_)))))
  ·refine aE 11 (ZQ 6 11 [0,3,4,5,7] [3,1] (Z8 1 (dL 1 [1,3] [b3,b1] (Z7 [1,2]) 2 1 fun v13=>Yz 5 5 [] [(112,Z6 [1,2])] (Z8 2 (dc 2 [5] [1,3] [b3,b1] (U9 rd bs p5 [1,2] (ZM:=ob)) ?_)))))
   rintro _ _ ⟨z1,rfl,rfl,Ta⟩
   have hz:=BK (a:=1) (b:=2) Ta (by decide)
   refine Z8 6 (dc 6 [0,5] [1] [b3] (Kf rd bs (p5+1) g gb rs (f.params++[0,1]) 0 4 (ZM:=ob) (hv:=(by first|omega|(simp only [YF,YR,Xx];omega)))) ?_)
   rintro _ _ ⟨e2,p22,rfl,rfl,Tb⟩
   have Xp:=Tb.1
   have Ki:=Tb.2
   try rw [YF] at Xp
   rw [hbv.2.1] at Xp
   exact Z8 8 (WP 8 [] [] [Y8 e2,Y8 (Z2.mk 9 i ys)] (YB [e2,Z2.mk 9 i ys]) (XX [e2,Z2.mk 9 i ys]).symm 2 3 fun v14=>Yz 2 2 [] [(119,XI [e2,Z2.mk 9 i ys])] (Z8 9 (Yu 9 [] [] [] (W0 z1 0 [e2,Z2.mk 9 i ys]) (Z8 10 (YP 10 4 [] [] b4 (X5 (Z2.mk z1 0 [e2,Z2.mk 9 i ys])) (de (ZV ⟨(Z2.mk z1 0 [e2,Z2.mk 9 i ys]),p22,(GE.two (s1:=30) (s2:=10) om om Xp (GE.node (L:=f.params.length) (s:=3) (q:=10) om (fun _=>by omega) om Zw om om om) om),ob,rfl,rfl⟩ (wk [0,5,5,1,1] fl))))))))
  exact ak (ZV ⟨(Z2.mk 9 i ys),p5,(GE.le (GE.node (L:=f.params.length) (s:=3) (q:=10) om (fun _=>by omega) om Zw om om om) om),ob,rfl,rfl⟩ (wk [0,1,1,1,1] fl))
 rintro F h ⟨eQ,p6,Kj,Zd4,rfl,rfl⟩
 refine aD 16 (ZQ 9 16 [0,2,3,4,5,6,7] [2,2] (dx 8 (XQ gb g.funcs.length 4 i.toNat 5 i) (Zm 7 8 [9] (U5 10 (WQ 4 gb 4 4 5 (i.toNat * 5+1) (Za (Xz rs)) [.i f.result] 3 (.i f.result) (UT Wv hf 1 rfl (V8 rfl))) (ZQ 5 6 [12] [0] (Z8 1 (Yu 1 [] [0,4,2,2] [b4,gb,b1,b1] (QA w) (Z8 11 (dc 11 [3,3] [0] [b4] (Kf rd bs p6 g gb rs f.params f.result 4 (ZM:=ob) (hv:=(by first|omega|(simp only [YF,YR,Xx];omega)))) ?_)))))))))
 rintro _ _ ⟨e3,p23,rfl,rfl,UU⟩
 have Xp:=UU.1
 have Ki:=UU.2
 try rw [YF] at Xp
 rw [hbv.2.1] at Xp
 exact Z8 13 (WP 13 [] [] [Y8 (Z2.mk 12 w []),Y8 e3,Y8 eQ] (YB [Z2.mk 12 w [],e3,eQ]) (XX [Z2.mk 12 w [],e3,eQ]).symm 3 3 fun v15=>Yz 2 2 [] [(134,XI [Z2.mk 12 w [],e3,eQ])] (Z8 14 (Yu 14 [] [] [] (W0 8 1 [Z2.mk 12 w [],e3,eQ]) (Z8 15 (YP 15 4 [] [] b2 (X5 (Z2.mk 8 1 [Z2.mk 12 w [],e3,eQ])) (de (ZL (r3 [2,2] [Y8 (Z2.mk 8 1 [Z2.mk 12 w [],e3,eQ])] [0] [(b2,b2)] ⟨(Z2.mk 8 1 [Z2.mk 12 w [],e3,eQ]),p23,rfl,rfl,⟨GE.matchL hg (s1:=1) (s2:=30) (s3:=41) (GE.var om om om) Xp Kj om,by omega⟩⟩ (lr _)))))))))
theorem Z9v (rd:Nat) (bs:LI) (p:Nat) (g:Wh) (gb:Nat) (rs:List Func) (f:Func) (i:Int) (ZM:∀z∈bs,0<=z/\z<=255) (hp:p+1000<=1000000000:=by exact ob) (hg:GP g:=by exact ob) (Wv:g.funcs <+: rs:=by exact ob) (hi:0<=i:=by exact ob) (hf:g.funcs[i.toNat]? = some f:=by exact ob) (h0:0<f.params.length:=by exact ob):Zj 239 [.p rd 0,.agg (Wz g gb),.i i] [YC rd bs p,XY gb rs] (fun r h=>∃(e:Z2) (p2:Nat),r=Y8 e/\h=[YC rd bs p2,XY gb rs]/\GE g f.params.length 200 e/\p<=p2/\p2<=p+1000):=by
 obtain ⟨hil,_⟩:=Xj.1 hf
 have hgl:=hg.len
 have hso:=(hg.sigs f (ZY hf)).bd
 have hbv:=Eb
 refine ZC 96 Tryz.func239 (ar (iA (Wz g gb) fun b1=>iA [.i 0,.i 0,nl] fun b2=>ie (Zu 3 [1] (Zl (XQ gb g.funcs.length 4 i.toNat 5 i) (Z0 1 (VV (WQ 3 gb 4 4 5 (i.toNat * 5+0) (Za (Xz rs)) [Z6 f.params] 31 (Z6 f.params) (UT Wv hf 0 rfl (V8 rfl))) (Z1 (Yb 1 (iw (Yo f.params) (Z1 (Yb 1 (Zv [] (QA (f.params.length:Int)) (UV [Y8 (Z2.mk 12 (f.params.length:Int) [])] (YB [(Z2.mk 12 (f.params.length:Int) [])]) (XX [(Z2.mk 12 (f.params.length:Int) [])]).symm 1 3 fun v1=>Z1 (Yb 1 (ia (((f.params.length+2:Nat):Int)) (((f.params.length:Int))+(2)) (Zv [] (QA ((f.params.length+2:Nat):Int)) (UV [Y8 (Z2.mk 12 ((f.params.length+2:Nat):Int) [])] (YB [(Z2.mk 12 ((f.params.length+2:Nat):Int) [])]) (XX [(Z2.mk 12 ((f.params.length+2:Nat):Int) [])]).symm 1 3 fun v2=>?_)))))))))))))))))
 refine Z1 (Yd (ab 0 (ZW (fun fz gz m F h=>∃(k:Nat) (ys:List Z2) (u:Value) (zs:List Z2) (w:Value),(1<=k/\k<=f.params.length)/\(ys.length=k)/\(zs.length=k)/\(∀e∈ys,GE g (f.params.length+3) 1 e)/\(∀e∈zs,GE g (f.params.length+3) 1 e)/\F=sF [0,2,4,6,7,8] fz [(9,QU ys u),(10,QU zs w),(11,.i k)]/\h=[Zk gz 2,Zk gz 3,Zk gz 4,Zk gz 5,.tail u 3,.tail w 3]/\m=f.params.length-k) _ _ _ ⟨1,[(Z2.mk 12 (f.params.length:Int) [])],v1,[(Z2.mk 12 ((f.params.length+2:Nat):Int) [])],v2,ob,ob,ob,(Ih (GE.var om om om)),(Ih (GE.var om om om)),rfl,rfl,rfl⟩ (wk [2,2,2,2,1,0] (fw (fc (x:=.i 1) li fl))) ?_)))
 rintro m F h ⟨k,ys,u,zs,w,Yg,Zh,Zw,YS,WE,rfl,rfl,rfl⟩
 refine Xc (ZZ ((k:Int)<(f.params.length:Int)) (fun Zb=>?_) (fun Zb=>?_))
 ·exact ak (aq (ab 1 (Yb 2 (Zv [] (QA (k:Int)) (UV [Y8 (Z2.mk 12 (k:Int) [])] (YB [(Z2.mk 12 (k:Int) [])]) (XX [(Z2.mk 12 (k:Int) [])]).symm 1 3 fun v3=>ZT 0 [(38,XI [(Z2.mk 12 (k:Int) [])])] (ip 5 (YB (ys++[(Z2.mk 12 (k:Int) [])])) (YB ys) (YB [(Z2.mk 12 (k:Int) [])]) u none 3 (Tm _) (Tm _) (JZ _) (by simp<;>omega) (by simp [JY,YB]) fun v4=>Z1 (az (Z0 2 (Zv [] (QA (k:Int)) (UV [Y8 (Z2.mk 12 (k:Int) [])] (YB [(Z2.mk 12 (k:Int) [])]) (XX [(Z2.mk 12 (k:Int) [])]).symm 1 3 fun v5=>ZT 0 [(43,XI [(Z2.mk 12 (k:Int) [])])] (ip 7 (YB (zs++[(Z2.mk 12 (k:Int) [])])) (YB zs) (YB [(Z2.mk 12 (k:Int) [])]) w none 3 (Tm _) (Tm _) (JZ _) (by simp<;>omega) (by simp [JY,YB]) fun v6=>Z1 (az (Z0 1 (ZG k (Z1 (ZF ⟨k+1,(ys++[(Z2.mk 12 (k:Int) [])]),v4,(zs++[(Z2.mk 12 (k:Int) [])]),v6,ob,ob,ob,(XJ YS (GE.var om om om)),(XJ WE (GE.var om om om)),rfl,rfl,rfl⟩ (wk [4,4,4,4,2,0] (fw (ZI k fl)))))))))))))))))))
 refine ax 0 (ar (ZT 2 [(46,XI ys)] (Zv [] (W0 9 i ys) (iA [.i 0,.i 0,nl] fun b3=>Zx 0 b3 (X5 (Z2.mk 9 i ys)) (ie (ar (ZT 2 [(49,XI zs)] (Zv [] (W0 9 i zs) (iA [.i 0,.i 0,nl] fun b4=>?_)))))))))
 refine Zx 0 b4 (X5 (Z2.mk 9 i zs)) (ie (aD 14 (ZQ 9 14 [0,1,2,3,7] [1,3,0] (J5 (fun fz gz F h=>∃(e1:Z2) (p21:Nat) (b5:Nat),(GE g (f.params++[3,0,3]).length (bS 4) e1/\p<=p21/\p21<=p+bC 4)/\F=sF [0,2,4,6,7,8,12] fz [(14,.p b5 0)]/\h=[.obj b5 (X5 (Z2.mk 1 0 [Z2.mk 9 i ys,Z2.mk 1 0 [e1,Z2.mk 9 i zs]])),YC rd bs p21,Zk gz 5,Zk gz 0,Zk gz 1,Zk gz 2,Zk gz 3,Zk gz 6,Zk gz 7]) ?_ ?_))))
 ·refine VE 4 12 ?_ ?_
  ·refine dL 4 [0,3,1] [b4,b1,b3] (Z7 [3,0,3]) 3 1 fun v7=>Yz 8 8 [] [(55,Z6 [3,0,3])] (VE 5 12 ?_ ?_)
   ·refine dc 5 [] [0,3,1] [b4,b1,b3] (Ku f.params [3,0,3]) ?_
    rintro _ _ ⟨v8,rfl,rfl⟩
    refine Yz 7 7 [] [(56,Z6 (f.params++[3,0,3]))] (VE 6 12 ?_ ?_)
    ·refine dc 6 [6,6] [0,1] [b4,b3] (Kf rd bs p g gb rs (f.params++[3,0,3]) 0 4 (ZM:=ob) (hv:=(by first|omega|(simp only [YF,YR,Xx];omega)))) ?_
     rintro _ _ ⟨e1,p21,rfl,rfl,Y9⟩
     have Xp:=Y9.1
     have Ki:=Y9.2
     try rw [YF] at Xp
     rw [hbv.2.1] at Xp
     refine VE 8 12 ?_ ?_
     ·refine WP 8 [3] [b3] [Y8 e1,Y8 (Z2.mk 9 i zs)] (YB [e1,Z2.mk 9 i zs]) (XX [e1,Z2.mk 9 i zs]).symm 2 3 fun v9=>Yz 5 5 [] [(59,XI [e1,Z2.mk 9 i zs])] (VE 9 12 ?_ ?_)
      ·refine Yu 9 [] [3] [b3] (W0 1 0 [e1,Z2.mk 9 i zs]) (VE 10 12 ?_ ?_)
       ·refine WP 10 [] [] [Y8 (Z2.mk 9 i ys),Y8 (Z2.mk 1 0 [e1,Z2.mk 9 i zs])] (YB [Z2.mk 9 i ys,Z2.mk 1 0 [e1,Z2.mk 9 i zs]]) (XX [Z2.mk 9 i ys,Z2.mk 1 0 [e1,Z2.mk 9 i zs]]).symm 2 3 fun v10=>Yz 3 3 [] [(61,XI [Z2.mk 9 i ys,Z2.mk 1 0 [e1,Z2.mk 9 i zs]])] (VE 11 12 ?_ ?_)
        ·exact Yu 11 [] [] [] (W0 1 0 [Z2.mk 9 i ys,Z2.mk 1 0 [e1,Z2.mk 9 i zs]]) (Z8 12 (dA 12 [] [] [.i 0,.i 0,nl] fun b5=>Z8 13 (YP 13 0 [] [] b5 (X5 (Z2.mk 1 0 [Z2.mk 9 i ys,Z2.mk 1 0 [e1,Z2.mk 9 i zs]])) (de (ZV ⟨e1,p21,b5,(by assumption),rfl,rfl⟩ (wk [0,2,2,4,4,4,4,4,4] fl))))))
        exact dA 12 [] [] [.i 0,.i 0,nl] fun b6=>Z8 11 (Yu 11 [] [] [] (W0 1 0 [Z2.mk 9 i ys,Z2.mk 1 0 [e1,Z2.mk 9 i zs]]) (Z8 13 (YP 13 0 [] [] b6 (X5 (Z2.mk 1 0 [Z2.mk 9 i ys,Z2.mk 1 0 [e1,Z2.mk 9 i zs]])) (de (ZV ⟨e1,p21,b6,(by assumption),rfl,rfl⟩ (wk [0,2,2,4,4,4,4,4,4] fl))))))
       exact dA 12 [3] [b3] [.i 0,.i 0,nl] fun b7=>Z8 10 (WP 10 [] [] [Y8 (Z2.mk 9 i ys),Y8 (Z2.mk 1 0 [e1,Z2.mk 9 i zs])] (YB [Z2.mk 9 i ys,Z2.mk 1 0 [e1,Z2.mk 9 i zs]]) (XX [Z2.mk 9 i ys,Z2.mk 1 0 [e1,Z2.mk 9 i zs]]).symm 2 3 fun v11=>Yz 2 2 [] [(61,XI [Z2.mk 9 i ys,Z2.mk 1 0 [e1,Z2.mk 9 i zs]])] (Z8 11 (Yu 11 [] [] [] (W0 1 0 [Z2.mk 9 i ys,Z2.mk 1 0 [e1,Z2.mk 9 i zs]]) (Z8 13 (YP 13 1 [] [] b7 (X5 (Z2.mk 1 0 [Z2.mk 9 i ys,Z2.mk 1 0 [e1,Z2.mk 9 i zs]])) (de (ZV ⟨e1,p21,b7,(by assumption),rfl,rfl⟩ (wk [0,2,2,4,4,4,4,4,4] fl))))))))
      exact dA 12 [3] [b3] [.i 0,.i 0,nl] fun b8=>Z8 9 (Yu 9 [] [4] [b3] (W0 1 0 [e1,Z2.mk 9 i zs]) (Z8 10 (WP 10 [] [] [Y8 (Z2.mk 9 i ys),Y8 (Z2.mk 1 0 [e1,Z2.mk 9 i zs])] (YB [Z2.mk 9 i ys,Z2.mk 1 0 [e1,Z2.mk 9 i zs]]) (XX [Z2.mk 9 i ys,Z2.mk 1 0 [e1,Z2.mk 9 i zs]]).symm 2 3 fun v12=>Yz 2 2 [] [(61,XI [Z2.mk 9 i ys,Z2.mk 1 0 [e1,Z2.mk 9 i zs]])] (Z8 11 (Yu 11 [] [] [] (W0 1 0 [Z2.mk 9 i ys,Z2.mk 1 0 [e1,Z2.mk 9 i zs]]) (Z8 13 (YP 13 1 [] [] b8 (X5 (Z2.mk 1 0 [Z2.mk 9 i ys,Z2.mk 1 0 [e1,Z2.mk 9 i zs]])) (de (ZV ⟨e1,p21,b8,(by assumption),rfl,rfl⟩ (wk [0,2,2,4,4,4,4,4,4] fl))))))))))
     exact dA 12 [2,3] [b4,b3] [.i 0,.i 0,nl] fun b9=>Z8 8 (WP 8 [4] [b3] [Y8 e1,Y8 (Z2.mk 9 i zs)] (YB [e1,Z2.mk 9 i zs]) (XX [e1,Z2.mk 9 i zs]).symm 2 3 fun v13=>Yz 4 4 [] [(59,XI [e1,Z2.mk 9 i zs])] (Z8 9 (Yu 9 [] [4] [b3] (W0 1 0 [e1,Z2.mk 9 i zs]) (Z8 10 (WP 10 [] [] [Y8 (Z2.mk 9 i ys),Y8 (Z2.mk 1 0 [e1,Z2.mk 9 i zs])] (YB [Z2.mk 9 i ys,Z2.mk 1 0 [e1,Z2.mk 9 i zs]]) (XX [Z2.mk 9 i ys,Z2.mk 1 0 [e1,Z2.mk 9 i zs]]).symm 2 3 fun v14=>Yz 2 2 [] [(61,XI [Z2.mk 9 i ys,Z2.mk 1 0 [e1,Z2.mk 9 i zs]])] (Z8 11 (Yu 11 [] [] [] (W0 1 0 [Z2.mk 9 i ys,Z2.mk 1 0 [e1,Z2.mk 9 i zs]]) (Z8 13 (YP 13 2 [] [] b9 (X5 (Z2.mk 1 0 [Z2.mk 9 i ys,Z2.mk 1 0 [e1,Z2.mk 9 i zs]])) (de (ZV ⟨e1,p21,b9,(by assumption),rfl,rfl⟩ (wk [0,2,2,4,4,4,4,4,4] fl))))))))))))
    refine dA 12 [0,3,1] [b4,b1,b3] [.i 0,.i 0,nl] fun b10=>Z8 6 (dc 6 [7,7] [1,2] [b4,b3] (Kf rd bs p g gb rs (f.params++[3,0,3]) 0 4 (ZM:=ob) (hv:=(by first|omega|(simp only [YF,YR,Xx];omega)))) ?_)
    rintro _ _ ⟨e2,p22,rfl,rfl,Yp⟩
    have Xp:=Yp.1
    have Ki:=Yp.2
    try rw [YF] at Xp
    rw [hbv.2.1] at Xp
    exact Z8 8 (WP 8 [4] [b3] [Y8 e2,Y8 (Z2.mk 9 i zs)] (YB [e2,Z2.mk 9 i zs]) (XX [e2,Z2.mk 9 i zs]).symm 2 3 fun v15=>Yz 4 4 [] [(59,XI [e2,Z2.mk 9 i zs])] (Z8 9 (Yu 9 [] [4] [b3] (W0 1 0 [e2,Z2.mk 9 i zs]) (Z8 10 (WP 10 [] [] [Y8 (Z2.mk 9 i ys),Y8 (Z2.mk 1 0 [e2,Z2.mk 9 i zs])] (YB [Z2.mk 9 i ys,Z2.mk 1 0 [e2,Z2.mk 9 i zs]]) (XX [Z2.mk 9 i ys,Z2.mk 1 0 [e2,Z2.mk 9 i zs]]).symm 2 3 fun v16=>Yz 2 2 [] [(61,XI [Z2.mk 9 i ys,Z2.mk 1 0 [e2,Z2.mk 9 i zs]])] (Z8 11 (Yu 11 [] [] [] (W0 1 0 [Z2.mk 9 i ys,Z2.mk 1 0 [e2,Z2.mk 9 i zs]]) (Z8 13 (YP 13 4 [] [] b10 (X5 (Z2.mk 1 0 [Z2.mk 9 i ys,Z2.mk 1 0 [e2,Z2.mk 9 i zs]])) (de (ZV ⟨e2,p22,b10,(by assumption),rfl,rfl⟩ (wk [0,2,2,4,4,4,4,4,4] fl))))))))))))
   refine dA 12 [0,3,1] [b4,b1,b3] [.i 0,.i 0,nl] fun b11=>Z8 5 (dc 5 [] [1,4,2] [b4,b1,b3] (Ku f.params [3,0,3]) ?_)
   rintro _ _ ⟨v17,rfl,rfl⟩
   refine Yz 6 6 [] [(56,Z6 (f.params++[3,0,3]))] (Z8 6 (dc 6 [7,7] [1,2] [b4,b3] (Kf rd bs p g gb rs (f.params++[3,0,3]) 0 4 (ZM:=ob) (hv:=(by first|omega|(simp only [YF,YR,Xx];omega)))) ?_))
   rintro _ _ ⟨e3,p23,rfl,rfl,YV⟩
   have Xp:=YV.1
   have Ki:=YV.2
   try rw [YF] at Xp
   rw [hbv.2.1] at Xp
   exact Z8 8 (WP 8 [4] [b3] [Y8 e3,Y8 (Z2.mk 9 i zs)] (YB [e3,Z2.mk 9 i zs]) (XX [e3,Z2.mk 9 i zs]).symm 2 3 fun v18=>Yz 4 4 [] [(59,XI [e3,Z2.mk 9 i zs])] (Z8 9 (Yu 9 [] [4] [b3] (W0 1 0 [e3,Z2.mk 9 i zs]) (Z8 10 (WP 10 [] [] [Y8 (Z2.mk 9 i ys),Y8 (Z2.mk 1 0 [e3,Z2.mk 9 i zs])] (YB [Z2.mk 9 i ys,Z2.mk 1 0 [e3,Z2.mk 9 i zs]]) (XX [Z2.mk 9 i ys,Z2.mk 1 0 [e3,Z2.mk 9 i zs]]).symm 2 3 fun v19=>Yz 2 2 [] [(61,XI [Z2.mk 9 i ys,Z2.mk 1 0 [e3,Z2.mk 9 i zs]])] (Z8 11 (Yu 11 [] [] [] (W0 1 0 [Z2.mk 9 i ys,Z2.mk 1 0 [e3,Z2.mk 9 i zs]]) (Z8 13 (YP 13 5 [] [] b11 (X5 (Z2.mk 1 0 [Z2.mk 9 i ys,Z2.mk 1 0 [e3,Z2.mk 9 i zs]])) (de (ZV ⟨e3,p23,b11,(by assumption),rfl,rfl⟩ (wk [0,2,2,4,4,4,4,4,4] fl))))))))))))
  refine dA 12 [0,3,1] [b4,b1,b3] [.i 0,.i 0,nl] fun b12=>Z8 4 (dL 4 [1,4,2] [b4,b1,b3] (Z7 [3,0,3]) 3 1 fun v20=>Yz 7 7 [] [(55,Z6 [3,0,3])] (Z8 5 (dc 5 [] [1,4,2] [b4,b1,b3] (Ku f.params [3,0,3]) ?_)))
  rintro _ _ ⟨v21,rfl,rfl⟩
  refine Yz 6 6 [] [(56,Z6 (f.params++[3,0,3]))] (Z8 6 (dc 6 [7,7] [1,2] [b4,b3] (Kf rd bs p g gb rs (f.params++[3,0,3]) 0 4 (ZM:=ob) (hv:=(by first|omega|(simp only [YF,YR,Xx];omega)))) ?_))
  rintro _ _ ⟨e4,p24,rfl,rfl,X6⟩
  have Xp:=X6.1
  have Ki:=X6.2
  try rw [YF] at Xp
  rw [hbv.2.1] at Xp
  exact Z8 8 (WP 8 [4] [b3] [Y8 e4,Y8 (Z2.mk 9 i zs)] (YB [e4,Z2.mk 9 i zs]) (XX [e4,Z2.mk 9 i zs]).symm 2 3 fun v22=>Yz 4 4 [] [(59,XI [e4,Z2.mk 9 i zs])] (Z8 9 (Yu 9 [] [4] [b3] (W0 1 0 [e4,Z2.mk 9 i zs]) (Z8 10 (WP 10 [] [] [Y8 (Z2.mk 9 i ys),Y8 (Z2.mk 1 0 [e4,Z2.mk 9 i zs])] (YB [Z2.mk 9 i ys,Z2.mk 1 0 [e4,Z2.mk 9 i zs]]) (XX [Z2.mk 9 i ys,Z2.mk 1 0 [e4,Z2.mk 9 i zs]]).symm 2 3 fun v23=>Yz 2 2 [] [(61,XI [Z2.mk 9 i ys,Z2.mk 1 0 [e4,Z2.mk 9 i zs]])] (Z8 11 (Yu 11 [] [] [] (W0 1 0 [Z2.mk 9 i ys,Z2.mk 1 0 [e4,Z2.mk 9 i zs]]) (Z8 13 (YP 13 6 [] [] b12 (X5 (Z2.mk 1 0 [Z2.mk 9 i ys,Z2.mk 1 0 [e4,Z2.mk 9 i zs]])) (de (ZV ⟨e4,p24,b12,(by assumption),rfl,rfl⟩ (wk [0,2,2,4,4,4,4,4,4] fl))))))))))))
 rintro F h ⟨e1,p21,b5,Y9,rfl,rfl⟩
 have Xp:=Y9.1
 have Ki:=Y9.2
 try rw [YF] at Xp
 rw [hbv.2.1] at Xp
 refine Yf 3 [6] (Zl (XQ gb g.funcs.length 4 i.toNat 5 i) (Z0 1 (VV (WQ 2 gb 4 4 5 (i.toNat * 5+1) (Za (Xz rs)) [.i f.result] 3 (.i f.result) (UT Wv hf 1 rfl (V8 rfl))) (Z1 (W5 (fun fz gz F h=>∃(eQ:Z2) (p6:Nat),(GE g (f.params.length+3) 52 eQ)/\(p<=p6/\p6<=p+650)/\F=sF [0,2,4,6,7,14] fz []/\h=[.obj b5 (X5 eQ),YC rd bs p6,Zk gz 2,Zk gz 5,Zk gz 6]) ?_ ?_)))))
 ·refine ac (f.result==3) Zq (fun Ze=>?_) (fun Ze=>?_)
  ·refine aE 13 (ZQ 8 13 [0,1,2,3,7] [4,6] (da 8 (((f.params.length+2:Nat):Int)) (((f.params.length:Int))+(2)) (Z8 4 (dL 4 [6,4] [b1,b3] (Z7 [3,0,3]) 3 1 fun v24=>Yz 6 6 [] [(74,Z6 [3,0,3])] (Z8 5 (dc 5 [] [6,4] [b1,b3] (Ku f.params [3,0,3]) ?_))))))
   rintro _ _ ⟨v25,rfl,rfl⟩
   refine Yz 5 5 [] [(75,Z6 (f.params++[3,0,3]))] (Z8 6 (dc 6 [3,3] [2] [b3] (Kf rd bs p21 g gb rs (f.params++[3,0,3]) 0 4 (ZM:=ob) (hv:=(by first|omega|(simp only [YF,YR,Xx];omega)))) ?_))
   rintro _ _ ⟨e5,p25,rfl,rfl,Xq⟩
   have Xp:=Xq.1
   have Ki:=Xq.2
   try rw [YF] at Xp
   rw [hbv.2.1] at Xp
   exact Z8 9 (Yu 9 [] [4] [b3] (QA ((f.params.length+2:Nat):Int)) (Z8 10 (WP 10 [] [] [Y8 (Z2.mk 9 i ys),Y8 e5,Y8 (Z2.mk 12 ((f.params.length+2:Nat):Int) [])] (YB [Z2.mk 9 i ys,e5,(Z2.mk 12 ((f.params.length+2:Nat):Int) [])]) (XX [Z2.mk 9 i ys,e5,(Z2.mk 12 ((f.params.length+2:Nat):Int) [])]).symm 3 3 fun v26=>Yz 2 2 [] [(80,XI [Z2.mk 9 i ys,e5,(Z2.mk 12 ((f.params.length+2:Nat):Int) [])])] (Z8 11 (Yu 11 [] [] [] (W0 6 3 [Z2.mk 9 i ys,e5,(Z2.mk 12 ((f.params.length+2:Nat):Int) [])]) (Z8 12 (YP 12 5 [] [] b5 (X5 (Z2.mk 6 3 [Z2.mk 9 i ys,e5,(Z2.mk 12 ((f.params.length+2:Nat):Int) [])])) (de (ZV ⟨(Z2.mk 6 3 [Z2.mk 9 i ys,e5,(Z2.mk 12 ((f.params.length+2:Nat):Int) [])]),p25,(GE.three (s1:=10) (s2:=30) (s3:=1) om om (GE.node (L:=f.params.length) (s:=1) (q:=10) om (fun _=>by omega) om YS om om om) Xp (GE.var om om om) om),ob,rfl,rfl⟩ (wk [0,1,1,5,5] fl))))))))))
  exact ak (ZV ⟨(Z2.mk 1 0 [Z2.mk 9 i ys,Z2.mk 1 0 [e1,Z2.mk 9 i zs]]),p21,(GE.two (s1:=10) (s2:=41) om om (GE.node (L:=f.params.length) (s:=1) (q:=10) om (fun _=>by omega) om YS om om om) (GE.two (s1:=30) (s2:=10) om om Xp (GE.node (L:=f.params.length) (s:=1) (q:=10) om (fun _=>by omega) om WE om om om) om) om),ob,rfl,rfl⟩ (wk [0,0,0,2,2] fl))
 rintro F h ⟨eQ,p6,Ua,B0,rfl,rfl⟩
 refine aD 15 (ZQ 9 15 [1,2,3,4,5,6] [4,4] (dx 7 (XQ gb g.funcs.length 4 i.toNat 5 i) (Zm 7 8 [8] (U5 9 (WQ 2 gb 4 4 5 (i.toNat * 5+1) (Za (Xz rs)) [.i f.result] 3 (.i f.result) (UT Wv hf 1 rfl (V8 rfl))) (ZQ 5 6 [11] [0] (Z8 0 (Yu 0 [] [0,2,4,4] [b5,gb,b1,b1] (QA 0) (Z8 10 (dc 10 [1,1] [0] [b5] (Kf rd bs p6 g gb rs f.params f.result 4 (ZM:=ob) (hv:=(by first|omega|(simp only [YF,YR,Xx];omega)))) ?_)))))))))
 rintro _ _ ⟨e6,p26,rfl,rfl,W7⟩
 have Xp:=W7.1
 have Ki:=W7.2
 try rw [YF] at Xp
 rw [hbv.2.1] at Xp
 exact Z8 12 (WP 12 [] [] [Y8 (Z2.mk 12 0 []),Y8 e6,Y8 eQ] (YB [Z2.mk 12 0 [],e6,eQ]) (XX [Z2.mk 12 0 [],e6,eQ]).symm 3 3 fun v27=>Yz 2 2 [] [(94,XI [Z2.mk 12 0 [],e6,eQ])] (Z8 13 (Yu 13 [] [] [] (W0 8 3 [Z2.mk 12 0 [],e6,eQ]) (Z8 14 (YP 14 4 [] [] b2 (X5 (Z2.mk 8 3 [Z2.mk 12 0 [],e6,eQ])) (de (ZL (r3 [2,2] [Y8 (Z2.mk 8 3 [Z2.mk 12 0 [],e6,eQ])] [0] [(b2,b2)] ⟨(Z2.mk 8 3 [Z2.mk 12 0 [],e6,eQ]),p26,rfl,rfl,⟨GE.matchT hg (s1:=1) (s2:=30) (s3:=52) (GE.var om om om) Xp Ua om,by omega⟩⟩ (lr _)))))))))
theorem Z92 (rd:Nat) (bs:LI) (p:Nat) (g:Wh) (gb:Nat) (rs:List Func) (f:Func) (i:Int) (ZM:∀z∈bs,0<=z/\z<=255) (hp:p+1000<=1000000000:=by exact ob) (hg:GP g:=by exact ob) (Wv:g.funcs <+: rs:=by exact ob) (hi:0<=i:=by exact ob) (hf:g.funcs[i.toNat]? = some f:=by exact ob) (h0:0<f.params.length:=by exact ob):Zj 240 [.p rd 0,.agg (Wz g gb),.i i] [YC rd bs p,XY gb rs] (fun r h=>∃(e:Z2) (p2:Nat),r=Y8 e/\h=[YC rd bs p2,XY gb rs]/\GE g f.params.length 200 e/\p<=p2/\p2<=p+1000):=by
 obtain ⟨hil,_⟩:=Xj.1 hf
 have hgl:=hg.len
 have hso:=(hg.sigs f (ZY hf)).bd
 have hbv:=Eb
 refine ZC 75 Tryz.func240 (ar (iA (Wz g gb) fun b1=>iA [.i 0,.i 0,nl] fun b2=>ie (Zu 3 [1] (Zl (XQ gb g.funcs.length 4 i.toNat 5 i) (Z0 1 (VV (WQ 3 gb 4 4 5 (i.toNat * 5+0) (Za (Xz rs)) [Z6 f.params] 31 (Z6 f.params) (UT Wv hf 0 rfl (V8 rfl))) (Z1 (ar (Zv [] (QA 0) (Zv [] (AQ 1) (UV [Y8 (Z2.mk 12 0 []),Y8 (Z2.mk 0 1 [])] (YB [Z2.mk 12 0 [],Z2.mk 0 1 []]) (XX [Z2.mk 12 0 [],Z2.mk 0 1 []]).symm 2 3 fun v1=>ZT 0 [(20,XI [Z2.mk 12 0 [],Z2.mk 0 1 []])] (Zv [] (W0 2 0 [Z2.mk 12 0 [],Z2.mk 0 1 []]) (UV [Y8 (Z2.mk 2 0 [Z2.mk 12 0 [],Z2.mk 0 1 []])] (YB [Z2.mk 2 0 [Z2.mk 12 0 [],Z2.mk 0 1 []]]) (XX [Z2.mk 2 0 [Z2.mk 12 0 [],Z2.mk 0 1 []]]).symm 1 3 fun v2=>?_)))))))))))))
 refine Z1 (Yd (ab 0 (ZW (fun fz gz m F h=>∃(k:Nat) (ys:List Z2) (u:Value) (pq:Nat),(1<=k/\k<=f.params.length)/\(ys.length=k)/\(∀e∈ys,GE g f.params.length 4 e)/\(p<=pq/\pq<=p+30*k)/\F=sF [0,2,4,6,7] fz [(8,QU ys u),(9,.i k)]/\h=[Zk gz 2,Zk gz 3,YC rd bs pq,Zk gz 5,.tail u 3]/\m=f.params.length-k) _ _ _ ⟨1,[Z2.mk 2 0 [Z2.mk 12 0 [],Z2.mk 0 1 []]],v2,p,ob,ob,(Ih (GE.two (s1:=1) (s2:=1) om om (GE.var om om om) (GE.int om om) om)),ob,rfl,rfl,rfl⟩ (wk [2,2,2,2,0] (fr (fc (x:=.i 1) li fl))) ?_)))
 rintro m F h ⟨k,ys,u,pq,Yg,Zh,Zw,YS,rfl,rfl,rfl⟩
 refine YU 2 (iw (Yo f.params) (ZZ ((k:Int)<(f.params.length:Int)) (fun Zb=>?_) (fun Zb=>?_)))
 ·refine ak (aq (ab 1 (aE 12 (ZQ 6 12 [0,1,2,3,4,5] [1] ?_))))
  obtain ⟨x1,Z3⟩:=Zt f.params k om
  refine dx 6 (Zi none (k:Int) 1 (Y5 Z3)) (Zm 4 5 [7] (Z8 8 (dc 8 [2,2] [] [] (Dr rd bs pq g gb rs f.params x1 (ZM:=ob)) ?_)))
  rintro _ _ ⟨e1,p21,rfl,rfl,Y9⟩
  have hle:=Y9.1
  exact Z8 9 (WP 9 [] [] [Y8 e1] (YB [e1]) (XX [e1]).symm 1 3 fun v3=>Yz 2 2 [] [(38,XI [e1])] (Z8 10 (dp 10 5 [] [] (YB (ys++[e1])) (YB ys) (YB [e1]) u none 3 (Tm _) (Tm _) (JZ _) (by simp<;>omega) (by simp [JY,YB]) fun v4=>Zm 0 1 [11] (de (az (Z0 1 (ZG k (Z1 (ZF ⟨k+1,(ys++[e1]),v4,p21,ob,ob,(XJ Zw hle),ob,rfl,rfl,rfl⟩ (wk [4,4,2,2,0] (fr (ZI k fl))))))))))))
 refine ax 0 (ar (ZT 2 [(41,XI ys)] (Zv [] (W0 9 i ys) (iA [.i 0,.i 0,nl] fun b3=>?_))))
 refine Zx 0 b3 (X5 (Z2.mk 9 i ys)) (ie (Yf 3 [2] (Zl (XQ gb g.funcs.length 4 i.toNat 5 i) (Z0 1 (VV (WQ 4 gb 4 4 5 (i.toNat * 5+1) (Za (Xz rs)) [.i f.result] 3 (.i f.result) (UT Wv hf 1 rfl (V8 rfl))) (Z1 (W5 (fun fz gz F h=>∃(eQ:Z2) (p6:Nat),(GE g f.params.length 34 eQ)/\(p<=p6/\p6<=p+350)/\F=sF [0,2,4,6,7,10] fz []/\h=[.obj b3 (X5 eQ),Zk gz 1,Zk gz 2,YC rd bs p6,Zk gz 4]) ?_ ?_)))))))
 ·refine ac (f.result==1) Zq (fun Ze=>?_) (fun Ze=>?_)
  ·refine aE 8 (ZQ 4 8 [0,1,2,4] [2,0] (Z8 3 (dc 3 [3,3] [0] [b3] (Kf rd bs pq g gb rs f.params 0 3 (ZM:=ob)) ?_)))
   rintro _ _ ⟨e2,p22,rfl,rfl,Yp⟩
   have Xp:=Yp.1
   have Ki:=Yp.2
   try rw [YF] at Xp
   first|rw [hbv.2.1] at Xp|rw [hbv.1] at Xp
   exact Z8 5 (WP 5 [] [] [Y8 e2,Y8 (Z2.mk 9 i ys)] (YB [e2,Z2.mk 9 i ys]) (XX [e2,Z2.mk 9 i ys]).symm 2 3 fun v5=>Yz 2 2 [] [(55,XI [e2,Z2.mk 9 i ys])] (Z8 6 (Yu 6 [] [] [] (W0 6 1 [e2,Z2.mk 9 i ys]) (Z8 7 (YP 7 3 [] [] b3 (X5 (Z2.mk 6 1 [e2,Z2.mk 9 i ys])) (de (ZV ⟨(Z2.mk 6 1 [e2,Z2.mk 9 i ys]),p22,(GE.two (s1:=20) (s2:=13) om om Xp (GE.node (L:=f.params.length) (s:=4) (q:=13) om (fun _=>by omega) om Zw om om om) om),ob,rfl,rfl⟩ (wk [0,3,3,1,1] fl))))))))
  exact ak (ZV ⟨(Z2.mk 9 i ys),pq,(GE.le (GE.node (L:=f.params.length) (s:=4) (q:=13) om (fun _=>by omega) om Zw om om om) om),ob,rfl,rfl⟩ (ZE 5 fl))
 rintro F h ⟨eQ,p6,Ua,B0,rfl,rfl⟩
 refine ar (Zv [] (AQ 0) (Zv [] (QA 0) (UV [Y8 (Z2.mk 0 0 []),Y8 (Z2.mk 12 0 [])] (YB [Z2.mk 0 0 [],Z2.mk 12 0 []]) (XX [Z2.mk 0 0 [],Z2.mk 12 0 []]).symm 2 3 fun v6=>ZT 0 [(59,XI [Z2.mk 0 0 [],Z2.mk 12 0 []])] (Zv [] (W0 4 0 [Z2.mk 0 0 [],Z2.mk 12 0 []]) (iA [.i 0,.i 0,nl] fun b4=>Zx 0 b4 (X5 (Z2.mk 4 0 [Z2.mk 0 0 [],Z2.mk 12 0 []])) (ie (aD 15 (ZQ 7 15 [0,1,2,3,4,5,6,7] [0,2,4,4] (dx 8 (XQ gb g.funcs.length 4 i.toNat 5 i) (Zm 5 6 [9] (U5 10 (WQ 6 gb 4 4 5 (i.toNat * 5+1) (Za (Xz rs)) [.i f.result] 3 (.i f.result) (UT Wv hf 1 rfl (V8 rfl))) (Z8 11 (dc 11 [5,5] [1,0] [b3,b4] (Kf rd bs p6 g gb rs f.params f.result 4 (ZM:=ob)) ?_)))))))))))))
 rintro _ _ ⟨e3,p23,rfl,rfl,YV⟩
 have Xp:=YV.1
 have Ki:=YV.2
 try rw [YF] at Xp
 first|rw [hbv.2.1] at Xp|rw [hbv.1] at Xp
 exact Z8 12 (WP 12 [] [] [Y8 (Z2.mk 4 0 [Z2.mk 0 0 [],Z2.mk 12 0 []]),Y8 eQ,Y8 e3] (YB [Z2.mk 4 0 [Z2.mk 0 0 [],Z2.mk 12 0 []],eQ,e3]) (XX [Z2.mk 4 0 [Z2.mk 0 0 [],Z2.mk 12 0 []],eQ,e3]).symm 3 3 fun v7=>Yz 2 2 [] [(73,XI [Z2.mk 4 0 [Z2.mk 0 0 [],Z2.mk 12 0 []],eQ,e3])] (Z8 13 (Yu 13 [] [] [] (W0 7 0 [Z2.mk 4 0 [Z2.mk 0 0 [],Z2.mk 12 0 []],eQ,e3]) (Z8 14 (YP 14 6 [] [] b2 (X5 (Z2.mk 7 0 [Z2.mk 4 0 [Z2.mk 0 0 [],Z2.mk 12 0 []],eQ,e3])) (de (ZL (r3 [2,2] [Y8 (Z2.mk 7 0 [Z2.mk 4 0 [Z2.mk 0 0 [],Z2.mk 12 0 []],eQ,e3])] [0] [(b2,b2)] ⟨(Z2.mk 7 0 [Z2.mk 4 0 [Z2.mk 0 0 [],Z2.mk 12 0 []],eQ,e3]),p23,rfl,rfl,⟨GE.three (s1:=3) (s2:=34) (s3:=30) om om (GE.two (s1:=1) (s2:=1) om om (GE.int om om) (GE.var om om om) om) Ua Xp om,by omega⟩⟩ (lr _)))))))))
theorem Z9z (xs:LI) (t:Int) (hl:xs.length<=1000:=by exact ob):Zj 235 [Z6 xs,.i t] [] (fun r h=>∃(w:Int),r=.i w/\h=[]/\-1<=w/\w<xs.length):=by
 refine ZC 19 Tryz.func235 (ZJ (Yd (ab 0 (ZW (fun fz gz m F h=>∃(k:Nat),(k<=xs.length)/\F=sF [0,1] fz [(5,.i k)]/\h=gz/\m=xs.length-k) _ _ _ ⟨0,ob,rfl,rfl,rfl⟩ (wk [] (Y1 fl)) ?_))))
 rintro m F h ⟨k,Yg,rfl,rfl,rfl⟩
 refine YU 2 (iw (Yo xs) (ZZ ((k:Int)<(xs.length:Int)) (fun Zb=>?_) (fun Zb=>?_)))
 ·refine ak (aq (ab 1 (Yb 2 ?_)))
  obtain ⟨x1,Z3⟩:=Zt xs k om
  refine Zl (Zi none (k:Int) 1 (Y5 Z3)) (YJ (x1==t) Zq (fun Ze=>?_) (fun Ze=>?_))
  ·exact ar (Zr (r1 [] ⟨(k:Int),rfl,rfl,ob⟩))
  exact ak (az (Z0 1 (ZG k (Z1 (ZF ⟨k+1,ob,rfl,rfl,rfl⟩ (wk [] (ZI k fl)))))))
 exact ax 0 (ar (Zr (r1 [] ⟨(-1),rfl,rfl,ob⟩)))
theorem Z8k (rd:Nat) (bs:LI) (p:Nat) (g:Wh) (gb:Nat) (rs:List Func) (f:Func) (i:Int) (ZM:∀z∈bs,0<=z/\z<=255) (hp:p+90000<=1000000000) (hg:GP g) (Wv:g.funcs <+: rs) (hi:0<=i) (hf:g.funcs[i.toNat]? = some f) (h0:i=0->f.params.length=0):Zj 200 [.p rd 0,.agg (Wz g gb),.i i] [YC rd bs p,XY gb rs] (fun r h=>∃(e:Z2) (p2:Nat),r=Y8 e/\h=[YC rd bs p2,XY gb rs]/\GE g f.params.length 30 e/\p<=p2/\p2<=p+90000):=by
 obtain ⟨hil,_⟩:=Xj.1 hf
 have hgl:=hg.len
 have hso:=(hg.sigs f (ZY hf)).bd
 have hbv:=Eb
 refine ZC 121 Tryz.func200 (ar (iA (Wz g gb) fun b1=>iA [.i 0,.i 0,nl] fun b2=>ie (Zu 3 [1] (Zl (XQ gb g.funcs.length 4 i.toNat 5 i) (Z0 1 (VV (WQ 3 gb 4 4 5 (i.toNat * 5+0) (Za (Xz rs)) [Z6 f.params] 31 (Z6 f.params) (UT Wv hf 0 rfl (V8 rfl))) (Z1 (Zu 3 [1] (Zl (XQ gb g.funcs.length 4 i.toNat 5 i) (Z0 1 (VV (WQ 3 gb 4 4 5 (i.toNat * 5+1) (Za (Xz rs)) [.i f.result] 3 (.i f.result) (UT Wv hf 1 rfl (V8 rfl))) (Z1 (Yb 1 (ic [] (Z9z f.params 1) ?_))))))))))))))
 rintro _ _ ⟨w1,rfl,rfl,Y9⟩
 have hpl:=Y9
 refine Z1 (ar (Zv [] (AQ 0) (iA [.i 0,.i 0,nl] fun b3=>Zx 0 b3 (X5 (Z2.mk 0 0 [])) (ie (Yb 1 (ic [3] (Wg rd bs p 4 (ZM:=ob)) ?_))))))
 rintro _ _ ⟨k1,rfl,rfl,Yp⟩
 have qhp2:=Yp.lt om
 refine Z1 (aq (aq (W5 (fun fz gz F h=>∃(wb:Bool),(wb=true->i=0)/\F=sF [0,2,4,6,7,8,9,10,11] fz [(34,.b wb)]/\h=gz) ?_ ?_)))
 ·refine az (Z0 3 (ib (b:=(decide (k1<3))) 31 (fun Zc=>?_) (fun Zc=>?_)))
  ·have YV:k1<3:=(dq).1 Zc
   exact Z1 (ZV ⟨(i==0),(by first|exact (fun h=>Bool.noConfusion h)|(intro h;omega)|(intro h;simp at h;omega)),rfl,rfl⟩ (ZE 5 fl))
  have X6:¬(k1<3):=Ya dq Zc
  exact Z1 (ZV ⟨false,(by first|exact (fun h=>Bool.noConfusion h)|(intro h;omega)|(intro h;simp at h;omega)),rfl,rfl⟩ (ZE 5 fl))
 rintro F h ⟨wb,kR6_0,rfl,rfl⟩
 refine W5 (fun fz gz F h=>∃(eQ:Z2) (p6:Nat),(GE g f.params.length 200 eQ)/\(p<=p6/\p6<=p+42000)/\F=sF [0,4,6,7,8,10] fz []/\h=[YC rd bs p6,.obj b3 (X5 eQ),Zk gz 2,Zk gz 3,Zk gz 4]) ?_ ?_
 ·refine ac wb Iff.rfl (fun Zb=>?_) (fun Zb=>?_)
  ·refine az (ZO 2 [3] (ic [0,3] (Z9m rd bs (p+1) g gb rs (ZM:=ob)) ?_))
   rintro _ _ ⟨e1,p21,rfl,rfl,Xq⟩
   have hbd:=Xq.1
   have hbp:=Xq.2
   exact Zx 2 b3 (X5 e1) (ie (ZV ⟨e1,p21,(by rw [h0 (kR6_0 (by assumption))];exact hbd),ob,rfl,rfl⟩ (wk [1,0,1,1,0] fl)))
  refine aq (W5 (fun fz gz F h=>∃(wb:Bool),(wb=true->0<=w1)/\F=sF [0,2,4,6,7,8,9,10,11] fz [(51,.b wb)]/\h=gz) ?_ ?_)
  ·refine az (Z0 3 (ib (b:=(decide (k1<3))) 40 (fun ZA=>?_) (fun ZA=>?_)))
   ·have W7:k1<3:=(dq).1 ZA
    refine Z0 4 (ib (b:=(decide (w1>=0))) 44 (fun Yt=>?_) (fun Yt=>?_))
    ·have WJ:w1>=0:=(dq).1 Yt
     refine Z0 3 (ib (b:=(f.result==0)) 47 (fun X8=>?_) (fun X8=>?_))
     ·have Vl:f.result=0:=(Zq).1 X8
      exact Z1 (ZV ⟨true,(by first|exact (fun h=>Bool.noConfusion h)|(intro h;omega)|(intro h;simp at h;omega)),rfl,rfl⟩ (ZE 5 fl))
     have VL:¬(f.result=0):=Ya Zq X8
     exact Z1 (ZV ⟨(f.result==1),(by first|exact (fun h=>Bool.noConfusion h)|(intro h;omega)|(intro h;simp at h;omega)),rfl,rfl⟩ (ZE 5 fl))
    have Ta:¬(w1>=0):=Ya dq Yt
    exact Z1 (ZV ⟨false,(by first|exact (fun h=>Bool.noConfusion h)|(intro h;omega)|(intro h;simp at h;omega)),rfl,rfl⟩ (ZE 5 fl))
   have Tb:¬(k1<3):=Ya dq ZA
   exact Z1 (ZV ⟨false,(by first|exact (fun h=>Bool.noConfusion h)|(intro h;omega)|(intro h;simp at h;omega)),rfl,rfl⟩ (ZE 5 fl))
  rintro F h ⟨wb,kR8_0,rfl,rfl⟩
  refine ac wb Iff.rfl (fun Ze=>?_) (fun Ze=>?_)
  ·refine az (ZO 4 [3] (ic [0,3] (Z9u rd bs (p+1) g gb rs _ i w1 (ZM:=ob) (hw:=(by have:=kR8_0 (by assumption);omega))) ?_))
   rintro _ _ ⟨e2,p22,rfl,rfl,UU⟩
   have hbd:=UU.1
   have hbp:=UU.2
   exact Zx 2 b3 (X5 e2) (ie (ZV ⟨e2,p22,(GE.le hbd om),ob,rfl,rfl⟩ (wk [1,0,1,1,0] fl)))
  refine aq (W5 (fun fz gz F h=>∃(wb:Bool),(wb=true->0<f.params.length)/\F=sF [0,2,4,6,7,8,10,11] fz [(77,.b wb)]/\h=gz) ?_ ?_)
  ·refine az (Z0 3 (ib (b:=(decide (k1<3))) 59 (fun W4=>?_) (fun W4=>?_)))
   ·have Qd:k1<3:=(dq).1 W4
    refine Z0 1 (iw (Yo f.params) (Z0 3 (ib (b:=(decide ((f.params.length:Int)>0))) 64 (fun Wk=>?_) (fun Wk=>?_))))
    ·have QC:(f.params.length:Int)>0:=(dq).1 Wk
     refine Z0 1 ?_
     obtain ⟨x1,Z3⟩:=Zt f.params 0 om
     refine Zl (Zi none 0 1 (Y5 Z3)) (Z0 4 (ib (b:=(x1==3)) 70 (fun Vy=>?_) (fun Vy=>?_)))
     ·have J9:x1=3:=(Zq).1 Vy
      refine Z0 3 (ib (b:=(f.result==0)) 73 (fun Vj=>?_) (fun Vj=>?_))
      ·have KJ:f.result=0:=(Zq).1 Vj
       exact Z1 (ZV ⟨true,(by first|exact (fun h=>Bool.noConfusion h)|(intro h;omega)|(intro h;simp at h;omega)),rfl,rfl⟩ (ZE 5 fl))
      have BB:¬(f.result=0):=Ya Zq Vj
      exact Z1 (ZV ⟨(f.result==3),(by first|exact (fun h=>Bool.noConfusion h)|(intro h;omega)|(intro h;simp at h;omega)),rfl,rfl⟩ (ZE 5 fl))
     have JA:¬(x1=3):=Ya Zq Vy
     exact Z1 (ZV ⟨false,(by first|exact (fun h=>Bool.noConfusion h)|(intro h;omega)|(intro h;simp at h;omega)),rfl,rfl⟩ (ZE 5 fl))
    have PL:¬((f.params.length:Int)>0):=Ya dq Wk
    exact Z1 (ZV ⟨false,(by first|exact (fun h=>Bool.noConfusion h)|(intro h;omega)|(intro h;simp at h;omega)),rfl,rfl⟩ (ZE 5 fl))
   have PM:¬(k1<3):=Ya dq W4
   exact Z1 (ZV ⟨false,(by first|exact (fun h=>Bool.noConfusion h)|(intro h;omega)|(intro h;simp at h;omega)),rfl,rfl⟩ (ZE 5 fl))
  rintro F h ⟨wb,kR10_0,rfl,rfl⟩
  refine ac wb Iff.rfl (fun ZB=>?_) (fun ZB=>?_)
  ·refine az (ZO 3 [3] (ic [0,3] (Z9v rd bs (p+1) g gb rs _ i (ZM:=ob) (h0:=(kR10_0 (by assumption)))) ?_))
   rintro _ _ ⟨e3,p23,rfl,rfl,Lw⟩
   have hbd:=Lw.1
   have hbp:=Lw.2
   exact Zx 2 b3 (X5 e3) (ie (ZV ⟨e3,p23,(GE.le hbd om),ob,rfl,rfl⟩ (wk [1,0,1,1,0] fl)))
  refine aq (W5 (fun fz gz F h=>∃(wb:Bool),(wb=true->0<f.params.length)/\F=sF [0,2,4,6,7,8,10] fz [(102,.b wb)]/\h=gz) ?_ ?_)
  ·refine az (Z0 3 (ib (b:=(decide (k1<3))) 84 (fun Vk=>?_) (fun Vk=>?_)))
   ·have Zap:k1<3:=(dq).1 Vk
    refine Z0 1 (iw (Yo f.params) (Z0 3 (ib (b:=(decide ((f.params.length:Int)>0))) 89 (fun QQ=>?_) (fun QQ=>?_))))
    ·have Zaq:(f.params.length:Int)>0:=(dq).1 QQ
     refine Z0 1 ?_
     obtain ⟨x2,Zo⟩:=Zt f.params 0 om
     refine Zl (Zi none 0 1 (Y5 Zo)) (Z0 4 (ib (b:=(x2==0)) 95 (fun AT=>?_) (fun AT=>?_)))
     ·have Zar:x2=0:=(Zq).1 AT
      refine Z0 3 (ib (b:=(f.result==0)) 98 (fun AU=>?_) (fun AU=>?_))
      ·have Zas:f.result=0:=(Zq).1 AU
       exact Z1 (ZV ⟨true,(by first|exact (fun h=>Bool.noConfusion h)|(intro h;omega)|(intro h;simp at h;omega)),rfl,rfl⟩ (ZE 5 fl))
      have Zat:¬(f.result=0):=Ya Zq AU
      exact Z1 (ZV ⟨(f.result==1),(by first|exact (fun h=>Bool.noConfusion h)|(intro h;omega)|(intro h;simp at h;omega)),rfl,rfl⟩ (ZE 5 fl))
     have Zau:¬(x2=0):=Ya Zq AT
     exact Z1 (ZV ⟨false,(by first|exact (fun h=>Bool.noConfusion h)|(intro h;omega)|(intro h;simp at h;omega)),rfl,rfl⟩ (ZE 5 fl))
    have Zav:¬((f.params.length:Int)>0):=Ya dq QQ
    exact Z1 (ZV ⟨false,(by first|exact (fun h=>Bool.noConfusion h)|(intro h;omega)|(intro h;simp at h;omega)),rfl,rfl⟩ (ZE 5 fl))
   have Zaw:¬(k1<3):=Ya dq Vk
   exact Z1 (ZV ⟨false,(by first|exact (fun h=>Bool.noConfusion h)|(intro h;omega)|(intro h;simp at h;omega)),rfl,rfl⟩ (ZE 5 fl))
  rintro F h ⟨wb,kR12_0,rfl,rfl⟩
  refine ac wb Iff.rfl (fun Yk=>?_) (fun Yk=>?_)
  ·refine az (ZO 3 [3] (ic [0,3] (Z92 rd bs (p+1) g gb rs _ i (ZM:=ob) (h0:=(kR12_0 (by assumption)))) ?_))
   rintro _ _ ⟨e4,p24,rfl,rfl,Lx⟩
   have hbd:=Lx.1
   have hbp:=Lx.2
   exact Zx 2 b3 (X5 e4) (ie (ZV ⟨e4,p24,(GE.le hbd om),ob,rfl,rfl⟩ (wk [1,0,1,1,0] fl)))
  refine az (ZO 4 [3] (ic [0,3] (Pp rd bs (p+1) g gb rs f.params f.result 18 (ZM:=ob)) ?_))
  rintro _ _ ⟨e5,p25,rfl,rfl,Ly⟩
  have hbd:=Ly.1
  have hbp:=Ly.2
  exact Zx 2 b3 (X5 e5) (ie (ZV ⟨e5,p25,(GE.le hbd om),ob,rfl,rfl⟩ (wk [1,0,1,1,0] fl)))
 rintro F h ⟨eQ,p6,Ja,LH,rfl,rfl⟩
 refine Yf 1 [1] (ic [] (Pw eQ (hz:=(by have:=Ja.2;omega))) ?_)
 rintro _ _ ⟨w2,rfl,rfl,PN⟩
 have Lv:=PN
 have Xn:=Ja.2
 refine ZZ (w2<0) (fun Xo=>?_) (fun Xo=>?_)
 ·refine Zu 4 [3] (ic [0,3] (Pp rd bs p6 g gb rs f.params f.result 12 (ZM:=ob)) ?_)
  rintro _ _ ⟨e6,p26,rfl,rfl,GM⟩
  have hbd:=GM.1
  have hbp:=GM.2
  exact Zx 3 b2 (X5 e6) (ie (ZL (r3 [1,1] [Y8 e6] [0] [(b2,b2)] ⟨e6,p26,rfl,rfl,⟨hbd,by omega⟩⟩ (lr _))))
 exact ak (Zu 1 [1] (Zx 2 b2 (X5 eQ) (ie (ZL (r3 [1,3] [Y8 eQ] [0] [(b2,b2)] ⟨eQ,p6,rfl,rfl,⟨⟨Ja.1,by omega⟩,by omega⟩⟩ (lr _))))))
theorem Qb (ps:LI) (rt:Int) :Zj 199 [Z6 ps,.i rt] [] (Y7 (E9 (Func.mk ps rt (Z2.mk 0 0 [])))):=by
 exact ZC 8 Tryz.func199 (ar (iA [nl,.i 0,.i 0,.i 0,nl] fun b1=>ie (Yb 3 (Zx 0 b1 [Z6 ps,.i rt,.i 0,.i 0,nl] (ie (ZL (r3 [] [.agg [Z6 ps,.i rt,.i 0,.i 0,nl]] [0] [(b1,b1)] ⟨rfl,rfl⟩ (Zd.agg (.cons (Zd.sl _ (Yr Z7 ob)) (.cons li (.cons li (.cons li (.cons (Zd.sl _ rfl) .nil)))))))))))))
theorem Z9t (rd:Nat) (bs:LI) (p:Nat) (xs:LI) (ZM:∀z∈bs,0<=z/\z<=255) (hp:p+1<=1000000000:=by exact ob) (hx:0<xs.length/\xs.length<=1000000:=by exact ob) (hy:xs.all (fun x=>decide (0<=x))=true:=by exact ob):Zj 153 [.p rd 0,Z6 xs] [YC rd bs p] (fun r h=>∃(nn:Nat),r=.i nn/\h=[.obj rd [Ue bs,.i (p+1:Nat)]]/\(nn:Int)∈xs):=(U9 rd bs p xs ZM hp hx).mono fun r h ⟨z,hr,hh,hz⟩=>by
  have h0:0<=z:=of_decide_eq_true (JJ.1 hy z hz)
  exact ⟨z.toNat,by rw [hr,Int.toNat_of_nonneg h0],hh,by rw [Int.toNat_of_nonneg h0];exact hz⟩
theorem Z8l (rd:Nat) (bs:LI) (p:Nat) (g:Wh) (gb:Nat) (rs:List Func) (f:Func) (i:Int) (nl:Nat) (ZM:∀z∈bs,0<=z/\z<=255) (hp:p+90000<=1000000000:=by exact ob) (hg:GP g:=by exact ob) (Wv:g.funcs <+: rs:=by exact ob) (hi:0<=i:=by exact ob) (hf:g.funcs[i.toNat]? = some f:=by exact ob) (h0:i=0->f.params.length=0:=by exact ob) (hn:g.funcs.length=nl:=by exact ob):Zj 200 [.p rd 0,.agg [Ye g.decls,.ms gb 0 nl 4],.i i] [YC rd bs p,XY gb rs] (fun r h=>∃(e:Z2) (p2:Nat),r=Y8 e/\h=[YC rd bs p2,XY gb rs]/\GE g f.params.length 30 e/\p<=p2/\p2<=p+90000):=(by subst hn;exact Z8k rd bs p g gb rs f i ZM hp hg Wv hi hf h0)
theorem Z98 (rd:Nat) (bs:LI) (p:Nat) (ZM:∀z∈bs,0<=z/\z<=255) (hp:p+400000<=1000000000):Zj 145 [.p rd 0] [YC rd bs p] (fun r h=>∃(rs:List Func) (ds:List Zf) (m:Nat) (gb:Nat) (p2:Nat),r=.agg [Ye ds,.ms gb 0 m 4]/\h=[XY gb rs,YC rd bs p2]/\(GL ds m 0 rs/\GD ds/\1<=m/\m<=4)/\p<=p2/\p2<=p+400000):=by
 refine ZC 110 Tryz.func145 (ar (iA [nl,nl] fun b1=>ie (Yb 1 (ic [1] (Z96 rd bs p (ZM:=ob)) ?_))))
 rintro _ _ ⟨ds1,v1,rfl,rfl,Y9⟩
 have hgd:=Y9
 refine Z0 1 (iA [nl,nl] fun b2=>Zx 0 b2 [Ad ds1 v1,nl] (ie (ar (iL (Z7 [1]) 1 1 fun v2=>ZT 0 [(13,Z6 [1])] (Zv [] (Qb [1] 0) (iL (Z7 [1,1]) 2 1 fun v3=>ZT 0 [(15,Z6 [1,1])] (Zv [] (Qb [1,1] 1) (iL (Z7 [1]) 1 1 fun v4=>ZT 0 [(17,Z6 [1])] (Zv [] (Qb [1] 1) (iL (Z7 [1,0]) 2 1 fun v5=>ZT 0 [(19,Z6 [1,0])] (Zv [] (Qb [1,0] 1) (iL (Z7 [2,1]) 2 1 fun v6=>ZT 0 [(21,Z6 [2,1])] (Zv [] (Qb [2,1] 1) (iL (Z7 [1,1]) 2 1 fun v7=>ZT 0 [(23,Z6 [1,1])] (Zv [] (Qb [1,1] 0) (iL (Xz [Func.mk [1] 0 (Z2.mk 0 0 []),Func.mk [1,1] 1 (Z2.mk 0 0 []),Func.mk [1] 1 (Z2.mk 0 0 []),Func.mk [1,0] 1 (Z2.mk 0 0 []),Func.mk [2,1] 1 (Z2.mk 0 0 []),Func.mk [1,1] 0 (Z2.mk 0 0 [])]) 6 5 fun v8=>Z1 (ar (iL (Z7 [3]) 1 1 fun v9=>ZT 0 [(26,Z6 [3])] (Zv [] (Qb [3] 0) (iL (Z7 [0]) 1 1 fun v10=>ZT 0 [(28,Z6 [0])] (Zv [] (Qb [0] 1) (iL (Z7 [0,1]) 2 1 fun v11=>ZT 0 [(30,Z6 [0,1])] (Zv [] (Qb [0,1] 1) (iL (Z7 [3,0]) 2 1 fun v12=>ZT 0 [(32,Z6 [3,0])] (Zv [] (Qb [3,0] 3) (iL (Z7 [3]) 1 1 fun v13=>ZT 0 [(34,Z6 [3])] (Zv [] (Qb [3] 1) (iL (Z7 [1,3,0]) 3 1 fun v14=>ZT 0 [(36,Z6 [1,3,0])] (Zv [] (Qb [1,3,0] 0) (iL (Xz [Func.mk [3] 0 (Z2.mk 0 0 []),Func.mk [0] 1 (Z2.mk 0 0 []),Func.mk [0,1] 1 (Z2.mk 0 0 []),Func.mk [3,0] 3 (Z2.mk 0 0 []),Func.mk [3] 1 (Z2.mk 0 0 []),Func.mk [1,3,0] 0 (Z2.mk 0 0 [])]) 6 5 fun v15=>Z1 (ar (iL (Z7 [0]) 1 1 fun v16=>ZT 0 [(39,Z6 [0])] (Zv [] (Qb [0] 0) (iL (Z7 [0,0]) 2 1 fun v17=>ZT 0 [(41,Z6 [0,0])] (Zv [] (Qb [0,0] 0) (iL (Z7 [1,0]) 2 1 fun v18=>ZT 0 [(43,Z6 [1,0])] (Zv [] (Qb [1,0] 0) (iL (Z7 [0]) 1 1 fun v19=>ZT 0 [(45,Z6 [0])] (Zv [] (Qb [0] 1) (iL (Xz [Func.mk [0] 0 (Z2.mk 0 0 []),Func.mk [0,0] 0 (Z2.mk 0 0 []),Func.mk [1,0] 0 (Z2.mk 0 0 []),Func.mk [0] 1 (Z2.mk 0 0 [])]) 4 5 fun v20=>Z1 (aD 26 (Zm 23 26 [2,3,4] (dn 5 (.i (([Func.mk [1] 0 (Z2.mk 0 0 []),Func.mk [1,1] 1 (Z2.mk 0 0 []),Func.mk [1] 1 (Z2.mk 0 0 []),Func.mk [1,0] 1 (Z2.mk 0 0 []),Func.mk [2,1] 1 (Z2.mk 0 0 []),Func.mk [1,1] 0 (Z2.mk 0 0 [])].length:Nat):Int)) (.i (((Xz [Func.mk [1] 0 (Z2.mk 0 0 []),Func.mk [1,1] 1 (Z2.mk 0 0 []),Func.mk [1] 1 (Z2.mk 0 0 []),Func.mk [1,0] 1 (Z2.mk 0 0 []),Func.mk [2,1] 1 (Z2.mk 0 0 []),Func.mk [1,1] 0 (Z2.mk 0 0 [])]).length:Nat):Int)) (li (by rw [Dj])) (Zm 19 22 [9,10,11] (dn 12 (.i (([Func.mk [3] 0 (Z2.mk 0 0 []),Func.mk [0] 1 (Z2.mk 0 0 []),Func.mk [0,1] 1 (Z2.mk 0 0 []),Func.mk [3,0] 3 (Z2.mk 0 0 []),Func.mk [3] 1 (Z2.mk 0 0 []),Func.mk [1,3,0] 0 (Z2.mk 0 0 [])].length:Nat):Int)) (.i (((Xz [Func.mk [3] 0 (Z2.mk 0 0 []),Func.mk [0] 1 (Z2.mk 0 0 []),Func.mk [0,1] 1 (Z2.mk 0 0 []),Func.mk [3,0] 3 (Z2.mk 0 0 []),Func.mk [3] 1 (Z2.mk 0 0 []),Func.mk [1,3,0] 0 (Z2.mk 0 0 [])]).length:Nat):Int)) (li (by rw [Dj])) (Zm 15 18 [16,17,18] (dn 19 (.i (([Func.mk [0] 0 (Z2.mk 0 0 []),Func.mk [0,0] 0 (Z2.mk 0 0 []),Func.mk [1,0] 0 (Z2.mk 0 0 []),Func.mk [0] 1 (Z2.mk 0 0 [])].length:Nat):Int)) (.i (((Xz [Func.mk [0] 0 (Z2.mk 0 0 []),Func.mk [0,0] 0 (Z2.mk 0 0 []),Func.mk [1,0] 0 (Z2.mk 0 0 []),Func.mk [0] 1 (Z2.mk 0 0 [])]).length:Nat):Int)) (li (by rw [Dj])) (Z8 0 (dL 0 [] [] (Z7 []) 0 1 fun v21=>Yz 13 13 [] [(48,Z6 [])] (Z8 1 (Yu 1 [] [] [] (Qb [] 0) (Z8 6 (dc 6 [22] [] [] (Wg rd bs (p+1) (([Func.mk [1] 0 (Z2.mk 0 0 []),Func.mk [1,1] 1 (Z2.mk 0 0 []),Func.mk [1] 1 (Z2.mk 0 0 []),Func.mk [1,0] 1 (Z2.mk 0 0 []),Func.mk [2,1] 1 (Z2.mk 0 0 []),Func.mk [1,1] 0 (Z2.mk 0 0 [])].length:Nat):Int) (ZM:=ob)) ?_)))))))))))))))))))))))))))))))))))))))))))))))))))))
 rintro _ _ ⟨k1,rfl,rfl,Yp⟩
 have qhp2:=Yp.lt (by simp)
 simp only [YR,Xx] at qhp2
 obtain ⟨x1,Z3⟩:=Zt [Func.mk [1] 0 (Z2.mk 0 0 []),Func.mk [1,1] 1 (Z2.mk 0 0 []),Func.mk [1] 1 (Z2.mk 0 0 []),Func.mk [1,0] 1 (Z2.mk 0 0 []),Func.mk [2,1] 1 (Z2.mk 0 0 []),Func.mk [1,1] 0 (Z2.mk 0 0 [])] k1.toNat (by simp only [YR,Xx];omega)
 refine dx 7 (Zi (some v8) k1 5 (Gf Z3)) (Zm 9 10 [8] (Z8 13 (dc 13 [0] [] [] (Wg rd bs ((p+1)+1) (([Func.mk [3] 0 (Z2.mk 0 0 []),Func.mk [0] 1 (Z2.mk 0 0 []),Func.mk [0,1] 1 (Z2.mk 0 0 []),Func.mk [3,0] 3 (Z2.mk 0 0 []),Func.mk [3] 1 (Z2.mk 0 0 []),Func.mk [1,3,0] 0 (Z2.mk 0 0 [])].length:Nat):Int) (ZM:=ob)) ?_)))
 rintro _ _ ⟨k2,rfl,rfl,YV⟩
 have qhp3:=YV.lt (by simp)
 simp only [YR,Xx] at qhp3
 obtain ⟨x2,Zo⟩:=Zt [Func.mk [3] 0 (Z2.mk 0 0 []),Func.mk [0] 1 (Z2.mk 0 0 []),Func.mk [0,1] 1 (Z2.mk 0 0 []),Func.mk [3,0] 3 (Z2.mk 0 0 []),Func.mk [3] 1 (Z2.mk 0 0 []),Func.mk [1,3,0] 0 (Z2.mk 0 0 [])] k2.toNat (by simp only [YR,Xx];omega)
 refine dx 14 (Zi (some v15) k2 5 (Gf Zo)) (Zm 6 7 [15] (Z8 20 (dc 20 [0] [] [] (Wg rd bs (((p+1)+1)+1) (([Func.mk [0] 0 (Z2.mk 0 0 []),Func.mk [0,0] 0 (Z2.mk 0 0 []),Func.mk [1,0] 0 (Z2.mk 0 0 []),Func.mk [0] 1 (Z2.mk 0 0 [])].length:Nat):Int) (ZM:=ob)) ?_)))
 rintro _ _ ⟨k3,rfl,rfl,X6⟩
 have qhp4:=X6.lt (by simp)
 simp only [YR,Xx] at qhp4
 obtain ⟨x3,YK⟩:=Zt [Func.mk [0] 0 (Z2.mk 0 0 []),Func.mk [0,0] 0 (Z2.mk 0 0 []),Func.mk [1,0] 0 (Z2.mk 0 0 []),Func.mk [0] 1 (Z2.mk 0 0 [])] k3.toNat (by simp only [YR,Xx];omega)
 refine dx 21 (Zi (some v20) k3 5 (Gf YK)) (Zm 3 4 [22] (Z8 23 (dKN 23 [] [] (Za (Xz [Func.mk [] 0 (Z2.mk 0 0 []),x1,x2,x3])) 4 5 fun g1=>Zm 1 2 [24] (Z8 25 (YP 25 22 [] [] b2 [Ad ds1 v1,.ms g1 0 4 4] (de (Yb 1 (iL (Z7 [4,4,3,2,4]) 5 1 fun v22=>ZT 0 [(74,Z6 [4,4,3,2,4])] (ic [3] (Z9t rd bs ((((p+1)+1)+1)+1) [4,4,3,2,4] (ZM:=ob) (hy:=(by decide))) ?_)))))))))
 rintro _ _ ⟨nn1,rfl,rfl,Xq⟩
 have hnn:=Zez (a:=2) (b:=4) Xq (by decide)
 refine Z1 (Zu 3 [2] (Zl (LK 3 g1 4 4 nn1 5 (Za (Xz [Func.mk [] 0 (Z2.mk 0 0 []),x1,x2,x3]))) (Z0 1 (Zx 2 b2 [Ad ds1 v1,.ms g1 0 nn1 4] (ie (YU 1 (ia (((nn1:Int)-1)) (((nn1:Int))-(1)) (Z1 (ab 0 (ZW (fun fz gz m F h=>∃(j:Nat) (rq:List Func) (pq:Nat),(j<=nn1)/\(GL ds1 nn1 j rq)/\(p<=pq/\pq+90000*j<=p+10+90000*nn1)/\F=sF [0,2,3] fz [(8,.i ((j:Int)-1))]/\h=[Zk gz 0,YC rd bs pq,Zk gz 25,Zk gz 24,XY g1 rq]/\m=j+1) _ _ _ ⟨nn1,[Func.mk [] 0 (Z2.mk 0 0 []),x1,x2,x3],((((p+1)+1)+1)+1)+1,ob,(GL.start (ME Z3 (by decide)) (ME Zo (by decide)) (ME YK (by decide))),ob,rfl,rfl,rfl⟩ (wk [0,0,23,22,1] fl) ?_))))))))))
 rintro m F h ⟨j,rq,pq,Yg,Zh,Zw,rfl,rfl,rfl⟩
 refine Xc (ZZ (((j:Int)-1)>=0) (fun Zb=>?_) (fun Zb=>?_))
 ·obtain ⟨f1,hf1⟩:=Zt (rq.take nn1) (((j:Int)-1).toNat) (by rw [Zh.len_take om];omega)
  have hfq:rq[j-1]? = some f1:=by have h:=hf1;rw [show ((j:Int)-1).toNat=j-1 by omega,List.getElem?_take_of_lt om] at h;exact h
  refine ak (aq (ab 1 (ar (Qk 3 [(88,.agg [Ye ds1,.ms g1 0 nn1 4])] [0] (ic [1,3] (Z8l rd bs pq (Wh.mk ds1 (rq.take nn1)) g1 rq f1 ((j:Int)-1) nn1 (ZM:=ob) (hg:=(Zh.gp hgd om)) (Wv:=(List.take_prefix nn1 rq)) (hf:=hf1) (h0:=(fun h=>Zh.zero f1 (by rw [<-hfq,show j-1=0 by omega]))) (hn:=(Zh.len_take om))) ?_)))))
  rintro _ _ ⟨e1,p21,rfl,rfl,W7⟩
  have hbw:eW ds1 nn1 f1.params.length e1/\(e1).sz<=30:=by have h:=W7.1;unfold GE at h;rw [show (Wh.mk ds1 (rq.take nn1)).funcs.length=nn1 from Zh.len_take om] at h;exact h
  exact iA [.i 0,.i 0,nl] fun b3=>Zx 0 b3 (X5 e1) (ie (aE 19 (ZQ 13 19 [0,1,2,3,4,5] [3,3] (dx 6 (XQ g1 nn1 4 (((j:Int)-1).toNat) 5 ((j:Int)-1)) (Zm 11 12 [7] (U5 8 (WQ 2 g1 4 4 5 ((((j:Int)-1).toNat)*5+0) (Za (Xz rq)) [Z6 f1.params] 31 (Z6 f1.params) (UT (List.take_prefix nn1 rq) hf1 0 rfl (V8 rfl))) (ZQ 7 10 [9,10,11] [3] (dx 12 (XQ g1 nn1 4 (((j:Int)-1).toNat) 5 ((j:Int)-1)) (Zm 5 6 [13] (U5 14 (WQ 2 g1 4 4 5 ((((j:Int)-1).toNat)*5+1) (Za (Xz rq)) [.i f1.result] 3 (.i f1.result) (UT (List.take_prefix nn1 rq) hf1 1 rfl (V8 rfl))) (ZQ 2 4 [15,16] [0] (dx 17 (XQ g1 nn1 4 (((j:Int)-1).toNat) 5 ((j:Int)-1)) (Z8 18 (JW 18 2 [] [] g1 4 4 5 ((((j:Int)-1).toNat)*5) [Z6 f1.params,.i f1.result,.i e1.op,.i e1.num,XI e1.kids] (Za (Xz rq)) (Za (Xz (rq.set ((j:Int)-1).toNat ⟨f1.params,f1.result,e1⟩))) (by rw [L5,Zh.len];simp only [YR,Xx];omega) (Z83 ⟨f1.params,f1.result,e1⟩ (by rw [Zh.len];omega)) (de (az (Z0 1 (ia ((((j:Int)-1)-1)) (((j:Int)-1)-(1)) (Z1 (ZF ⟨(j-1),(rq.set ((j:Int)-1).toNat ⟨f1.params,f1.result,e1⟩),p21,ob,(by rw [show ((j:Int)-1).toNat=j-1 by omega];exact Zh.set om hfq hbw),ob,rfl,rfl,rfl⟩ (wk [3,2,2,2,0] (fc (x:=.i (((j:Int)-1)-1)) li fl))))))))))))))))))))))
 exact ax 0 (Zu 1 [0] (Zx 2 b1 [Ad ds1 v1,.ms g1 0 nn1 4] (ie (ZL (r3 [4,2] [.agg [Ad ds1 v1,.ms g1 0 nn1 4]] [0] [(b1,b1)] ⟨rq,ds1,nn1,g1,pq,rfl,rfl,⟨⟨by rw [show j=0 by omega] at Zh;exact Zh,hgd,by omega,by omega⟩,by omega⟩⟩ (Zd.agg (.cons (Zd.forget _ _) (.cons (lr _) .nil))))))))
theorem Z97 (rd:Nat) (bs:LI) (p:Nat) (ZM:∀z∈bs,0<=z/\z<=255) (hp:p+400000<=1000000000:=by exact ob):Zj 145 [.p rd 0] [YC rd bs p] (fun r h=>∃(g:Wh) (p2:Nat),r=At g/\h=[YC rd bs p2]/\I6 g/\p<=p2/\p2<=p+400000):=(Wq.frzP (E:=List Func × List Zf × Nat × Nat) (ds:=fun e=>e.2.1) (rs:=fun e=>e.1) (m:=fun e=>e.2.2.1) (hs:=fun e=>[.obj rd [Ue bs,.i (e.2.2.2:Nat)]]) (Q:=fun e=>(GL e.2.1 e.2.2.1 0 e.1/\GD e.2.1/\1<=e.2.2.1/\e.2.2.1<=4)/\p<=e.2.2.2/\e.2.2.2<=p+400000)
  ((Z98 rd bs p ZM hp).mono fun r h ⟨rs,ds,m,gb,p2,hr,hh,hq⟩=>⟨(rs,ds,m,p2),gb,hr,hh,hq⟩) fun e hq=>⟨hq.1.2.2.2,hq.1.1.len⟩).mono
  fun r h ⟨e,hr,hh,hq⟩=>⟨⟨e.2.1,e.1.take e.2.2.1⟩,e.2.2.2,hr,hh,hq.1.1.done hq.1.2.1 hq.1.2.2,hq.2⟩
theorem Ll (a:Nat) (n:Nat) (ha:a<=1000000:=by exact ob) (hn:n<=1000000:=by exact ob):Zj 198 [.i a,.i n] [] (fun r h=>∃(xs:LI),r=Z6 xs/\h=[]/\xs.length=n/\∀i∈xs,(a:Int)<=i/\i<(a:Int)+n):=by
 refine ZC 20 Tryz.func198 (ZJ (ar (iL (Z7 []) 0 1 fun v1=>?_)))
 refine Z1 (Yd (ab 0 (ZW (fun fz gz m F h=>∃(k:Nat) (ys:LI) (u:Value),(k<=n)/\(ys.length=k)/\(∀i∈ys,(a:Int)<=i/\i<(a:Int)+n)/\F=sF [0,1] fz [(5,ZX ys u),(6,.i k)]/\h=[.tail u 1]/\m=n-k) _ _ _ ⟨0,[],v1,ob,ob,(fun i hi=>by cases hi),rfl,rfl,rfl⟩ (wk [0] (fr (Y1 fl))) ?_)))
 rintro m F h ⟨k,ys,u,Yg,Zh,Zw,rfl,rfl,rfl⟩
 refine Xc (ZZ ((k:Int)<(n:Int)) (fun Zb=>?_) (fun Zb=>?_))
 ·exact ak (aq (ab 1 (az (Z0 3 (ia (((a+k:Nat):Int)) (((a:Int))+((k:Int))) (iL (Z7 [((a+k:Nat):Int)]) 1 1 fun v2=>ZT 0 [(17,Z6 [((a+k:Nat):Int)])] (ip 1 (Z7 (ys++[((a+k:Nat):Int)])) (Z7 ys) (Z7 [((a+k:Nat):Int)]) u none 1 (YI _) (YI _) (We _) (by simp<;>omega) (by simp [Wd,Z7]) fun v3=>Z1 (az (Z0 1 (ZG k (Z1 (ZF ⟨k+1,(ys++[((a+k:Nat):Int)]),v3,ob,ob,(XJ Zw om),rfl,rfl,rfl⟩ (wk [0] (fr (ZI k fl)))))))))))))))
 exact ax 0 (ar (Zr (r2 [] [ZX ys u] ⟨ys,rfl,rfl,⟨by omega,Zw⟩⟩ (Zd.forget _ _))))
theorem Pl (l:Nat) (xs:List Z5) (w:Value) (q:Nat) (s:Z5) (hl:xs.length<=4000000000:=by exact ob) (hq:q<=1000000:=by exact ob):Zj 271 [.p l 0,YL s] [.obj l [YY xs w,.i q],.tail w 5] (fun r h=>∃(w2:Value),r=.i q/\h=[.obj l [YY (xs++[s]) w2,.i (((q+1):Nat):Int)],.tail w2 5]):=by
 exact ZC 28 Tryz.func271 (ar (iA (Xw s) fun b1=>Z1 (aD 11 (ZQ 5 11 [0,1,2,3,4,5] [1,0] (Z8 6 (WP 6 [1] [l] [YL s] (Zy [s]) (VF [s]).symm 1 5 fun v1=>Yz 4 4 [] [(11,WW [s])] (Z8 7 (dp 7 3 [] [] (Zy (xs++[s])) (Zy xs) (Zy [s]) w none 5 (Xu _) (Xu _) (U8 _) (by simp<;>omega) (by simp [WZ,Zy]) fun v2=>Zm 1 3 [8,9] (Z8 10 (YP 10 3 [] [] l [YY (xs++[s]) v2,.i q] (de (Zu 5 [0] (ZG q (Z0 2 (Zx 0 l [YY (xs++[s]) v2,.i (q+1:Nat)] (ie (Zu 4 [0] (ia ((((q+1:Nat):Int)-1)) ((((q+1:Nat):Int))-(1)) (Zr (r2 [0,0] [.i (((q+1:Nat):Int)-1)] ⟨v2,rfl,rfl⟩ li))))))))))))))))))))
theorem Pv (g:Wh) (e:Z2) (us:LI) (q:Nat) (bb:Nat) (he:eW g.decls g.funcs.length us.length e:=by exact ob) (hu:∀a∈us,0<=a/\a<(q:Int)) (hul:us.length+4*e.sz<=100000:=by exact ob) (hql:q+6*e.sz<=100000:=by exact ob) (hb:e.sz<bb:=by exact ob) (ih:∀(l:Nat) (e2:Z2) (us2:LI) (xs2:List Z5) (w2:Value) (q2:Nat),(eW g.decls g.funcs.length us2.length e2)->(∀a∈us2,0<=a/\a<(q2:Int))->(us2.length+4*e2.sz<=100000)->(xs2.length+6*e2.sz<=100000)->(q2+6*e2.sz<=100000)->(e2.sz<bb)->Zj 234 [.p l 0,At g,Y8 e2,Z6 us2] [.obj l [YY xs2 w2,.i q2],.tail w2 5] (fun r h=>∃(ys:List Z5) (v:Int) (w2:Value),r=.i v/\h=[.obj l [YY (xs2++ys) w2,.i (((q2+X7 ys):Nat):Int)],.tail w2 5]/\LW g.decls g.funcs.length q2 e2 ys v)):Zj 197 [At g,Y8 e,Z6 us,.i q] [] (fun r h=>∃(b:Z4),r=ZK b/\h=[]/\LB g.decls g.funcs.length q e b):=by
 refine ZC 26 Tryz.func197 (ar (iA (LR g) fun b1=>iA (X5 e) fun b2=>iA [nl,.i 0] fun b3=>ie (ar (iL (Zy []) 0 5 fun v1=>Z0 2 (iA [YY [] v1,.i q] fun b4=>Z1 (Zu 4 [4,3] (ic [0,0] (ih b4 e us [] v1 q he hu ob ob ob ob) ?_)))))))
 rintro _ _ ⟨ys1,v2,w21,rfl,rfl,Y9⟩
 have hlw:=Y9
 exact Z1 (Zu 6 [0] (Zx 2 b3 [YY ([]++ys1) w21,.i v2] (ie (ZL (r3 [] [.agg [YY ([]++ys1) w21,.i v2]] [0] [(b3,b3)] ⟨(Z4.mk ([]++ys1) v2),rfl,rfl,(by rw [C4];exact hlw.block)⟩ (Zd.agg (.cons (Zd.forget _ _) (.cons (lr _) .nil))))))))
theorem Z9l (l:Nat) (g:Wh) (e:Z2) (us:LI) (xs:List Z5) (w:Value) (q:Nat) (hd:GD g.decls) (he:eW g.decls g.funcs.length us.length e) (hu:∀a∈us,0<=a/\a<(q:Int)) (hul:us.length+4*e.sz<=100000) (hxl:xs.length+6*e.sz<=100000) (hql:q+6*e.sz<=100000) (ih:∀(l:Nat) (e2:Z2) (us2:LI) (xs2:List Z5) (w2:Value) (q2:Nat),(eW g.decls g.funcs.length us2.length e2)->(∀a∈us2,0<=a/\a<(q2:Int))->(us2.length+4*e2.sz<=100000)->(xs2.length+6*e2.sz<=100000)->(q2+6*e2.sz<=100000)->(e2.sz<e.sz)->Zj 234 [.p l 0,At g,Y8 e2,Z6 us2] [.obj l [YY xs2 w2,.i q2],.tail w2 5] (fun r h=>∃(ys:List Z5) (v:Int) (w2:Value),r=.i v/\h=[.obj l [YY (xs2++ys) w2,.i (((q2+X7 ys):Nat):Int)],.tail w2 5]/\LW g.decls g.funcs.length q2 e2 ys v)):Zj 234 [.p l 0,At g,Y8 e,Z6 us] [.obj l [YY xs w,.i q],.tail w 5] (fun r h=>∃(ys:List Z5) (v:Int) (w2:Value),r=.i v/\h=[.obj l [YY (xs++ys) w2,.i (((q+X7 ys):Nat):Int)],.tail w2 5]/\LW g.decls g.funcs.length q e ys v):=by
 have XM:=hd.ok
 obtain ⟨ho,h12,h13,h7,h8,h9,hnum,hkl,hks⟩:=(Z7h e).1 he
 have hez:=e.sz_eq
 refine ZC 148 Tryz.func234 (ar (iA (LR g) fun b1=>iA (X5 e) fun b2=>Z1 (Xc (U2 [0] (ab 0 (ar (YJ (e.op==12) Zq (fun Zb=>?_) (fun Zb=>?_))))))))
 ·refine Zu 3 [0] ?_
  obtain ⟨x1,Z3⟩:=Zt us e.num.toNat (by have:=h12 om;omega)
  have huv:=hu _ (ZY Z3)
  exact Zl (Zi none e.num 1 (Y5 Z3)) (Zr (r1 [2,2] ⟨[],x1,w,rfl,rfl,(LW.var huv)⟩ (eq:=(ro (ls:=[YY xs w,.i q]) (by simp [X7]) (rc rz)))))
 refine ar (YJ (e.op==13) Zq (fun Ze=>?_) (fun Ze=>?_))
 ·refine aD 9 (ZQ 5 9 [0,1,2,3] [1,0] ?_)
  obtain ⟨x2,Zo⟩:=Zt e.kids 0 (by have:=h13 om;omega)
  have hekx2:=Dm hks Zo
  have hszx2:=Cr Zo
  have htzx2:=Bx Zo
  rw [Vf] at hekx2
  rw [Z0x om] at hekx2
  refine dx 4 (Zi none 0 3 (Di Zo)) (Zm 2 4 [5,6] (Z8 7 (dc 7 [2,2] [] [] (ih l x2 us xs w q (by first|assumption|(rw [YF];assumption)) (by first|assumption|exact FB hu hlwhp1.v|exact HT hu) (by first|omega|(simp only [YF,YR,Xx];omega)) (by first|omega|(simp only [YF,YR,Xx];omega)) ob ob) ?_)))
  rintro _ _ ⟨ys1,v1,w21,rfl,rfl,Y9⟩
  have hlwhp1:=Y9
  have hldhp1:=Y9.dn
  refine Zm 0 1 [8] (de (aD 12 (ZQ 8 12 [0,1,2,3] [3,2] ?_)))
  obtain ⟨x3,YK⟩:=Zt e.kids 1 (by have:=h13 om;omega)
  have hz2:=OS Zo YK
  have hz3:=x2.sz_eq
  have hekx3:=Dm hks YK
  have hszx3:=Cr YK
  have htzx3:=Bx YK
  rw [Vf] at hekx3
  rw [Z0x om] at hekx3
  refine dx 4 (Zi none 1 3 (Di YK)) (Zm 4 7 [5,6,7] (Z8 8 (dL 8 [1,2] [b2,b1] (Z7 [v1]) 1 1 fun v2=>Yz 3 3 [] [(45,Z6 [v1])] (Z8 9 (dc 9 [] [1,2] [b2,b1] (Ku us [v1]) ?_)))))
  rintro _ _ ⟨v3,rfl,rfl⟩
  refine Yz 2 2 [] [(46,Z6 (us++[v1]))] (Z8 10 (dc 10 [2,2] [] [] (ih l x3 (us++[v1]) (xs++ys1) w21 (q+X7 ys1) (by first|assumption|(rw [YF];assumption)) (by first|assumption|exact FB hu hlwhp1.v|exact HT hu) (by first|omega|(simp only [YF,YR,Xx];omega)) (by first|omega|(simp only [YF,YR,Xx];omega)) ob ob) ?_))
  rintro _ _ ⟨ys2,v4,w22,rfl,rfl,Yp⟩
  have hlwhp2:=Yp
  have hldhp2:=Yp.dn
  exact Zm 0 1 [11] (de (ZL (r1 [0,0] ⟨(ys1++ys2),v4,w22,rfl,rfl,(LW.let_ hlwhp1 hlwhp2 (by have:=OS Zo YK;omega))⟩ (eq:=(ro (ls:=[YY ((xs++ys1)++ys2) w22,.i ((((q+X7 ys1)+X7 ys2):Nat):Int)]) (by rw [Jv,<-Bh,Uj]) (rc rz))))))
 refine Yd (W5 (fun fz gz F h=>F=sF [0,3,5,6] fz [(48,.b ((e.op==7)||(e.op==8)))]/\h=gz) ?_ ?_)
 ·refine ac (e.op==7) Zq (fun ZB=>?_) (fun ZB=>?_)
  ·exact ak (ZV ⟨rfl,rfl⟩ (ZE 4 (fc (x:=.b (e.op==7)) (lb (by first|rfl|(rw [Zg ZB])|(rw [Z9 ZB])|(simp [ZB];done)|(rw [XA];simp [ZB];done)|omega)) fl)))
  exact T9 (ZV ⟨rfl,rfl⟩ (ZE 4 (fc (x:=.b (e.op==8)) (lb (by first|rfl|(rw [Zg ZB])|(rw [Z9 ZB])|(simp [ZB];done)|(rw [XA];simp [ZB];done)|omega)) fl)))
 rintro F h ⟨rfl,rfl⟩
 refine ac ((e.op==7)||(e.op==8)) (p:=(e.op=7)∨(e.op=8)) (Yj Zq Zq) (fun Yk=>?_) (fun Yk=>?_)
 ·refine aD 9 (ZQ 5 9 [0,1,2,3] [1,0] ?_)
  obtain ⟨x4,VG⟩:=Zt e.kids 0 om
  have hekx4:=Dm hks VG
  have hszx4:=Cr VG
  have htzx4:=Bx VG
  rw [Vf] at hekx4
  rw [Zhq om] at hekx4
  refine dx 4 (Zi none 0 3 (Di VG)) (Zm 2 4 [5,6] (Z8 7 (dc 7 [2,2] [] [] (ih l x4 us xs w q (by first|assumption|(rw [YF];assumption)) (by first|assumption|exact FB hu hlwhp1.v|exact HT hu) (by first|omega|(simp only [YF,YR,Xx];omega)) (by first|omega|(simp only [YF,YR,Xx];omega)) ob ob) ?_)))
  rintro _ _ ⟨ys3,v5,w23,rfl,rfl,YV⟩
  have hlwhp3:=YV
  have hldhp3:=YV.dn
  refine Zm 0 1 [8] (de (ar (iL (YN []) 0 2 fun v6=>Z1 (Zu 4 [4,3] (ic [] (Ai g.decls e.num) ?_)))))
  rintro _ _ ⟨v7,rfl,rfl⟩
  refine Z1 (Yd (ab 1 (ZW (fun fz gz m F h=>∃(k:Nat) (cs:List Z4) (u:Value),(1<=k/\k<=e.kids.length)/\(cs.length+1=k)/\(TX g.decls g.funcs.length (UX g.decls e.op e.num (q+X7 ys3)) 0 cs)/\(Xf cs+6*x4.sz<=cs.length+6*XH (e.kids.take k))/\(Km WY cs)/\F=sF [0,3,5,6,10] fz [(11,Tc cs u),(12,Z6 (Y3 g.decls e.num)),(13,.i k)]/\h=[Zk gz 2,Zk gz 4,Zk gz 5,.tail u 2,Zk gz 3]/\m=e.kids.length-k) _ _ _ ⟨1,[],v6,ob,ob,True.intro,(by have h:XH (e.kids.take 1)=XH (e.kids.take 0)+x4.sz:=Bx VG;simp only [Xf,Xx];omega),True.intro,rfl,rfl,rfl⟩ (wk [2,3,3,1,1] (fr (fc (x:=ZX (Y3 g.decls e.num) v7) (Zd.forget _ _) (fc (x:=.i 1) li fl)))) ?_)))
  rintro m F h ⟨k,cs,u,Yg,Zh,Zw,YS,WE,rfl,rfl,rfl⟩
  refine Yf 3 [1] (iw (IT e.kids) (ZZ ((k:Int)<(e.kids.length:Int)) (fun Xo=>?_) (fun Xo=>?_)))
  ·refine ak (aq (ab 2 (ZJ (Xc (U2 [1] (W5 (fun fz gz F h=>∃(mf:Nat),(UX g.decls e.op e.num (q+X7 ys3) cs.length=(q+X7 ys3)+mf)/\(mf<=3)/\(Ql g.decls e.op e.num us.length k=us.length+mf)/\F=sF [0,3,5,6,10,11,12,13] fz [(14,.i mf)]/\h=gz) ?_ ?_))))))
   ·refine ac (e.op==8) Zq (fun Xh=>?_) (fun Xh=>?_)
    ·refine aE 10 (ZQ 6 10 [0,1,2,3] [2] (da 4 (((k-1:Nat):Int)) (((k:Int))-(1)) ?_))
     obtain ⟨x5,TH⟩:=Zt (Y3 g.decls e.num) (k-1) (by have:=h8 om;omega)
     exact dx 5 (Zi none ((k-1:Nat):Int) 1 (Y5 TH)) (Zm 3 4 [6] (Z8 7 (Yu 7 [] [] [] (KP g.decls x5) (dn 8 (.i (((Y2 g.decls x5).length:Nat):Int)) (.i (((Z7 (Y2 g.decls x5)).length:Nat):Int)) (li (by rw [Yo])) (Zm 0 1 [9] (de (ZV ⟨(Y2 g.decls x5).length,(MA om (by rw [show cs.length=k-1 by omega];exact TH)),(by have:=Um XM x5;omega),(Zhr om (show k=(k-1)+1 by omega) TH),rfl,rfl⟩ (ZE 5 (fc (x:=.i (((Y2 g.decls x5).length:Nat):Int)) (li (by first|rfl|(rw [Zg Xh])|(rw [Z9 Xh])|(simp [Xh];done)|(rw [XA];simp [Xh];done)|omega)) fl)))))))))
    exact ak (ZV ⟨0,(MB om),om,(Z0y om),rfl,rfl⟩ (ZE 5 (fc (x:=.i 0) (li (by first|rfl|(rw [Zg Xh])|(rw [Z9 Xh])|(simp [Xh];done)|(rw [XA];simp [Xh];done)|omega)) fl)))
   rintro F h ⟨mf,Zd6,Zme,Zd7,rfl,rfl⟩
   refine aE 25 (ZQ 20 25 [0,1,2,3,4] [2,1] ?_)
   obtain ⟨x6,CA⟩:=Zt e.kids k om
   have hekx6:=Dm hks CA
   have hszx6:=Cr CA
   have htzx6:=Bx CA
   rw [Vf] at hekx6
   rw [Zd7] at hekx6
   have htk:=AL (xs:=e.kids) (k+1)
   have hbl:=FP cs
   refine dx 5 (Zi none (k:Int) 3 (Di CA)) (ZQ 7 19 [6,7,8,9,10,11,12,15,16,17,18,19] [0,0] (da 20 ((((q+X7 ys3)+mf:Nat):Int)) (((((q+X7 ys3):Nat):Int))+((mf:Int))) (Z8 13 (dc 13 [] [0,1,2] [l,b2,b1] (Ll (q+X7 ys3) mf) ?_))))
   rintro _ _ ⟨xs1,rfl,rfl,X6⟩
   have hnx:=X6
   refine Z8 14 (dc 14 [] [0,1,2] [l,b2,b1] (Ku us xs1) ?_)
   rintro _ _ ⟨v8,rfl,rfl⟩
   refine Yz 4 4 [] [(98,Z6 (us++xs1))] (Z8 21 (dc 21 [] [] [] (Pv g x6 (us++xs1) ((q+X7 ys3)+mf) e.sz (he:=(by rw [YF,hnx.1];exact hekx6)) (hu:=(Zl7 hu hnx.2)) (hul:=(by rw [YF,hnx.1];omega)) (hql:=om) (ih:=ih)) ?_))
   rintro _ _ ⟨b3,rfl,rfl,Xq⟩
   have hlb:=Xq
   exact Z8 22 (WP 22 [] [] [ZK b3] (YN [b3]) (T7 [b3]).symm 1 2 fun v9=>Yz 2 2 [] [(106,XF [b3])] (Z8 23 (dp 23 5 [] [] (YN (cs++[b3])) (YN cs) (YN [b3]) u none 2 (TW _) (TW _) (Gd _) (by simp<;>omega) (by simp [JX,YN]) fun v10=>Zm 0 1 [24] (de (az (Z0 1 (ZG k (Z1 (ZF ⟨k+1,(cs++[b3]),v10,ob,ob,(OV Zw (by rw [Zd6];exact hlb.1)),(by have:=hlb.2;rw [Ee,YF];simp only [Xf,YR,Xx];omega),(So WE hlb.op),rfl,rfl,rfl⟩ (wk [3,3,3,0,2] (fw (ZI k fl))))))))))))
  refine ax 1 (Zu 6 [1,1] (iL (Z7 [v5]) 1 1 fun v11=>ZT 2 [(116,.agg [.i e.op,.i e.num,.i 0,Z6 [v5],XF cs])] (ic [1,4] (Pl l (xs++ys3) w23 (q+X7 ys3) (Z5.mk e.op e.num 0 [v5] cs) (hl:=(by first|(have h1:=JD zs;have h2:=AL (xs:=e.kids) k;have h3:=Bw zs;(try simp only [YF]);omega)|((try simp only [YF]);omega))) (hq:=(by first|(have h1:=JD zs;have h2:=AL (xs:=e.kids) k;have h3:=Bw zs;(try simp only [YF]);omega)|((try simp only [YF]);omega)))) ?_)))
  rintro _ _ ⟨w24,rfl,rfl⟩
  refine Z1 ?_
  have hcb:Yw e.op=false:=by simp [Yw];omega
  exact ZL (r1 [0,0] ⟨(ys3++[Z5.mk e.op e.num 0 [v5] cs]),(((q+X7 ys3):Nat):Int),w24,rfl,rfl,(LW.branch (s0:=x4.sz) (sr:=XH (e.kids.take k)-x4.sz) om (fun h=>by have:=h7 h;omega) (fun h=>by have:=h8 h;omega) hnum hlwhp3.fs hlwhp3.v Zw om hlwhp3.sz (by have:=FP cs;omega) (by have:=AL (xs:=e.kids) k;omega) hlwhp3.op WE)⟩ (eq:=(ro (ls:=[YY ((xs++ys3)++[(Z5.mk e.op e.num 0 [v5] cs)]) w24,.i ((((q+X7 ys3)+1):Nat):Int)]) (by rw [Em (s:=Z5.mk e.op e.num 0 [v5] cs) hcb,<-Bh,Uj]) (rc rz))))
 refine ak (ar (iL (Z7 []) 0 1 fun v12=>?_))
 refine Z1 (Yd (ab 3 (ZW (fun fz gz m F h=>∃(k:Nat) (asl:LI) (u:Value) (zs:List Z5) (w3:Value),(k<=e.kids.length)/\(asl.length=k)/\(Tn g.decls g.funcs.length q zs)/\(∀a∈asl,0<=a/\a<((q+X7 zs:Nat):Int))/\(YG zs<=6*XH (e.kids.take k))/\(Qg WY zs)/\F=sF [0,3,5,6] fz [(15,ZX asl u),(16,.i k)]/\h=[Zk gz 1,Zk gz 2,.obj l [YY (xs++zs) w3,.i (((q+X7 zs):Nat):Int)],.tail u 1,.tail w3 5]/\m=e.kids.length-k) _ _ _ ⟨0,[],v12,[],w,ob,ob,True.intro,(fun a ha=>by cases ha),(by simp [YG]),True.intro,rfl,rfl,rfl⟩ (wk [1,1,1,0,0] (fr (Y1 fl)) (e:=(rc (rc (ro (ls:=[YY xs w,.i q]) (by simp [X7]) (rc (rc rz))))))) ?_)))
 rintro m F h ⟨k,asl,u,zs,w3,Vo,Xs,XE,Iq,Zlz,NV,rfl,rfl,rfl⟩
 refine Yf 3 [0] (iw (IT e.kids) (ZZ ((k:Int)<(e.kids.length:Int)) (fun VU=>?_) (fun VU=>?_)))
 ·refine ak (aq (ab 4 (aD 10 (ZQ 5 10 [0,1,2,3,4] [1,0] ?_))))
  obtain ⟨x7,GN⟩:=Zt e.kids k om
  have hzl:=JD zs
  have hzd:=Bw zs
  have htk:=AL (xs:=e.kids) (k+1)
  have hekx7:=Dm hks GN
  have hszx7:=Cr GN
  have htzx7:=Bx GN
  rw [Vf] at hekx7
  rw [Z0y om] at hekx7
  refine dx 5 (Zi none (k:Int) 3 (Di GN)) (Zm 2 4 [6,7] (Z8 8 (dc 8 [2,3] [] [] (ih l x7 us (xs++zs) w3 (q+X7 zs) (by first|assumption|(rw [YF];assumption)) (by first|assumption|exact FB hu hlwhp1.v|exact HT hu) (by first|omega|(simp only [YF,YR,Xx];omega)) (by first|omega|(simp only [YF,YR,Xx];omega)) ob ob) ?_)))
  rintro _ _ ⟨ys4,v13,w25,rfl,rfl,W7⟩
  have hlwhp6:=W7
  have hldhp6:=W7.dn
  exact Zm 0 1 [9] (de (az (Z0 2 (iL (Z7 [v13]) 1 1 fun v14=>ZT 0 [(137,Z6 [v13])] (ip 5 (Z7 (asl++[v13])) (Z7 asl) (Z7 [v13]) u none 1 (YI _) (YI _) (We _) (by simp<;>omega) (by simp [Wd,Z7]) fun v15=>Z1 (az (Z0 1 (ZG k (Z1 (ZF ⟨k+1,(asl++[v13]),v15,(zs++ys4),w25,ob,ob,(Do.2 ⟨XE,hlwhp6.fs⟩),(by rw [Jv,<-Bh];exact FB Iq hlwhp6.v),(by have:=hlwhp6.sz;rw [TN];omega),(Hp.2 ⟨NV,hlwhp6.op⟩),rfl,rfl,rfl⟩ (wk [4,4,2,0,1] (fr (ZI k fl)) (e:=(rc (rc (ro (ls:=[YY ((xs++zs)++ys4) w25,.i ((((q+X7 zs)+X7 ys4):Nat):Int)]) (by rw [Jv,<-Bh,Uj]) (rc (rc rz)))))))))))))))))
 refine ax 3 (Zu 6 [0,0] (iL (YN []) 0 2 fun v16=>ZT 1 [(146,.agg [.i e.op,.i e.num,.i 0,Z6 asl,XF []])] (ic [3,4] (Pl l (xs++zs) w3 (q+X7 zs) (Z5.mk e.op e.num 0 asl []) (hl:=(by first|(have h1:=JD zs;have h2:=AL (xs:=e.kids) k;have h3:=Bw zs;(try simp only [YF]);omega)|((try simp only [YF]);omega))) (hq:=(by first|(have h1:=JD zs;have h2:=AL (xs:=e.kids) k;have h3:=Bw zs;(try simp only [YF]);omega)|((try simp only [YF]);omega)))) ?_)))
 rintro _ _ ⟨w26,rfl,rfl⟩
 refine Z1 ?_
 have hcb:Yw e.op=false:=by simp [Yw];omega
 exact ZL (r1 [0,0] ⟨(zs++[Z5.mk e.op e.num 0 asl []]),(((q+X7 zs):Nat):Int),w26,rfl,rfl,(LW.node om h9 hnum XE Iq om (by have:=AL (xs:=e.kids) k;omega) NV)⟩ (eq:=(ro (ls:=[YY ((xs++zs)++[(Z5.mk e.op e.num 0 asl [])]) w26,.i ((((q+X7 zs)+1):Nat):Int)]) (by rw [Em (s:=Z5.mk e.op e.num 0 asl []) hcb,<-Bh,<-Uj]) (rc rz))))
theorem Z9k (l:Nat) (g:Wh) (e:Z2) (us:LI) (xs:List Z5) (w:Value) (q:Nat) (hd:GD g.decls) (he:eW g.decls g.funcs.length us.length e) (hu:∀a∈us,0<=a/\a<(q:Int)) (hul:us.length+4*e.sz<=100000) (hxl:xs.length+6*e.sz<=100000) (hql:q+6*e.sz<=100000):Zj 234 [.p l 0,At g,Y8 e,Z6 us] [.obj l [YY xs w,.i q],.tail w 5] (fun r h=>∃(ys:List Z5) (v:Int) (w2:Value),r=.i v/\h=[.obj l [YY (xs++ys) w2,.i (((q+X7 ys):Nat):Int)],.tail w2 5]/\LW g.decls g.funcs.length q e ys v):=by
 have key:∀k:Nat,∀(l:Nat) (e2:Z2) (us2:LI) (xs2:List Z5) (w2:Value) (q2:Nat),(eW g.decls g.funcs.length us2.length e2)->(∀a∈us2,0<=a/\a<(q2:Int))->(us2.length+4*e2.sz<=100000)->(xs2.length+6*e2.sz<=100000)->(q2+6*e2.sz<=100000)->(e2.sz<k)->Zj 234 [.p l 0,At g,Y8 e2,Z6 us2] [.obj l [YY xs2 w2,.i q2],.tail w2 5] (fun r h=>∃(ys:List Z5) (v:Int) (w2:Value),r=.i v/\h=[.obj l [YY (xs2++ys) w2,.i (((q2+X7 ys):Nat):Int)],.tail w2 5]/\LW g.decls g.funcs.length q2 e2 ys v):=by
  intro k
  induction k with
  | zero=>intro l e2 us2 xs2 w2 q2 h1 h2 h3 h4 h5 h6;omega
  | succ k ih=>intro l e2 us2 xs2 w2 q2 h1 h2 h3 h4 h5 h6;exact Z9l l g e2 us2 xs2 w2 q2 hd h1 h2 h3 h4 h5 fun l e3 us3 xs3 w3 q3 a1 a2 a3 a4 a5 a6=>ih l e3 us3 xs3 w3 q3 a1 a2 a3 a4 a5 om
 exact key (e.sz+1) l e us xs w q he hu hul hxl hql om
theorem Lk (g:Wh) (e:Z2) (us:LI) (q:Nat) (hd:GD g.decls:=by exact ob) (he:eW g.decls g.funcs.length us.length e:=by exact ob) (hu:∀a∈us,0<=a/\a<(q:Int)) (hul:us.length+4*e.sz<=100000:=by exact ob) (hql:q+6*e.sz<=100000:=by exact ob):Zj 197 [At g,Y8 e,Z6 us,.i q] [] (fun r h=>∃(b:Z4),r=ZK b/\h=[]/\LB g.decls g.funcs.length q e b):=(Pv g e us q (e.sz+1) he hu hul hql om (fun l e2 us2 xs2 w2 q2 h1 h2 h3 h4 h5 _=>Z9k l g e2 us2 xs2 w2 q2 hd h1 h2 h3 h4 h5))
theorem BS (ds:List Zf) (hd:Wt ds:=by exact ob):Zj 81 [Ye ds] [] (Y7 (Ye ds)):=by
 have hdl:=hd.len
 refine ZC 55 Tryz.func81 (ZJ (ar (iL (YH []) 0 3 fun v1=>?_)))
 refine Z1 (Yd (ab 0 (ZW (fun fz gz m F h=>∃(k:Nat) (v:Value),(k<=ds.length)/\F=sF [0] fz [(3,Ad (ds.take k) v),(4,.i k)]/\h=[.tail v 3]/\m=ds.length-k) _ _ _ ⟨0,v1,ob,rfl,rfl,rfl⟩ (wk [0] (fc (x:=Ad [] v1) (Zd.slh _ (Yr YH rfl)) (Y1 fl))) ?_)))
 rintro m F h ⟨k,v,Yg,rfl,rfl,rfl⟩
 refine YU 2 (iw (U6 ds) (ZZ ((k:Int)<(ds.length:Int)) (fun Zb=>?_) (fun Zb=>?_)))
 ·obtain ⟨xd,hxd⟩:=Zt ds k om
  have hcl:=hd.cons_at hxd
  refine ak (aq (ab 1 (ar (iL (XU []) 0 1 fun v2=>?_))))
  refine Z1 (Yd (ab 2 (ZW (fun fz gz m F h=>∃(j:Nat) (u:Value),(j<=xd.cons.length)/\F=sF [0,3,4] fz [(5,Hm (xd.cons.take j) u),(6,.i j)]/\h=[.tail u 1,Zk gz 1]/\m=xd.cons.length-j) _ _ _ ⟨0,v2,ob,rfl,rfl,rfl⟩ (wk [0,0] (fc (x:=Hm [] v2) (Zd.slh _ (Yr XU rfl)) (Y1 fl))) ?_)))
  rintro m F h ⟨j,u,Vo,rfl,rfl,rfl⟩
  refine YU 3 (Zl (Zi none (k:Int) 3 (WU hxd)) (Z0 2 (iw (Un xd.cons) (ZZ ((j:Int)<(xd.cons.length:Int)) (fun Ze=>?_) (fun Ze=>?_)))))
  ·refine ak (aq (ab 3 (az (Z0 3 (Zl (Zi none (k:Int) 3 (WU hxd)) (Z0 3 ?_))))))
   obtain ⟨x1,Z3⟩:=Zt xd.cons j om
   have hfl:=hd.fields_at hxd Z3
   refine Zl (Zi none (j:Int) 1 (AG Z3)) (Z0 2 (ic [] (Uh x1.fields) ?_))
   rintro _ _ ⟨v3,rfl,rfl⟩
   exact ZT 1 [(36,D0 x1)] (iL (XU [x1]) 1 1 fun v4=>ZT 0 [(37,KN [x1])] (ip 2 (XU (xd.cons.take (j+1))) (XU (xd.cons.take j)) (XU [x1]) u none 1 (En _) (En _) (Z73 _) (by simp<;>omega) (by rw [WB Z3];simp [XU]) fun v5=>Z1 (az (Z0 1 (ZG j (Z1 (ZF ⟨j+1,v5,ob,rfl,rfl,rfl⟩ (wk [0,2] (fr (ZI j fl))))))))))
  exact ax 2 (aE 16 (Zm 13 16 [0,1,2] (dx 3 (Zi none (k:Int) 3 (WU hxd)) (Zm 8 12 [4,5,6,7] (dx 8 (Zi none (k:Int) 3 (WU hxd)) (Yz 3 7 [9,10,11,12] [(51,.agg [.i xd.frm,.i xd.to_,KN (xd.cons.take j)])] (Z8 13 (dL 13 [] [] (YH [Zf.mk xd.frm xd.to_ (xd.cons.take j)]) 1 3 fun v6=>Yz 2 2 [] [(52,Ye [Zf.mk xd.frm xd.to_ (xd.cons.take j)])] (Z8 14 (dp 14 2 [] [] (YH (ds.take (k+1))) (YH (ds.take k)) (YH [Zf.mk xd.frm xd.to_ (xd.cons.take j)]) v none 3 (KH _) (KH _) (Ge _) (by simp<;>omega) (by rw [WB hxd];simp [YH,WM (show xd.cons.length<=j by omega)]) fun v7=>Zm 0 1 [15] (de (az (Z0 1 (ZG k (Z1 (ZF ⟨k+1,v7,ob,rfl,rfl,rfl⟩ (wk [0] (fr (ZI k fl)))))))))))))))))))
 exact ax 0 (ar (Zr (ZU (Ad (ds.take k) v) (Zd.sl _ (Yr YH (by rw [WM om]))))))
theorem Z9s (g:Wh) (hg:I6 g:=by exact ob):Zj 144 [At g] [] (fun r h=>∃(n:Zp),r=Yh n/\h=[]/\FO n 181 WY):=by
 have hgl:=hg.gp.len
 have XM:=hg.gp.decls.ok
 refine ZC 49 Tryz.func144 (ar (iA (LR g) fun b1=>iA [nl,nl] fun b2=>ie (Zu 2 [1] (Zv [] (BS g.decls) (iL (Yv []) 0 5 fun v1=>Z0 1 (iA [nl,nl] fun b3=>?_))))))
 refine Zx 0 b3 [Ye g.decls,Wu [] v1] (ie (Yd (ab 0 (ZW (fun fz gz m F h=>∃(k:Nat) (rs:List ZH) (u:Value),(k<=g.funcs.length)/\(rs.length=k)/\(∀r∈rs,RN g.decls g.funcs.length r)/\F=sF [1,2,3] fz [(4,.i k)]/\h=[.obj b3 [Ye g.decls,Wu rs u],Zk gz 2,Zk gz 3,.tail u 5]/\m=g.funcs.length-k) _ _ _ ⟨0,[],v1,ob,ob,(fun r hr=>by cases hr),rfl,rfl,rfl⟩ (wk [0,1,1,0] (Y1 fl)) ?_))))
 rintro m F h ⟨k,rs,u,Yg,Zh,Zw,rfl,rfl,rfl⟩
 refine Yf 3 [2] (iw (Dj g.funcs) (ZZ ((k:Int)<(g.funcs.length:Int)) (fun Zb=>?_) (fun Zb=>?_)))
 ·refine ak (aq (ab 1 (Zu 3 [2] ?_)))
  obtain ⟨x1,Z3⟩:=Zt g.funcs k om
  have hso:=(hg.gp.sigs _ (ZY Z3)).bd
  have hsi:=hg.gp.sigs _ (ZY Z3)
  have hbo:=hg.body _ (ZY Z3)
  refine Zl (Zi none (k:Int) 5 (Gf Z3)) (Z0 1 (iA [nl,.i 0,.i 0,.i 0,nl] fun b4=>?_))
  refine Zx 0 b4 (H6 x1) (ie (Zu 2 [0] (iw (Yo x1.params) (Z1 (aD 9 (ZQ 4 9 [0,1,2,3,5] [3,0] (J5 (fun fz gz F h=>∃(b5:Z4) (b6:Nat) (xs1:LI),(xs1.length=x1.params.length/\∀i∈xs1,(0:Int)<=i/\i<(0:Int)+x1.params.length)/\(LB g.decls g.funcs.length x1.params.length x1.body b5)/\F=sF [1,2,3,4,5] fz [(7,.p b6 0)]/\h=[.obj b6 (X9 b5),Zk gz 0,Zk gz 1,Zk gz 2,Zk gz 3,Zk gz 4]) ?_ ?_)))))))
  ·refine VE 4 7 ?_ ?_
   ·refine dc 4 [] [0,3] [b4,b1] (Ll 0 x1.params.length) ?_
    rintro _ _ ⟨xs1,rfl,rfl,Y9⟩
    have hnx:=Y9
    refine VE 6 7 ?_ ?_
    ·refine dc 6 [] [] [] (Lk g x1.body xs1 x1.params.length (hd:=hg.gp.decls) (he:=(by rw [hnx.1];exact hbo.1)) (hu:=(fun a ha=>by have:=hnx.2 a ha;omega))) ?_
     rintro _ _ ⟨b5,rfl,rfl,Yp⟩
     have hlb:=Yp
     exact Z8 7 (dA 7 [] [] [nl,.i 0] fun b6=>Z8 8 (YP 8 0 [] [] b6 (X9 b5) (de (ZV ⟨_,b6,_,(by assumption),(by assumption),rfl,rfl⟩ (ZE 6 fl)))))
    refine dA 7 [0,3] [b4,b1] [nl,.i 0] fun b7=>Z8 6 (dc 6 [] [] [] (Lk g x1.body xs1 x1.params.length (hd:=hg.gp.decls) (he:=(by rw [hnx.1];exact hbo.1)) (hu:=(fun a ha=>by have:=hnx.2 a ha;omega))) ?_)
    rintro _ _ ⟨b8,rfl,rfl,YV⟩
    have hlb:=YV
    exact Z8 8 (YP 8 0 [] [] b7 (X9 b8) (de (ZV ⟨_,b7,_,(by assumption),(by assumption),rfl,rfl⟩ (ZE 6 fl))))
   refine dA 7 [0,3] [b4,b1] [nl,.i 0] fun b9=>Z8 4 (dc 4 [] [1,4] [b4,b1] (Ll 0 x1.params.length) ?_)
   rintro _ _ ⟨xs2,rfl,rfl,X6⟩
   have hnx:=X6
   refine Z8 6 (dc 6 [] [] [] (Lk g x1.body xs2 x1.params.length (hd:=hg.gp.decls) (he:=(by rw [hnx.1];exact hbo.1)) (hu:=(fun a ha=>by have:=hnx.2 a ha;omega))) ?_)
   rintro _ _ ⟨b10,rfl,rfl,Xq⟩
   have hlb:=Xq
   exact Z8 8 (YP 8 0 [] [] b9 (X9 b10) (de (ZV ⟨_,b9,_,(by assumption),(by assumption),rfl,rfl⟩ (ZE 6 fl))))
  rintro F h ⟨b5,b6,xs1,Y9,Yp,rfl,rfl⟩
  have hnx:=Y9
  have hlb:=Yp
  refine aE 14 (ZQ 7 14 [0,1,2,3,6,7,8] [2,1,1,0] (VE 4 5 ?_ ?_))
  ·refine dc 4 [] [0,1,2] [b6,b4,b3] (Uh x1.params) ?_
   rintro _ _ ⟨v2,rfl,rfl⟩
   exact Z8 5 (dL 5 [0,1,2] [b6,b4,b3] (Z7 []) 0 1 fun v3=>Yz 4 5 [9] [(44,.agg [Z6 x1.params,Z6 [],.i x1.result,WW b5.steps,.i b5.result])] (Z8 10 (dL 10 [2] [b3] (Yv [ZH.mk x1.params [] x1.result (Z4.mk b5.steps b5.result)]) 1 5 fun v4=>Yz 3 3 [] [(45,Q3 [ZH.mk x1.params [] x1.result (Z4.mk b5.steps b5.result)])] (Z8 11 (dp 11 8 [] [] (Yv (rs++[ZH.mk x1.params [] x1.result (Z4.mk b5.steps b5.result)])) (Yv rs) (Yv [ZH.mk x1.params [] x1.result (Z4.mk b5.steps b5.result)]) u none 5 (U7 _) (U7 _) (Jw _) (by simp<;>omega) (by simp [A1,Yv]) fun v5=>Zm 1 2 [12] (Z8 13 (YP 13 6 [] [] b3 [Ye g.decls,Wu (rs++[ZH.mk x1.params [] x1.result (Z4.mk b5.steps b5.result)]) v5] (de (az (Z0 1 (ZG k (Z1 (ZF ⟨k+1,(rs++[ZH.mk x1.params [] x1.result (Z4.mk b5.steps b5.result)]),v5,ob,ob,(XJ Zw (RN.of hsi hlb hbo.2)),rfl,rfl,rfl⟩ (wk [0,6,6,0] (ZI k fl)))))))))))))))
  refine dL 5 [0,1,1,2] [b6,b4,b4,b3] (Z7 []) 0 1 fun v6=>Z8 4 (dc 4 [] [0,1,2] [b6,b4,b3] (Uh x1.params) ?_)
  rintro _ _ ⟨v7,rfl,rfl⟩
  exact Yz 4 5 [9] [(44,.agg [Z6 x1.params,Z6 [],.i x1.result,WW b5.steps,.i b5.result])] (Z8 10 (dL 10 [2] [b3] (Yv [ZH.mk x1.params [] x1.result (Z4.mk b5.steps b5.result)]) 1 5 fun v8=>Yz 3 3 [] [(45,Q3 [ZH.mk x1.params [] x1.result (Z4.mk b5.steps b5.result)])] (Z8 11 (dp 11 8 [] [] (Yv (rs++[ZH.mk x1.params [] x1.result (Z4.mk b5.steps b5.result)])) (Yv rs) (Yv [ZH.mk x1.params [] x1.result (Z4.mk b5.steps b5.result)]) u none 5 (U7 _) (U7 _) (Jw _) (by simp<;>omega) (by simp [A1,Yv]) fun v9=>Zm 1 2 [12] (Z8 13 (YP 13 6 [] [] b3 [Ye g.decls,Wu (rs++[ZH.mk x1.params [] x1.result (Z4.mk b5.steps b5.result)]) v9] (de (az (Z0 1 (ZG k (Z1 (ZF ⟨k+1,(rs++[ZH.mk x1.params [] x1.result (Z4.mk b5.steps b5.result)]),v9,ob,ob,(XJ Zw (RN.of hsi hlb hbo.2)),rfl,rfl,rfl⟩ (wk [0,6,6,0] (ZI k fl))))))))))))))
 exact ax 0 (Zu 1 [0] (Zx 1 b2 [Ye g.decls,Wu rs u] (ie (ZL (r3 [] [.agg [Ye g.decls,Wu rs u]] [0] [(b2,b2)] ⟨(Zp.mk g.decls rs),rfl,rfl,(RN.all hg.gp.decls (by show 1<=rs.length/\rs.length<=4;omega) (by show ∀r∈rs,RN g.decls rs.length r;rw [show rs.length=g.funcs.length by omega];exact Zw) om)⟩ (Zd.agg (.cons (lr _) (.cons (Zd.forget _ _) .nil))))))))
theorem Z1t (n:Zp) (hz:WT n:=by exact ob):Zj 108 [Yh n] [] (Y7 (.b (WG n))):=by
 have hzl:=hz.len
 refine ZC 35 Tryz.func108 (ar (iA (Yx n) fun b1=>Z1 (Yf 1 [0] (Zv [] (Zjm n (hz:=hz.decls) (hr:=(fun r hr=>⟨hz.params r hr,hz.lent r hr⟩))) (YJ (!VW n) (p:=¬(VW n=true)) (Yq Iff.rfl) (fun Zb=>?_) (fun Zb=>?_))))))
 ·exact ar (Zr (ZU (.b false) (lb (by first|rfl|omega|grind [WG]))))
 have hok:=M7 hz (by simpa using Zb)
 refine ak (Yd (ab 0 (ZW (fun fz gz m F h=>∃(k:Nat),(k<=n.routines.length)/\(Qi n (n.routines.drop k)=Qi n n.routines)/\F=sF [1] fz [(3,.i k)]/\h=gz/\m=n.routines.length-k) _ _ _ ⟨0,ob,ob,rfl,rfl,rfl⟩ (wk [0] (Y1 fl)) ?_)))
 rintro m F h ⟨k,Yg,Zh,rfl,rfl,rfl⟩
 refine Yf 3 [0] (iw (V4 n.routines) (ZZ ((k:Int)<(n.routines.length:Int)) (fun Ze=>?_) (fun Ze=>?_)))
 ·refine ak (aq (ab 1 (Zu 3 [0] ?_)))
  obtain ⟨x1,Z3⟩:=Zt n.routines k om
  have ZM:=hz.body _ (ZY Z3)
  have hps:=hok.params_at Z3
  refine Zl (Zi none (k:Int) 5 (Wf Z3)) (Z0 1 (iA [nl,nl,.i 0,nl,.i 0] fun b2=>Zx 0 b2 (U0 x1) (ie (aD 15 (ZQ 13 15 [0,1] [0] (Z8 2 (Yu 2 [] [] [] (Zjh x1.body) (AB [1,3] [(34,.b ((decide ((TP x1.body)<0))||((Xb n x1.params x1.body) != x1.result)))] (fun gz=>gz) ?_ ?_))))))))
  ·refine Zm 10 12 [3,4] (db (b:=(decide ((TP x1.body)<0))) 24 (fun Zc=>?_) (fun Zc=>?_))
   ·exact Zm 0 10 [5,6,7,8,9,10,11,12,13,14] (de (wk [0,0] (Zs true Zc fl)))
   exact ZQ 3 10 [5,6,7,8,9,11,12] [1,0,0,0] (Z8 10 (Yu 10 [] [0] [b2] (Z1j n x1.params x1.body ob ob) (Zm 0 2 [13,14] (de (wk [0,0] (Zs ((Xb n x1.params x1.body) != x1.result) Zc fl))))))
  refine ac ((decide ((TP x1.body)<0))||((Xb n x1.params x1.body) != x1.result)) (p:=((TP x1.body)<0)∨((Xb n x1.params x1.body)≠x1.result)) (Yj dq Yc) (fun ZB=>?_) (fun ZB=>?_)
  ·refine ZJ ?_
   rw [Y6 Z3] at Zh
   exact ZL (ZU (.b false) (lb (by clear Z3;first|rfl|omega|grind [Qi,WG])))
  refine ak (az (Z0 1 (ZG k (Z1 ?_))))
  have hdr:=Y6 Z3
  exact ZF ⟨k+1,ob,(by rw [hdr] at Zh;clear hdr Z3;grind [Qi]),rfl,rfl,rfl⟩ (wk [1] (ZI k fl))
 refine ax 0 (ZJ ?_)
 try rw [Xg (xs:=n.routines) (k:=k) om] at Zh
 exact ZL (ZU (.b true) (lb (by first|rfl|omega|grind [Qi,WG])))
theorem ML (op:Int) :Zj 172 [.i op] [] (Y7 (.b (Yw op))):=by
 exact ZC 5 Tryz.func172 (ZJ (Yb 1 (Zv [] (Tw op 14 17) (Zr (ZU (.b (decide (14<=op/\op<=17))) (lb (by first|rfl|omega|grind [Yw])))))))
theorem MJ (op:Int) :Zj 232 [.i op] [] (Y7 (.b (Vi op))):=by
 refine ZC 17 Tryz.func232 (ZJ (ar (Xr 6 [0] [(8,.b ((op==6)||(op==9)))] (fun gz=>gz) ?_ (fun hj1=>?_))))
 ·refine Xr 10 [0] [(12,.b (((op==6)||(op==9))||(op==10)))] (fun gz=>gz) ?_ (fun hj2=>?_)
  ·refine Xr 14 [] [(16,.b ((((op==6)||(op==9))||(op==10))||(op==11)))] (fun gz=>gz) ?_ (fun hj3=>?_)
   ·exact Zr (ZU (.b ((((op==6)||(op==9))||(op==10))||(op==11))) (lb (by first|rfl|omega|grind [Vi])))
   refine Z0 1 (ib (b:=(((op==6)||(op==9))||(op==10))) 13 (fun Zc=>?_) (fun Zc=>?_))
   ·exact Z0 3 (Yn (wk [] (Zs true Zc fl)) hj3)
   exact Z0 3 (Yn (wk [] (Zs (op==11) Zc fl)) hj3)
  refine Z0 1 (ib (b:=((op==6)||(op==9))) 9 (fun ZA=>?_) (fun ZA=>?_))
  ·exact Z0 3 (Yn (wk [] (Zs true ZA fl)) hj2)
  exact Z0 3 (Yn (wk [] (Zs (op==10) ZA fl)) hj2)
 refine Z0 3 (ib (b:=(op==6)) 5 (fun Yt=>?_) (fun Yt=>?_))
 ·exact Z0 3 (Yn (wk [] (Zs true Yt fl)) hj1)
 exact Z0 3 (Yn (wk [] (Zs (op==9) Yt fl)) hj1)
theorem DU (n:Zp) (s:Z5) (i:Nat) (hn:Xe n:=by exact ob) (hnum:s.op=9->0<=s.num/\s.num<n.routines.length:=by exact ob):Zj 233 [Yh n,YL s,.i i] [] (Y7 (.b (U1 n s.op s.num i))):=by
 refine ZC 21 Tryz.func233 (ar (iA (Yx n) fun b1=>iA (Xw s) fun b2=>Z1 (Zu 4 [0] (ib (b:=(s.op==9)) 10 (fun Zc=>?_) (fun Zc=>?_)))))
 ·have Y9:s.op=9:=(Zq).1 Zc
  refine ZO 4 [1,0] ?_
  obtain ⟨x1,Z3⟩:=Zt n.routines s.num.toNat om
  have hlt:=hn.lent_at Z3
  have hlr:=Ze5 (n:=n) Y9 Z3
  exact Zl (Zi none s.num 5 (Wf Z3)) (Z0 3 (Zv [] (UY x1.lent (i:Int)) (Zr (ZU (.b (decide ((i:Int)∈x1.lent))) (lb (by rw [U1,hlr]))))))
 have Yp:¬(s.op=9):=Ya Zq Zc
 exact Zr (ZU (.b false) (lb (by rw [U1,CG,Z9 Yp];simp)))
theorem HM (n:Zp) (us:LI) (s:Z5) (i:Nat) (a:Int) (hn:Xe n:=by exact ob) (hnum:s.op=9->0<=s.num/\s.num<n.routines.length:=by exact ob) (ha:s.args[i]? = some a:=by exact ob) (hi:0<=a/\a<us.length:=by exact ob):Zj 257 [Yh n,Z6 us,YL s,.i i] [] (Y7 (.b (Jt n us s.op s.num a i))):=by
 have hal:=(Xj.1 ha).1
 refine ZC 30 Tryz.func257 (ar (iA (Yx n) fun b1=>iA (Xw s) fun b2=>Z1 (Zu 2 [0] (Zv [] (MJ s.op) (Z0 1 (ib (b:=Vi s.op) 12 (fun Zc=>?_) (fun Zc=>?_)))))))
 ·refine ZO 4 [0] ?_
  obtain ⟨x1,Z3⟩:=Zt s.args i om
  have hxa:x1=a:=by rw [ha] at Z3;exact (Qs Z3).symm
  subst hxa
  refine Zl (Zi none (i:Int) 1 (Y5 Z3)) (Z0 1 ?_)
  obtain ⟨x2,Zo⟩:=Zt us x1.toNat om
  have hga:=TY Zo
  refine Zl (Zi none x1 1 (Y5 Zo)) (Z0 4 (ib (b:=(x2 != 0)) 23 (fun ZA=>?_) (fun ZA=>?_)))
  ·exact ZO 3 [1,0] (Zv [] (DU n s i) (Zr (ZU (.b (!U1 n s.op s.num i)) (lb (by clear Z3 Zo;first|rfl|(rw [Jt];grind))))))
  exact Zr (ZU (.b false) (lb (by clear Z3 Zo;first|rfl|(rw [Jt];grind))))
 exact Zr (ZU (.b false) (lb (by  first|rfl|(rw [Jt];grind))))
theorem Z1p (xs:LI) (ys:LI) (hl_xs:xs.length<=4294967296:=by exact ob) (hl_ys:ys.length<=4294967296:=by exact ob):Zj 260 [Z6 xs,Z6 ys] [] (Y7 (.b (decide (xs=ys)))):=by
 refine ZC 26 Tryz.func260 (ZJ (YU 1 (iw (Yo xs) (Z0 1 (iw (Yo ys) (YJ ((xs.length:Int) != (ys.length:Int)) Yc (fun Zb=>?_) (fun Zb=>?_)))))))
 ·exact ar (Zr (ZU (.b false) (lb (eq_comm.1 (decide_eq_false (fun q=>by rw [q] at Zb;exact Zb rfl))))))
 refine ak (Yd (ab 0 (ZW (fun fz gz m F h=>∃(k:Nat),(k<=xs.length)/\(xs.take k=ys.take k)/\F=sF [0,1] fz [(5,.i k)]/\h=gz/\m=xs.length-k) _ _ _ ⟨0,ob,ob,rfl,rfl,rfl⟩ (wk [] (Y1 fl)) ?_)))
 rintro m F h ⟨k,Yg,Zh,rfl,rfl,rfl⟩
 refine YU 2 (iw (Yo xs) (ZZ ((k:Int)<(xs.length:Int)) (fun Ze=>?_) (fun Ze=>?_)))
 ·refine ak (aq (ab 1 (aD 9 (Zm 7 9 [0,1] ?_))))
  obtain ⟨x1,Z3⟩:=Zt xs k om
  refine dx 2 (Zi none (k:Int) 1 (Y5 Z3)) (Zm 3 6 [3,4,5] ?_)
  obtain ⟨x2,Zo⟩:=Zt ys k om
  refine dx 6 (Zi none (k:Int) 1 (Y5 Zo)) (Zm 0 2 [7,8] (de (ac (x1 != x2) Yc (fun ZB=>?_) (fun ZB=>?_))))
  ·exact ar (Zr (ZU (.b false) (lb (eq_comm.1 (decide_eq_false (fun q=>by subst q;rw [Z3] at Zo;cases Zo;exact ZB rfl))))))
  refine ak (az (Z0 1 (ZG k (Z1 ?_))))
  have hdr:=Y6 Z3
  exact ZF ⟨k+1,ob,(by rw [WB Z3,WB Zo,Zh];have hxx:x1=x2:=om;rw [hxx]),rfl,rfl,rfl⟩ (wk [] (ZI k fl))
 exact ax 0 (ar (Zr (ZU (.b true) (lb (eq_comm.1 (decide_eq_true (by rw [WM om,WM om] at Zh;exact Zh)))))))
theorem BT (xs:LI) (hlen:xs.length<=4294967296:=by exact ob):Zj 139 [Z6 xs] [] (fun r h=>∃(v:Hd),r=.h v/\h=[rV v xs]):=by
 exact ZC 6 Tryz.func139 (ZJ (ar (iVL [] 0 fun v1=>Z0 1 (Aa 0 v1 [] xs none fun v2=>Zr (r1 [0] ⟨v2,rfl,rfl⟩ (eq:=(rv (xs:=([]++xs)) ob rz)))))))
theorem KL (b:Nat) (ga:Hd) (gb:Hd) (gc:Hd) (gd:Hd) (ge:Hd) (gf:Hd) (L:ZP) (ln:LI) (t:Int) (o:Int) (p:Int) (hlb:L.vars.length<=1000000000:=by exact ob) (hlk:TC L:=by exact ob):Zj 206 [.p b 0,.i t,.i o,.i p] [.obj b [.h ga,.h gb,.h gc,.h gd,.h ge,.h gf,Z6 ln],rV ga L.vars,rV gb L.own,rV gc L.par,rV gd L.con,rV ge L.fst,rV gf L.tok] (fun r h=>∃(wa:Hd) (wb:Hd) (wc:Hd) (wd:Hd) (we:Hd) (wf:Hd),h=[.obj b [.h wa,.h wb,.h wc,.h wd,.h we,.h wf,Z6 ln],rV wa ((L.grow t o p).vars),rV wb ((L.grow t o p).own),rV wc ((L.grow t o p).par),rV wd ((L.grow t o p).con),rV we ((L.grow t o p).fst),rV wf ((L.grow t o p).tok)]):=by
 obtain ⟨e1,e2,e3,e4,e5⟩:=hlk
 exact ZC 65 Tryz.func206 (Zu 6 [0] (iL (Z7 [t]) 1 1 fun v1=>ZT 0 [(14,Z6 [t])] (Aa 2 ga L.vars [t] none fun v2=>Z0 2 (Zx 2 b [.h v2,.h gb,.h gc,.h gd,.h ge,.h gf,Z6 ln] (ie (Zu 6 [0] (iL (Z7 [o]) 1 1 fun v3=>ZT 0 [(24,Z6 [o])] (Aa 4 gb L.own [o] none fun v4=>Z0 2 (Zx 2 b [.h v2,.h v4,.h gc,.h gd,.h ge,.h gf,Z6 ln] (ie (Zu 6 [0] (iL (Z7 [p]) 1 1 fun v5=>ZT 0 [(34,Z6 [p])] (Aa 6 gc L.par [p] none fun v6=>Z0 2 (Zx 2 b [.h v2,.h v4,.h v6,.h gd,.h ge,.h gf,Z6 ln] (ie (Zu 5 [0] (iL (Z7 [-1]) 1 1 fun v7=>ZT 0 [(43,Z6 [-1])] (Aa 8 gd L.con [-1] none fun v8=>Z0 2 (Zx 2 b [.h v2,.h v4,.h v6,.h v8,.h ge,.h gf,Z6 ln] (ie (Zu 5 [0] (iL (Z7 [-1]) 1 1 fun v9=>ZT 0 [(52,Z6 [-1])] (Aa 10 ge L.fst [-1] none fun v10=>Z0 2 (Zx 2 b [.h v2,.h v4,.h v6,.h v8,.h v10,.h gf,Z6 ln] (ie (az (ZO 5 [0] (iL (Z7 [-1]) 1 1 fun v11=>ZT 0 [(61,Z6 [-1])] (Aa 12 gf L.tok [-1] none fun v12=>Z0 2 (Zx 2 b [.h v2,.h v4,.h v6,.h v8,.h v10,.h v12,Z6 ln] (ie (r2 [0,10,8,6,4,2,0] [] ⟨v2,v4,v6,v8,v10,v12,rfl⟩ (lr _) (eq:=(rc (rv (xs:=(L.vars++[t])) ob (rv (xs:=(L.own++[o])) ob (rv (xs:=(L.par++[p])) ob (rv (xs:=(L.con++[-1])) ob (rv (xs:=(L.fst++[-1])) ob (rv (xs:=(L.tok++[-1])) ob rz))))))))))))))))))))))))))))))))))))))))
theorem Ze0 (b:Nat) (ga:Hd) (gb:Hd) (gc:Hd) (gd:Hd) (ge:Hd) (gf:Hd) (L:ZP) (ln:LI) (hlb:L.vars.length<=1000000000:=by exact ob) (hlk:TC L:=by exact ob) (hln:ln.length<=4294967296:=by exact ob):Zj 283 [.p b 0] [.obj b [.h ga,.h gb,.h gc,.h gd,.h ge,.h gf,Z6 ln],rV ga L.vars,rV gb L.own,rV gc L.par,rV gd L.con,rV ge L.fst,rV gf L.tok] (fun r h=>∃(c:Nat) (wa:Hd) (wb:Hd) (wc:Hd) (wd:Hd) (we:Hd) (wf:Hd),r=.p c 0/\h=[.obj c [.h wa,.h wb,.h wc,.h wd,.h we,.h wf,Z6 ln],rV wa L.vars,rV wb L.own,rV wc L.par,rV wd L.con,rV we L.fst,rV wf L.tok,.obj b [.h ga,.h gb,.h gc,.h gd,.h ge,.h gf,Z6 ln],rV ga L.vars,rV gb L.own,rV gc L.par,rV gd L.con,rV ge L.fst,rV gf L.tok]):=by
 obtain ⟨e1,e2,e3,e4,e5⟩:=hlk
 refine ZC 40 Tryz.func283 (ZJ (aD 38 (ZQ 10 38 [0,1,2,3,5,6,7,8,10,11,12,13,15,16,17,18,20,21,22,23,25,26,27,28,30,31,32,33] [0,0,0,0,0,0,0] (Z8 4 (JV 4 [1] [0,0,0,0,0,0] [b,b,b,b,b,b] [rV ga L.vars] (BT L.vars) D8 (gL (v:=ga) 0 gN) (Jc Ab) ?_)))))
 rintro _ _ ⟨v1,rfl,rfl⟩
 refine Z8 9 (JV 9 [3] [0,0,0,0,0] [b,b,b,b,b] [rV gb L.own] (BT L.own) D8 (gL (v:=gb) 0 gN) (Jc Ab) ?_)
 rintro _ _ ⟨v2,rfl,rfl⟩
 refine Z8 14 (JV 14 [5] [0,0,0,0] [b,b,b,b] [rV gc L.par] (BT L.par) D8 (gL (v:=gc) 0 gN) (Jc Ab) ?_)
 rintro _ _ ⟨v3,rfl,rfl⟩
 refine Z8 19 (JV 19 [7] [0,0,0] [b,b,b] [rV gd L.con] (BT L.con) D8 (gL (v:=gd) 0 gN) (Jc Ab) ?_)
 rintro _ _ ⟨v4,rfl,rfl⟩
 refine Z8 24 (JV 24 [9] [0,0] [b,b] [rV ge L.fst] (BT L.fst) D8 (gL (v:=ge) 0 gN) (Jc Ab) ?_)
 rintro _ _ ⟨v5,rfl,rfl⟩
 refine Z8 29 (JV 29 [11] [0] [b] [rV gf L.tok] (BT L.tok) D8 (gL (v:=gf) 0 gN) (Jc Ab) ?_)
 rintro _ _ ⟨v6,rfl,rfl⟩
 refine Z8 34 (dc 34 [] [] [] (Uh ln) ?_)
 rintro _ _ ⟨v7,rfl,rfl⟩
 exact Yz 2 3 [35] [(38,.agg [.h v1,.h v2,.h v3,.h v4,.h v5,.h v6,Z6 ln])] (Z8 36 (dA 36 [] [] [.h v1,.h v2,.h v3,.h v4,.h v5,.h v6,Z6 ln] fun b1=>Zm 0 1 [37] (de (ZL (r1 [0,11,9,7,5,3,1,7,6,5,4,3,2,1] ⟨b1,v1,v2,v3,v4,v5,v6,rfl,rfl⟩)))))
theorem Hb (b:Nat) (ga:Hd) (gb:Hd) (gc:Hd) (gd:Hd) (ge:Hd) (gf:Hd) (L:ZP) (ln:LI) (i:Int) (hlk:TC L:=by exact ob) (hi:0<=i/\i<L.vars.length:=by exact ob) (hq:∀x∈L.own,0<=x/\x<=1000000000):Zj 207 [.p b 0,.i i] [.obj b [.h ga,.h gb,.h gc,.h gd,.h ge,.h gf,Z6 ln],rV ga L.vars,rV gb L.own,rV gc L.par,rV gd L.con,rV ge L.fst,rV gf L.tok] (fun r h=>(∃(wa:Hd) (wb:Hd) (wc:Hd) (wd:Hd) (we:Hd) (wf:Hd) (L':ZP),r=.b true/\h=[.obj b [.h wa,.h wb,.h wc,.h wd,.h we,.h wf,Z6 ln],rV wa L'.vars,rV wb L'.own,rV wc L'.par,rV wd L'.con,rV we L'.fst,rV wf L'.tok]/\Qn L i=some L')∨(r=.b false/\h=[]/\Qn L i=none)):=by
 obtain ⟨e1,e2,e3,e4,e5⟩:=hlk
 refine ZC 27 Tryz.func207 (ZJ (Yf 5 [0] (Zl (Ui 2 gb L.own i i.toNat (hq:=rfl)) ?_)))
 obtain ⟨x1,Z3⟩:=Zt L.own i.toNat om
 have hxq:=hq _ (ZY Z3)
 have hgi:=TY Z3
 refine VV (QJ 2 gb L.own i.toNat x1 Z3) (ZZ (x1<1) (fun Zb=>?_) (fun Zb=>?_))
 ·exact ar (Zr (r1 [] (.inr ⟨rfl,rfl,(by rw [Qn,hgi,Zg Zb])⟩)))
 exact ak (aD 15 (ZQ 5 15 [0,1,2,3,4,5,6,7,8,9] [0,0] (dx 10 (Ui 2 gb L.own i i.toNat (hq:=rfl)) (U5 11 (QJ 2 gb L.own i.toNat x1 Z3) (da 12 ((x1-1)) ((x1)-(1)) (dx 13 (Ui 2 gb L.own i i.toNat (hq:=rfl)) (Z8 14 (Bv 14 2 [] [] gb L.own i.toNat (x1-1) (de (ar (Zr (r1 [1,1,0,0,0,0,0] (.inl ⟨ga,gb,gc,gd,ge,gf,(ZP.mk L.vars (L.own.set i.toNat (x1-1)) L.par L.con L.fst L.tok),rfl,rfl,(by rw [Qn,hgi,Z9 Zb])⟩) (eq:=(rc (rv (xs:=L.vars) ob (rv (xs:=(L.own.set i.toNat (x1-1))) ob (rv (xs:=L.par) ob (rv (xs:=L.con) ob (rv (xs:=L.fst) ob (rv (xs:=L.tok) ob rz))))))))))))))))))))
theorem Ha (b:Nat) (ga:Hd) (gb:Hd) (gc:Hd) (gd:Hd) (ge:Hd) (gf:Hd) (L:ZP) (ln:LI) (i:Int) (hlk:TC L:=by exact ob) (hln:ln.length<=4294967296:=by exact ob) (hi:0<=i/\i<L.vars.length:=by exact ob) (hd:∀j:Int,0<=j->j<L.vars.length->gI L.par j<j):Zj 88 [.p b 0,.i i] [.obj b [.h ga,.h gb,.h gc,.h gd,.h ge,.h gf,Z6 ln],rV ga L.vars,rV gb L.own,rV gc L.par,rV gd L.con,rV ge L.fst,rV gf L.tok] (fun r h=>r=.b (UO L ln i)/\h=[.obj b [.h ga,.h gb,.h gc,.h gd,.h ge,.h gf,Z6 ln],rV ga L.vars,rV gb L.own,rV gc L.par,rV gd L.con,rV ge L.fst,rV gf L.tok]):=by
 obtain ⟨e1,e2,e3,e4,e5⟩:=hlk
 refine ZC 31 Tryz.func88 (ZJ (aq (ab 0 (ZW (fun fz gz m F h=>∃(j:Int),(0<=j/\j<L.vars.length)/\(K5 L.own L.par ln (j.toNat+1) j=UO L ln i)/\F=sF [0] fz [(1,.i j)]/\h=gz/\m=j.toNat) _ _ _ ⟨i,ob,ob,rfl,rfl,rfl⟩ (ZE 7 fl) ?_))))
 rintro m F h ⟨j,Yg,Zh,rfl,rfl,rfl⟩
 refine Yf 5 [0] (Zl (Ui 2 gb L.own j j.toNat (hq:=rfl)) ?_)
 obtain ⟨x1,Z3⟩:=Zt L.own j.toNat om
 have hg1:=TY Z3
 refine VV (QJ 2 gb L.own j.toNat x1 Z3) (Xt [0,1] [(21,.b ((decide (x1<1))&&(!(decide (j∈ln)))))] (fun gz=>gz) ?_ ?_)
 ·refine Z0 2 (ib (b:=(decide (x1<1))) 13 (fun Zc=>?_) (fun Zc=>?_))
  ·exact ZO 5 [0] (Zv [] (UY ln j) (Z1 (ZE 7 (Zs (!(decide (j∈ln))) Zc fl))))
  exact Z1 (ZE 7 (Zs false Zc fl))
 refine ac ((decide (x1<1))&&(!(decide (j∈ln)))) (p:=(x1<1)/\(¬(j∈ln))) (YA dq (Yq dq)) (fun Zb=>?_) (fun Zb=>?_)
 ·refine ak (ab 1 (Zu 5 [0] (Zl (Ui 3 gc L.par j j.toNat (hq:=rfl)) ?_)))
  obtain ⟨x2,Zo⟩:=Zt L.par j.toNat om
  have hg2:=TY Zo
  have hdj:=hd j om om
  rw [hg2] at hdj
  refine VV (QJ 3 gc L.par j.toNat x2 Zo) (Z1 (ar (ZZ (x2<0) (fun Ze=>?_) (fun Ze=>?_))))
  ·exact ar (Zr (r2 [0,0,0,0,0,0,0] [.b false] ⟨rfl,rfl⟩ (lb (Z3o hg1 hg2 Zb Ze Zh))))
  exact ak (ZF ⟨x2,om,(Z3p hg1 hg2 Yg Zb Ze hd Zh),rfl,rfl,rfl⟩ (ZE 7 fl))
 exact ax 0 (ar (Zr (r2 [0,0,0,0,0,0,0] [.b true] ⟨rfl,rfl⟩ (lb (Z3q hg1 Zb Zh)))))
theorem RP (b:Nat) (ga:Hd) (gb:Hd) (gc:Hd) (gd:Hd) (ge:Hd) (gf:Hd) (L:ZP) (ln:LI) (mm:Nat) (hlk:TC L:=by exact ob) (hlb:L.vars.length<=1000000000:=by exact ob) (hm:mm<=L.vars.length:=by exact ob):Zj 171 [.p b 0,.i mm] [.obj b [.h ga,.h gb,.h gc,.h gd,.h ge,.h gf,Z6 ln],rV ga L.vars,rV gb L.own,rV gc L.par,rV gd L.con,rV ge L.fst,rV gf L.tok] (fun r h=>(∃(wa:Hd) (wb:Hd) (wc:Hd) (wd:Hd) (we:Hd) (wf:Hd) (L':ZP),r=.b true/\h=[.obj b [.h wa,.h wb,.h wc,.h wd,.h we,.h wf,Z6 ln],rV wa L'.vars,rV wb L'.own,rV wc L'.par,rV wd L'.con,rV we L'.fst,rV wf L'.tok]/\JU L mm=some L')∨(r=.b false/\h=[]/\JU L mm=none)):=by
 obtain ⟨e1,e2,e3,e4,e5⟩:=hlk
 refine ZC 88 Tryz.func171 (ZJ (Yd (ab 0 (ZW (fun fz gz m F h=>∃(k:Nat),(mm<=k/\k<=L.vars.length)/\(C0 (L.own.drop k) (L.tok.drop k)=C0 (L.own.drop mm) (L.tok.drop mm))/\F=sF [0,1] fz [(5,.i k)]/\h=gz/\m=L.vars.length-k) _ _ _ ⟨mm,ob,ob,rfl,rfl,rfl⟩ (ZE 7 fl) ?_))))
 rintro m F h ⟨k,Yg,Zh,rfl,rfl,rfl⟩
 refine Yf 5 [0] (Zl (Bb 1 ga L.vars) (ZZ ((k:Int)<(L.vars.length:Int)) (fun Zb=>?_) (fun Zb=>?_)))
 ·refine ak (aq (ab 1 (Zu 5 [0] (Zl (Ui 2 gb L.own (k:Int) k) ?_))))
  obtain ⟨x1,Z3⟩:=Zt L.own k om
  refine VV (QJ 2 gb L.own k x1 Z3) (Z0 2 (ib (b:=(x1 != 0)) 24 (fun Zc=>?_) (fun Zc=>?_)))
  ·have Y9:x1≠0:=(Yc).1 Zc
   refine Z1 (V9 (ZJ ?_))
   obtain ⟨y2,hy2⟩:=Zt L.tok k om
   exact ZL (r1 [] (.inr ⟨rfl,rfl,(by rw [JU,<-Zh,Y6 Z3,Y6 hy2,C0,Zg (show x1≠0∨0<=y2 by omega)];rfl)⟩))
  have Yp:¬(x1≠0):=Ya Yc Zc
  refine ZO 5 [0] (Zl (Ui 6 gf L.tok (k:Int) k) ?_)
  obtain ⟨x2,Zo⟩:=Zt L.tok k om
  refine VV (QJ 6 gf L.tok k x2 Zo) (ZZ (x2>=0) (fun Ze=>?_) (fun Ze=>?_))
  ·exact ar (Zr (r1 [] (.inr ⟨rfl,rfl,(by rw [JU,<-Zh,Y6 Z3,Y6 Zo,C0,Zg (show x1≠0∨0<=x2 by omega)];rfl)⟩)))
  exact ak (az (Z0 1 (ZG k (Z1 (ZF ⟨k+1,ob,(by rw [Y6 Z3,Y6 Zo,C0,Z9 om] at Zh;exact Zh),rfl,rfl,rfl⟩ (ZE 7 (ZI k fl)))))))
 exact ax 0 (Zu 6 [0] (Zl (BZ 1 ga L.vars mm) (Z0 2 (XV (CQ 1 mm ga L.vars) (Zx 1 b [.h (ga.cut mm),.h gb,.h gc,.h gd,.h ge,.h gf,Z6 ln] (ie (Zu 6 [0] (Zl (BZ 2 gb L.own mm) (Z0 2 (XV (CQ 2 mm gb L.own) (Zx 1 b [.h (ga.cut mm),.h (gb.cut mm),.h gc,.h gd,.h ge,.h gf,Z6 ln] (ie (Zu 6 [0] (Zl (BZ 3 gc L.par mm) (Z0 2 (XV (CQ 3 mm gc L.par) (Zx 1 b [.h (ga.cut mm),.h (gb.cut mm),.h (gc.cut mm),.h gd,.h ge,.h gf,Z6 ln] (ie (Zu 6 [0] (Zl (BZ 4 gd L.con mm) (Z0 2 (XV (CQ 4 mm gd L.con) (Zx 1 b [.h (ga.cut mm),.h (gb.cut mm),.h (gc.cut mm),.h (gd.cut mm),.h ge,.h gf,Z6 ln] (ie (Zu 6 [0] (Zl (BZ 5 ge L.fst mm) (Z0 2 (XV (CQ 5 mm ge L.fst) (Zx 1 b [.h (ga.cut mm),.h (gb.cut mm),.h (gc.cut mm),.h (gd.cut mm),.h (ge.cut mm),.h gf,Z6 ln] (ie (Zu 6 [0] (Zl (BZ 6 gf L.tok mm) (Z0 2 (XV (CQ 6 mm gf L.tok) (Zx 1 b [.h (ga.cut mm),.h (gb.cut mm),.h (gc.cut mm),.h (gd.cut mm),.h (ge.cut mm),.h (gf.cut mm),Z6 ln] (ie (ar (Zr (r1 [0,5,4,3,2,1,0] (.inl ⟨(ga.cut mm),(gb.cut mm),(gc.cut mm),(gd.cut mm),(ge.cut mm),(gf.cut mm),(ZP.mk (L.vars.take mm) (L.own.take mm) (L.par.take mm) (L.con.take mm) (L.fst.take mm) (L.tok.take mm)),rfl,rfl,(by rw [JU,Zg (by rw [<-Zh,Xg om];rfl)];rfl)⟩) (eq:=(rc (rv (xs:=(L.vars.take mm)) ob (rv (xs:=(L.own.take mm)) ob (rv (xs:=(L.par.take mm)) ob (rv (xs:=(L.con.take mm)) ob (rv (xs:=(L.fst.take mm)) ob (rv (xs:=(L.tok.take mm)) ob rz)))))))))))))))))))))))))))))))))))))))))))))))
theorem Ze2 (b:Nat) (ga:Hd) (gb:Hd) (gc:Hd) (gd:Hd) (ge:Hd) (gf:Hd) (n:Zp) (s:Z5) (L:ZP) (ln:LI) (q:Int) (x:Int) (hn:Xe n:=by exact ob) (hk:XO n.decls L q:=by exact ob) (hlb:L.vars.length<=1000000000:=by exact ob) (ha:s.args[0]? = some x:=by exact ob) (hx:0<=x/\x<L.vars.length:=by exact ob) (hq:0<=q/\q<=999999990:=by exact ob):Zj 208 [.p b 0,Yh n,YL s] [.obj b [.h ga,.h gb,.h gc,.h gd,.h ge,.h gf,Z6 ln],rV ga L.vars,rV gb L.own,rV gc L.par,rV gd L.con,rV ge L.fst,rV gf L.tok] (fun r h=>(∃(wa:Hd) (wb:Hd) (wc:Hd) (wd:Hd) (we:Hd) (wf:Hd) (L':ZP),r=.b true/\h=[.obj b [.h wa,.h wb,.h wc,.h wd,.h we,.h wf,Z6 ln],rV wa L'.vars,rV wb L'.own,rV wc L'.par,rV wd L'.con,rV we L'.fst,rV wf L'.tok]/\Ae n.decls L s.op x=some L')∨(r=.b false/\h=[]/\Ae n.decls L s.op x=none)):=by
 obtain ⟨e1,e2,e3,e4,e5⟩:=hk.len
 have XM:=hn.decls
 have hal:=(Xj.1 ha).1
 obtain ⟨xcon,hxcon⟩:=Zt L.con ((x).toNat) om
 have hgcon:=TY hxcon
 obtain ⟨xtok,hxtok⟩:=Zt L.tok ((x).toNat) om
 have hgtok:=TY hxtok
 obtain ⟨xfst,hxfst⟩:=Zt L.fst ((x).toNat) om
 have hgfst:=TY hxfst
 have hfl:=Um XM xcon
 have har:=hk.arm x om om
 rw [hgcon,hgfst] at har
 refine ZC 105 Tryz.func208 (ar (iA (Yx n) fun b1=>iA (Xw s) fun b2=>Z1 (Zu 2 [0] (Zl (Zi none 0 1 (Y5 ha)) (Z1 (Yf 5 [2] (Zl (Ui 6 gd L.con x x.toNat (hq:=rfl)) (VV (QJ 6 gd L.con x.toNat xcon hxcon) (Xr 23 [0,4,5,7] [(36,.b ((decide (xcon<0))||((s.op==17)&&(decide (xtok>=0)))))] (fun gz=>gz) ?_ (fun hj1=>?_))))))))))
 ·refine Z0 1 (ib (b:=((decide (xcon<0))||((s.op==17)&&(decide (xtok>=0))))) 37 (fun Zc=>?_) (fun Zc=>?_))
  ·have Y9:(xcon<0)∨((s.op=17)/\(xtok>=0)):=((Yj dq (YA Zq dq))).1 Zc
   exact Z1 (V9 (ar (Zr (r1 [] (.inr ⟨rfl,rfl,(by rw [Ae,hgcon,hgtok,Zg om])⟩)))))
  have Yp:¬((xcon<0)∨((s.op=17)/\(xtok>=0))):=Ya (Yj dq (YA Zq dq)) Zc
  refine Z0 2 (ic [2,2,2,2,2,2,2] (Hb b ga gb gc gd ge gf L ln x (hlk:=hk.len) (hq:=(fun y hy=>⟨hk.nn y hy,by have:=hk.bd y hy;omega⟩))) ?_)
  rintro _ _ (⟨wa1,wb1,wc1,wd1,we1,wf1,L'1,rfl,rfl,YV⟩|⟨rfl,rfl,X6⟩)
  ·obtain ⟨t1,t2,t3,t4,t5,t6,t7⟩:=JG YV
   have hk1:=hk.take YV
   obtain ⟨f1,f2,f3,f4,f5⟩:=hk1.len
   have hxcon1:L'1.con[x.toNat]? = some xcon:=by rw [t4];exact hxcon
   have hvl:L'1.vars.length=L.vars.length:=by rw [t2]
   have har2:=har om
   have hxfst1:L'1.fst[x.toNat]? = some xfst:=by rw [t5];exact hxfst
   refine Z1 (V3 (ak (aD 11 (ZQ 4 11 [0,1,2,3,4,5,6] [8,0] (dx 7 (Ui 4 wd1 L'1.con x x.toNat (hq:=rfl)) (U5 8 (QJ 4 wd1 L'1.con x.toNat xcon hxcon1) (Z8 9 (Yu 9 [] [] [] (KP n.decls xcon) (Zm 0 1 [10] (de (Yd (ab 0 (ZW (fun fz gz m F h=>∃(k:Nat) (o:LI),(k<=(Y2 n.decls xcon).length)/\(o.length=L.vars.length)/\(∀y∈o,0<=y/\y<=q+k)/\(QN o (xfst+k) ((Y2 n.decls xcon).drop k)=QN L'1.own xfst (Y2 n.decls xcon))/\F=sF [0,5,7,8] fz [(9,.i k)]/\h=[Zk gz 0,Zk gz 1,rV wb1 o,Zk gz 3,Zk gz 4,Zk gz 5,Zk gz 6,Zk gz 7]/\m=(Y2 n.decls xcon).length-k) _ _ _ ⟨0,L'1.own,ob,om,(by intro y hy;have h1:=hk1.nn y hy;have h2:=hk1.bd y hy;omega),(by rw [show xfst+((0:Nat):Int)=xfst by omega,JK]),rfl,rfl,rfl⟩ (ZE 8 (Y1 fl)) ?_)))))))))))))
   rintro m F h ⟨k,o,Yg,Zh,Zw,YS,rfl,rfl,rfl⟩
   refine YU 2 (io (.i (((Y2 n.decls xcon).length:Nat):Int)) (.i (((Z7 (Y2 n.decls xcon)).length:Nat):Int)) (li (by rw [Yo])) (ZZ ((k:Int)<(((Y2 n.decls xcon).length:Nat):Int)) (fun Zb=>?_) (fun Zb=>?_)))
   ·refine ak (aq (ab 1 (Yb 2 ?_)))
    obtain ⟨x1,Z3⟩:=Zt (Y2 n.decls xcon) k om
    refine Zl (Zi none (k:Int) 1 (Y5 Z3)) (YJ (x1 != 0) Yc (fun Ze=>?_) (fun Ze=>?_))
    ·refine aE 31 (ZQ 22 31 [0,1,2,3,4,5,6,7,8] [0,0] (dx 9 (Ui 5 we1 L'1.fst x x.toNat (hq:=rfl)) (U5 10 (QJ 5 we1 L'1.fst x.toNat xfst hxfst1) (Zm 19 20 [11] (da 12 ((xfst+(k:Int))) ((xfst)+((k:Int))) (ZQ 9 18 [13,14,15,16,17,18,19,20,21] [0,0] (dx 22 (Ui 5 we1 L'1.fst x x.toNat (hq:=rfl)) (U5 23 (QJ 5 we1 L'1.fst x.toNat xfst hxfst1) (Zm 6 7 [24] (da 25 ((xfst+(k:Int))) ((xfst)+((k:Int))) (dx 26 (Ui 2 wb1 o (xfst+(k:Int)) ((xfst+(k:Int)).toNat) (hq:=rfl)) ?_)))))))))))
     obtain ⟨x2,Zo⟩:=Zt o ((xfst+(k:Int)).toNat) om
     have hy2:=Zw _ (ZY Zo)
     exact U5 27 (QJ 2 wb1 o ((xfst+(k:Int)).toNat) x2 Zo) (da 28 ((x2+1)) ((x2)+(1)) (dx 29 (Ui 2 wb1 o (xfst+(k:Int)) ((xfst+(k:Int)).toNat) (hq:=rfl)) (Z8 30 (Bv 30 2 [] [] wb1 o ((xfst+(k:Int)).toNat) (x2+1) (de (az (Z0 1 (ZG k (Z1 (ZF ⟨k+1,(o.set (xfst+(k:Nat)).toNat (x2+1)),ob,ob,(by intro y hy;first|(rcases Ac hy with hy|rfl<;>first|(have:=Zw y hy;omega)|omega)|(have:=Zw y hy;omega)),(by rw [Y6 Z3,QN] at YS;first|(rw [Zg Ze,TY Zo] at YS;rw [show xfst+((k+1:Nat):Int)=xfst+k+1 by omega];exact YS)|(rw [Z9 Ze] at YS;rw [show xfst+((k+1:Nat):Int)=xfst+k+1 by omega];exact YS)),rfl,rfl,rfl⟩ (wk [1,1,0,0,0,0,0,0] (ZI k fl) (e:=(rc (rc (rv (xs:=(o.set ((xfst+(k:Int)).toNat) (x2+1))) ob (rc (rc (rc (rc (rc rz))))))))))))))))))))
    exact ak (az (Z0 1 (ZG k (Z1 (ZF ⟨k+1,o,ob,ob,(by intro y hy;first|(rcases Ac hy with hy|rfl<;>first|(have:=Zw y hy;omega)|omega)|(have:=Zw y hy;omega)),(by rw [Y6 Z3,QN] at YS;first|(rw [Zg Ze,TY Zo] at YS;rw [show xfst+((k+1:Nat):Int)=xfst+k+1 by omega];exact YS)|(rw [Z9 Ze] at YS;rw [show xfst+((k+1:Nat):Int)=xfst+k+1 by omega];exact YS)),rfl,rfl,rfl⟩ (ZE 8 (ZI k fl)))))))
   refine ax 0 (Xc (U2 [7] (ac (s.op==17) Zq (fun ZB=>?_) (fun ZB=>?_))))
   ·refine az (ZO 6 [0] (io (.i (((Y2 n.decls xcon).length:Nat):Int)) (.i (((Z7 (Y2 n.decls xcon)).length:Nat):Int)) (li (by rw [Yo])) (Zl (Ui 6 wf1 L'1.tok x x.toNat (hq:=rfl)) (PP 6 wf1 L'1.tok x.toNat (((Y2 n.decls xcon).length:Nat):Int) (ie (ZJ ?_))))))
    have hof:o=QN L'1.own xfst (Y2 n.decls xcon):=by rw [<-YS,Xg om];rfl
    exact ZL (r1 [1,1,1,1,1,1,0] (.inl ⟨wa1,wb1,wc1,wd1,we1,wf1,(ZP.mk L'1.vars o L'1.par L'1.con L'1.fst (L'1.tok.set x.toNat (((Y2 n.decls xcon).length:Nat):Int))),rfl,rfl,(by rw [Ae,hgcon,hgfst,hgtok,Z9 om,YV,hof,t6];simp [ZB,t2,t3,t4,t5])⟩) (eq:=(rc (rv (xs:=L'1.vars) ob (rv (xs:=o) ob (rv (xs:=L'1.par) ob (rv (xs:=L'1.con) ob (rv (xs:=L'1.fst) ob (rv (xs:=(L'1.tok.set x.toNat (((Y2 n.decls xcon).length:Nat):Int))) ob rz)))))))))
   refine ak (ZJ ?_)
   have hof:o=QN L'1.own xfst (Y2 n.decls xcon):=by rw [<-YS,Xg om];rfl
   exact ZL (r1 [0,0,0,0,0,0,0] (.inl ⟨wa1,wb1,wc1,wd1,we1,wf1,(ZP.mk L'1.vars o L'1.par L'1.con L'1.fst L'1.tok),rfl,rfl,(by rw [Ae,hgcon,hgfst,hgtok,Z9 om,YV,hof,t6];simp [ZB,t2,t3,t4,t5])⟩) (eq:=(rc (rv (xs:=L'1.vars) ob (rv (xs:=o) ob (rv (xs:=L'1.par) ob (rv (xs:=L'1.con) ob (rv (xs:=L'1.fst) ob (rv (xs:=L'1.tok) ob rz)))))))))
  exact Z1 (V9 (ar (Zr (r1 [] (.inr ⟨rfl,rfl,(by rw [Ae,hgcon,hgtok,Z9 om,X6])⟩)))))
 refine Z0 2 (ib (b:=(decide (xcon<0))) 22 (fun ZA=>?_) (fun ZA=>?_))
 ·have Xq:xcon<0:=(dq).1 ZA
  exact Z0 14 (Yn (ZE 9 (Zs true ZA fl)) hj1)
 have W7:¬(xcon<0):=Ya dq ZA
 refine ZO 4 [0] (ib (b:=(s.op==17)) 26 (fun Yt=>?_) (fun Yt=>?_))
 ·have WJ:s.op=17:=(Zq).1 Yt
  exact ZO 5 [2] (Zl (Ui 8 gf L.tok x x.toNat (hq:=rfl)) (VV (QJ 8 gf L.tok x.toNat xtok hxtok) (Z0 3 (Yn (ZE 9 (Zs (decide (xtok>=0)) (And.intro ZA Yt) fl)) hj1))))
 have Vl:¬(s.op=17):=Ya Zq Yt
 exact Z0 10 (Yn (ZE 9 (Zs false (And.intro ZA Yt) fl)) hj1)
theorem Ze1 (b:Nat) (ga:Hd) (gb:Hd) (gc:Hd) (gd:Hd) (ge:Hd) (gf:Hd) (n:Zp) (s:Z5) (L:ZP) (ln:LI) (q:Int) (hn:Xe n:=by exact ob) (hnum:s.op=9->0<=s.num/\s.num<n.routines.length:=by exact ob) (hk:XO n.decls L q:=by exact ob) (hlb:L.vars.length<=1000000000:=by exact ob) (hargs:∀a∈s.args,0<=a/\a<L.vars.length) (hinto:0<s.into->s.into<=L.vars.length:=by exact ob) (hal:s.args.length<=1000000000:=by exact ob) (hln:ln.length<=4294967296:=by exact ob) (hq:0<=q/\q<=999999990:=by exact ob):Zj 210 [.p b 0,Yh n,YL s] [.obj b [.h ga,.h gb,.h gc,.h gd,.h ge,.h gf,Z6 ln],rV ga L.vars,rV gb L.own,rV gc L.par,rV gd L.con,rV ge L.fst,rV gf L.tok] (fun r h=>(∃(wa:Hd) (wb:Hd) (wc:Hd) (wd:Hd) (we:Hd) (wf:Hd) (L':ZP),r=.b true/\h=[.obj b [.h wa,.h wb,.h wc,.h wd,.h we,.h wf,Z6 ln],rV wa L'.vars,rV wb L'.own,rV wc L'.par,rV wd L'.con,rV we L'.fst,rV wf L'.tok]/\Jx n ln L s.op s.num s.into s.args=some L')∨(r=.b false/\h=[]/\Jx n ln L s.op s.num s.into s.args=none)):=by
 obtain ⟨e1,e2,e3,e4,e5⟩:=hk.len
 refine ZC 79 Tryz.func210 (ar (iA (Yx n) fun b1=>iA (Xw s) fun b2=>?_))
 refine Z1 (Yd (ab 0 (ZW (fun fz gz m F h=>∃(k:Nat) (L2:ZP) (ka:Hd) (kb:Hd) (kc:Hd) (kd:Hd) (ke:Hd) (kf:Hd),(k<=s.args.length)/\(XO n.decls L2 q)/\(L2.vars=L.vars)/\(KI n s.op s.num (s.args.drop k) k L2=KI n s.op s.num s.args 0 L)/\F=sF [0,4,5] fz [(7,.i k)]/\h=[Zk gz 0,Zk gz 1,.obj b [.h ka,.h kb,.h kc,.h kd,.h ke,.h kf,Z6 ln],rV ka L2.vars,rV kb L2.own,rV kc L2.par,rV kd L2.con,rV ke L2.fst,rV kf L2.tok]/\m=s.args.length-k) _ _ _ ⟨0,L,ga,gb,gc,gd,ge,gf,ob,hk,ob,ob,rfl,rfl,rfl⟩ (ZE 9 (Y1 fl)) ?_)))
 rintro m F h ⟨k,L2,ka,kb,kc,kd,ke,kf,Yg,Zh,Zw,YS,rfl,rfl,rfl⟩
 refine Yf 3 [0] (iw (Yo s.args) (ZZ ((k:Int)<(s.args.length:Int)) (fun Zb=>?_) (fun Zb=>?_)))
 ·obtain ⟨a1,ha1⟩:=Zt s.args k om
  obtain ⟨e6,e7,e8,e9,e10⟩:=Zh.len
  have hav:=hargs a1 (ZY ha1)
  have hvl:L2.vars.length=L.vars.length:=by rw [Zw]
  refine ak (aq (ab 1 (aD 18 (ZQ 11 18 [0,1,2,3,4,5,6] [1,2,0] (Z8 7 (JV 7 [3] [] [] [rV ka L2.vars] (HM n L2.vars s k a1 (ha:=ha1)) FX (gS (gL (v:=ka) 0 (gS (gS gN)))) (Jc Ab) ?_))))))
  rintro _ _ ⟨rfl,rfl⟩
  refine Zm 9 10 [8] (db (b:=Jt n L2.vars s.op s.num a1 k) 24 (fun Zc=>?_) (fun Zc=>?_))
  ·have Y9:Jt n L2.vars s.op s.num a1 k=true:=(Iff.rfl).1 Zc
   refine ZQ 5 9 [9,10,11,12] [1] (dx 13 (Zi none (k:Int) 1 (Y5 ha1)) (Zm 3 4 [14] (Z8 15 (dc 15 [3,0,2,2,2,2,2] [] [] (Hb b ka kb kc kd ke kf L2 ln a1 (hlk:=Zh.len) (hq:=(fun y hy=>⟨Zh.nn y hy,by have:=Zh.bd y hy;omega⟩))) ?_))))
   rintro _ _ (⟨wa1,wb1,wc1,wd1,we1,wf1,L'1,rfl,rfl,Yp⟩|⟨rfl,rfl,YV⟩)
   ·obtain ⟨t1,t2,t3,t4,t5,t6,t7⟩:=JG Yp
    have hk2:=Zh.take Yp
    exact Zm 0 2 [16,17] (de (V3 (ak (az (Z0 1 (ZG k (Z1 (ZF ⟨k+1,L'1,wa1,wb1,wc1,wd1,we1,wf1,ob,hk2,(t2.trans Zw),(by rw [Y6 ha1,KI,Zg Y9] at YS;simp only [Yp] at YS;exact YS),rfl,rfl,rfl⟩ (wk [7,7,0,0,0,0,0,0,0] (ZI k fl))))))))))
   exact Zm 0 2 [16,17] (de (V9 (ar (Zr (r1 [] (.inr ⟨rfl,rfl,(by rw [Jx,<-YS,Y6 ha1,KI,Zg Y9,YV])⟩))))))
  have X6:¬(Jt n L2.vars s.op s.num a1 k=true):=Ya Iff.rfl Zc
  exact Zm 0 9 [9,10,11,12,13,14,15,16,17] (de (V3 (ak (az (Z0 1 (ZG k (Z1 (ZF ⟨k+1,L2,ka,kb,kc,kd,ke,kf,ob,Zh,Zw,(by rw [Y6 ha1,KI,Z9 X6] at YS;exact YS),rfl,rfl,rfl⟩ (wk [1,1,1,0,0,0,0,0,0] (ZI k fl))))))))))
 have hT:KI n s.op s.num s.args 0 L=some L2:=by rw [<-YS,Xg om];rfl
 obtain ⟨e6,e7,e8,e9,e10⟩:=Zh.len
 have hvl:L2.vars.length=L.vars.length:=by rw [Zw]
 refine ax 0 (Yd (ab 2 (ZW (fun fz gz m F h=>∃(j:Nat),(j<=s.args.length)/\(Bz n s.op s.num ln L2 (s.args.drop j) j=Bz n s.op s.num ln L2 s.args 0)/\F=sF [0,4,5] fz [(8,.i j)]/\h=gz/\m=s.args.length-j) _ _ _ ⟨0,ob,ob,rfl,rfl,rfl⟩ (ZE 9 (Y1 fl)) ?_)))
 rintro m F h ⟨j,Vo,Xs,rfl,rfl,rfl⟩
 refine Yf 3 [0] (iw (Yo s.args) (ZZ ((j:Int)<(s.args.length:Int)) (fun Ze=>?_) (fun Ze=>?_)))
 ·obtain ⟨a2,ha2⟩:=Zt s.args j om
  have hav:=hargs a2 (ZY ha2)
  refine ak (aq (ab 3 (Zu 3 [1,0] (Zv [] (DU n s j) (Xt [0,4,5,8] [(54,.b (U1 n s.op s.num j&&(!UO L2 ln a2)))] (fun gz=>[Zk gz 2,Zk gz 3,Zk gz 4,Zk gz 5,Zk gz 6,Zk gz 7,Zk gz 8,Zk gz 0,Zk gz 1]) ?_ ?_)))))
  ·refine Z0 1 (ib (b:=U1 n s.op s.num j) 45 (fun ZA=>?_) (fun ZA=>?_))
   ·exact ZO 4 [0] (Zl (Zi none (j:Int) 1 (Y5 ha2)) (Z0 1 (Zv [2,2,2,2,2,2,2] (Ha b ka kb kc kd ke kf L2 ln a2 (hlk:=Zh.len) (hd:=Zh.down)) (Z1 (ZE 9 (Zs (!UO L2 ln a2) ZA fl))))))
   exact Z1 (wk [2,2,2,2,2,2,2,0,0] (Zs false ZA fl))
  refine ac (U1 n s.op s.num j&&(!UO L2 ln a2)) (p:=(U1 n s.op s.num j=true)/\(¬(UO L2 ln a2=true))) (YA Iff.rfl (Yq Iff.rfl)) (fun ZB=>?_) (fun ZB=>?_)
  ·refine ZJ ?_
   have hA:Bz n s.op s.num ln L2 s.args 0=false:=by rw [<-Xs,Y6 ha2,Bz,Zg ZB]
   exact ZL (r1 [] (.inr ⟨rfl,rfl,(by rw [Jx,hT];simp only [hA];rfl)⟩))
  exact ak (az (Z0 1 (ZG j (Z1 (ZF ⟨j+1,ob,(by rw [Y6 ha2,Bz,Z9 ZB] at Xs;exact Xs),rfl,rfl,rfl⟩ (wk [7,7,0,0,0,0,0,0,0] (ZI j fl)))))))
 have hA:Bz n s.op s.num ln L2 s.args 0=true:=by rw [<-Xs,Xg om];rfl
 refine ax 2 (Xc (U2 [0] (XT (s.into>0) (fun Yk=>?_) (fun Yk=>?_))))
 ·obtain ⟨xt,hxt⟩:=Zt L2.tok ((s.into-1).toNat) (by have:=hinto Yk;omega)
  have hgt:=TY hxt
  refine aq (aD 13 (ZQ 7 13 [0,1,2,3,4,5] [2,0] (da 6 ((s.into-1)) ((s.into)-(1)) (dx 7 (Ui 8 kf L2.tok (s.into-1) ((s.into-1).toNat) (hq:=rfl)) (U5 8 (QJ 8 kf L2.tok ((s.into-1).toNat) xt hxt) (ZQ 2 4 [9,10] [0] (dw 11 (Yo s.args) (Zm 0 1 [12] (de (ac (xt != (s.args.length:Int)) Yc (fun Xo=>?_) (fun Xo=>?_)))))))))))
  ·exact ar (Zr (r1 [] (.inr ⟨rfl,rfl,(by rw [Jx,hT];simp only [hA,↓reduceIte];rw [EE,Zg Yk,hgt,Zg Xo])⟩)))
  exact ak (aE 9 (ZQ 3 9 [0,1,2,3,4,5] [2,0] (da 6 ((s.into-1)) ((s.into)-(1)) (dx 7 (Ui 8 kf L2.tok (s.into-1) ((s.into-1).toNat) (hq:=rfl)) (Z8 8 (Bv 8 8 [] [] kf L2.tok ((s.into-1).toNat) (-1) (de (ar (Zr (r1 [3,3,3,3,3,3,0] (.inl ⟨ka,kb,kc,kd,ke,kf,(ZP.mk L2.vars L2.own L2.par L2.con L2.fst (L2.tok.set ((s.into-1).toNat) (-1))),rfl,rfl,(by rw [Jx,hT];simp only [hA,↓reduceIte];rw [EE,Zg Yk,hgt,Z9 Xo])⟩) (eq:=(rc (rv (xs:=L2.vars) ob (rv (xs:=L2.own) ob (rv (xs:=L2.par) ob (rv (xs:=L2.con) ob (rv (xs:=L2.fst) ob (rv (xs:=(L2.tok.set ((s.into-1).toNat) (-1))) ob rz))))))))))))))))))
 exact ak (ar (Zr (r1 [2,2,2,2,2,2,2] (.inl ⟨ka,kb,kc,kd,ke,kf,L2,rfl,rfl,(by rw [Jx,hT];simp only [hA,↓reduceIte];rw [EE,Z9 Yk])⟩))))
theorem Z8r (b:Z4) (t:Int) (hz:b.sz<=1000000) (ih:∀(b2:Z4) (t:Int),(b2.sz<=1000000)->(b2.sz<b.sz)->Zj 231 [ZK b2,.i t] [] (fun r h=>∃(wr:Bool),r=.b wr/\h=[])):Zj 231 [ZK b,.i t] [] (fun r h=>∃(wr:Bool),r=.b wr/\h=[]):=by
 have ZM:=V7 b
 have hbl:=JD b.steps
 have hbe:=b.sz_eq
 refine ZC 53 Tryz.func231 (ar (iA (X9 b) fun b1=>?_))
 refine Z1 (Yd (ab 0 (ZW (fun fz gz m F h=>∃(k:Nat),(k<=b.steps.length)/\F=sF [1,2] fz [(5,.i k)]/\h=gz/\m=b.steps.length-k) _ _ _ ⟨0,ob,rfl,rfl,rfl⟩ (wk [0] (Y1 fl)) ?_)))
 rintro m F h ⟨k,Yg,rfl,rfl,rfl⟩
 refine Yf 3 [0] (iw (V5 b.steps) (ZZ ((k:Int)<(b.steps.length:Int)) (fun Zb=>?_) (fun Zb=>?_)))
 ·refine ak (aq (ab 1 (Yf 3 [0] ?_)))
  obtain ⟨x1,Z3⟩:=Zt b.steps k om
  have hxs:=MP (ZY Z3)
  have hxe:=(x1).sz_eq
  have hxk:=Uc x1
  refine Zl (Zi none (k:Int) 5 (W6 Z3)) (Xt [1,2,5] [(30,.b ((x1.op==10)&&(x1.num==t)))] (fun gz=>gz) ?_ ?_)
  ·refine Z0 4 (ib (b:=(x1.op==10)) 21 (fun Zc=>?_) (fun Zc=>?_))
   ·exact ZO 3 [0] (Zl (Zi none (k:Int) 5 (W6 Z3)) (Z1 (wk [0] (Zs (x1.num==t) Zc fl))))
   exact Z1 (wk [0] (Zs false Zc fl))
  refine ac ((x1.op==10)&&(x1.num==t)) (p:=(x1.op=10)/\(x1.num=t)) (YA Zq Zq) (fun Ze=>?_) (fun Ze=>?_)
  ·exact ar (Zr (r1 [] ⟨true,rfl,rfl⟩))
  refine ak (ZJ (ab 2 (ZW (fun fz gz m F h=>∃(j:Nat),(j<=x1.kids.length)/\F=sF [1,2,5] fz [(6,.i j)]/\h=gz/\m=x1.kids.length-j) _ _ _ ⟨0,ob,rfl,rfl,rfl⟩ (wk [0] (Y1 fl)) ?_)))
  rintro m F h ⟨j,Vo,rfl,rfl,rfl⟩
  refine Yf 4 [0] (Zl (Zi none (k:Int) 5 (W6 Z3)) (Z0 2 (iw (Vp x1.kids) (ZZ ((j:Int)<(x1.kids.length:Int)) (fun ZB=>?_) (fun ZB=>?_)))))
  ·refine ak (aq (ab 3 (Zu 3 [0] (Zl (Zi none (k:Int) 5 (W6 Z3)) (Z0 3 ?_)))))
   obtain ⟨x2,Zo⟩:=Zt x1.kids j om
   have hkx:=In (ZY Zo)
   refine Zl (Zi none (j:Int) 2 (VS Zo)) (Z0 2 (ic [] (ih x2 t ob ob) ?_))
   rintro _ _ ⟨wr1,rfl,rfl⟩
   refine ie (ac wr1 Iff.rfl (fun Yk=>?_) (fun Yk=>?_))
   ·exact ar (Zr (r1 [] ⟨true,rfl,rfl⟩))
   exact ak (az (Z0 1 (ZG j (Z1 (ZF ⟨j+1,ob,rfl,rfl,rfl⟩ (wk [0] (ZI j fl)))))))
  exact ax 2 (az (Z0 1 (ZG k (Z1 (ZF ⟨k+1,ob,rfl,rfl,rfl⟩ (wk [0] (ZI k fl)))))))
 exact ax 0 (ar (Zr (r1 [] ⟨false,rfl,rfl⟩)))
theorem Z8q (b:Z4) (t:Int) (hz:b.sz<=1000000:=by exact ob):Zj 231 [ZK b,.i t] [] (fun r h=>∃(wr:Bool),r=.b wr/\h=[]):=by
 have key:∀k:Nat,∀(b2:Z4) (t:Int),(b2.sz<=1000000)->(b2.sz<k)->Zj 231 [ZK b2,.i t] [] (fun r h=>∃(wr:Bool),r=.b wr/\h=[]):=by
  intro k
  induction k with
  | zero=>intro b2 t h1 h2;omega
  | succ k ih=>intro b2 t h1 h2;exact Z8r b2 t h1 fun b3 t3 q1 q2=>ih b3 t3 q1 om
 exact key (b.sz+1) b t hz om
theorem Z99 (n:Zp) (t:Int) (qz:Nat) (hn:FN n qz:=by exact ob) (hqz:qz<=100000:=by exact ob):Zj 188 [Yh n,.i t] [] (fun r h=>∃(wr:Bool),r=.b wr/\h=[]):=by
 have hnl:=hn.len
 refine ZC 21 Tryz.func188 (ar (iA (Yx n) fun b1=>?_))
 refine Z1 (Yd (ab 0 (ZW (fun fz gz m F h=>∃(k:Nat),(k<=n.routines.length)/\F=sF [1,2] fz [(5,.i k)]/\h=gz/\m=n.routines.length-k) _ _ _ ⟨0,ob,rfl,rfl,rfl⟩ (wk [0] (Y1 fl)) ?_)))
 rintro m F h ⟨k,Yg,rfl,rfl,rfl⟩
 refine Yf 3 [0] (iw (V4 n.routines) (ZZ ((k:Int)<(n.routines.length:Int)) (fun Zb=>?_) (fun Zb=>?_)))
 ·refine ak (aq (ab 1 (Zu 3 [0] ?_)))
  obtain ⟨x1,Z3⟩:=Zt n.routines k om
  have hbz:=(hn.body _ (ZY Z3)).2
  refine Zl (Zi none (k:Int) 5 (Wf Z3)) (Z0 3 (ic [] (Z8q x1.body t) ?_))
  rintro _ _ ⟨wr1,rfl,rfl⟩
  refine ie (ac wr1 Iff.rfl (fun Ze=>?_) (fun Ze=>?_))
  ·exact ar (Zr (r1 [] ⟨true,rfl,rfl⟩))
  exact ak (az (Z0 1 (ZG k (Z1 (ZF ⟨k+1,ob,rfl,rfl,rfl⟩ (wk [0] (ZI k fl)))))))
 exact ax 0 (ar (Zr (r1 [] ⟨false,rfl,rfl⟩)))
theorem Ps (fs:LI) (q:Nat) (hl:fs.length<=1000000:=by exact ob) (hq:q<=1000000:=by exact ob):Zj 189 [Z6 fs,.i q] [] (fun r h=>∃(xs:LI),r=Z6 xs/\h=[]/\xs.length<=fs.length/\∀i∈xs,(q:Int)<=i/\i<(q:Int)+fs.length):=by
 refine ZC 26 Tryz.func189 (ZJ (ar (iL (Z7 []) 0 1 fun v1=>?_)))
 refine Z1 (Yd (ab 0 (ZW (fun fz gz m F h=>∃(k:Nat) (ys:LI) (u:Value),(k<=fs.length)/\(ys.length<=k)/\(∀i∈ys,(q:Int)<=i/\i<(q:Int)+fs.length)/\F=sF [0,1] fz [(5,ZX ys u),(6,.i k)]/\h=[.tail u 1]/\m=fs.length-k) _ _ _ ⟨0,[],v1,ob,ob,(fun i hi=>by cases hi),rfl,rfl,rfl⟩ (wk [0] (fr (Y1 fl))) ?_)))
 rintro m F h ⟨k,ys,u,Yg,Zh,Zw,rfl,rfl,rfl⟩
 refine YU 2 (iw (Yo fs) (ZZ ((k:Int)<(fs.length:Int)) (fun Zb=>?_) (fun Zb=>?_)))
 ·refine ak (aq (ab 1 (Yb 2 ?_)))
  obtain ⟨x1,Z3⟩:=Zt fs k om
  refine Zl (Zi none (k:Int) 1 (Y5 Z3)) (YJ (x1 != 0) Yc (fun Ze=>?_) (fun Ze=>?_))
  ·exact az (Z0 3 (ia (((q+k:Nat):Int)) (((q:Int))+((k:Int))) (iL (Z7 [((q+k:Nat):Int)]) 1 1 fun v2=>ZT 0 [(23,Z6 [((q+k:Nat):Int)])] (ip 1 (Z7 (ys++[((q+k:Nat):Int)])) (Z7 ys) (Z7 [((q+k:Nat):Int)]) u none 1 (YI _) (YI _) (We _) (by simp<;>omega) (by simp [Wd,Z7]) fun v3=>Z1 (az (Z0 1 (ZG k (Z1 (ZF ⟨k+1,(ys++[((q+k:Nat):Int)]),v3,ob,ob,(XJ Zw om),rfl,rfl,rfl⟩ (wk [0] (fr (ZI k fl))))))))))))
  exact ak (az (Z0 1 (ZG k (Z1 (ZF ⟨k+1,ys,u,ob,ob,ob,rfl,rfl,rfl⟩ (wk [0] (fr (ZI k fl))))))))
 exact ax 0 (ar (Zr (r2 [] [ZX ys u] ⟨ys,rfl,rfl,⟨by omega,Zw⟩⟩ (Zd.forget _ _))))
theorem Pm (n:Zp) (qz:Nat) (hn:FN n qz:=by exact ob) (hqz:qz<=100000:=by exact ob):Zj 136 [Yh n] [] (fun r h=>∃(xs:List LI),r=Q2 xs/\h=[]/\LC n n.routines.length xs):=by
 have hnl:=hn.len
 refine ZC 31 Tryz.func136 (ar (iA (Yx n) fun b1=>Z1 (ar (iL (Ys []) 0 1 fun v1=>?_))))
 refine Z1 (Yd (ab 0 (ZW (fun fz gz m F h=>∃(k:Nat) (ys:List LI) (u:Value),(k<=n.routines.length)/\(ys.length=k)/\(LC n k ys)/\F=sF [1] fz [(3,B4 ys u),(4,.i k)]/\h=[Zk gz 1,.tail u 1]/\m=n.routines.length-k) _ _ _ ⟨0,[],v1,ob,ob,LC.nil,rfl,rfl,rfl⟩ (wk [1,0] (fr (Y1 fl))) ?_)))
 rintro m F h ⟨k,ys,u,Yg,Zh,Zw,rfl,rfl,rfl⟩
 refine Yf 3 [0] (iw (V4 n.routines) (ZZ ((k:Int)<(n.routines.length:Int)) (fun Zb=>?_) (fun Zb=>?_)))
 ·refine ak (aq (ab 1 (Zu 2 [0] (ic [] (Z99 n (k:Int) qz) ?_))))
  rintro _ _ ⟨wr1,rfl,rfl⟩
  refine ie (ac wr1 Iff.rfl (fun Ze=>?_) (fun Ze=>?_))
  ·exact az (Z0 1 (iL (Z7 []) 0 1 fun v2=>ZT 0 [(17,Z6 [])] (iL (Ys [[]]) 1 1 fun v3=>ZT 0 [(18,Q2 [[]])] (ip 3 (Ys (ys++[[]])) (Ys ys) (Ys [[]]) u none 1 (Kc _) (Kc _) (Cp _) (by simp<;>omega) (by simp [Dk,Ys]) fun v4=>Z1 (az (Z0 1 (ZG k (Z1 (ZF ⟨k+1,(ys++[[]]),v4,ob,ob,(Zw.snoc (by simp) (fun r hr v hv=>by cases hv)),rfl,rfl,rfl⟩ (wk [3,0] (fr (ZI k fl))))))))))))
  refine az (ZO 4 [0] ?_)
  obtain ⟨x1,Z3⟩:=Zt n.routines k om
  have hrp:=(FN.ok hn).params_at Z3
  have hss:=(TD.bd (f:=⟨(x1).params,(x1).result,default⟩) (hn.sigs _ (ZY Z3))).1
  refine Zl (Zi none (k:Int) 5 (Wf Z3)) (Z0 2 (ic [] (Ps x1.params 0) ?_))
  rintro _ _ ⟨xs1,rfl,rfl,Y9⟩
  have hhf:=Y9
  exact iL (Ys [xs1]) 1 1 fun v5=>ZT 0 [(28,Q2 [xs1])] (ip 2 (Ys (ys++[xs1])) (Ys ys) (Ys [xs1]) u none 1 (Kc _) (Kc _) (Cp _) (by simp<;>omega) (by simp [Dk,Ys]) fun v6=>Z1 (az (Z0 1 (ZG k (Z1 (ZF ⟨k+1,(ys++[xs1]),v6,ob,ob,(Zw.snoc om (fun r hr v hv=>by rw [Z3] at hr;cases hr;have:=hhf.2 v hv;omega)),rfl,rfl,rfl⟩ (wk [2,0] (fr (ZI k fl)))))))))
 exact ax 0 (ar (Zr (r2 [] [B4 ys u] ⟨ys,rfl,rfl,(by rw [show n.routines.length=k by omega];exact Zw)⟩ (Zd.forget _ _))))
theorem Z8u (n:Zp) (b:Z4) (t:Int) (mq:Nat) (hn:Xe n) (hf:fB n.decls n.routines.length mq b) (hz:b.sz<=1000000) (ih:∀(b2:Z4) (t:Int) (m2:Nat),(fB n.decls n.routines.length m2 b2)->(b2.sz<=1000000)->(b2.sz<b.sz)->Zj 190 [Yh n,ZK b2,.i t] [] (fun r h=>∃(wr:Bool),r=.b wr/\h=[])):Zj 190 [Yh n,ZK b,.i t] [] (fun r h=>∃(wr:Bool),r=.b wr/\h=[]):=by
 have hbl:=JD b.steps
 have hbe:=b.sz_eq
 refine ZC 68 Tryz.func190 (ar (iA (Yx n) fun b1=>iA (X9 b) fun b2=>Z1 (Xc (U2 [0] (ac (b.result==t) Zq (fun Zb=>?_) (fun Zb=>?_))))))
 ·exact ar (Zr (r1 [] ⟨true,rfl,rfl⟩))
 refine ak (Yd (ab 0 (ZW (fun fz gz m F h=>∃(k:Nat),(k<=b.steps.length)/\F=sF [2,3,4] fz [(7,.i k)]/\h=gz/\m=b.steps.length-k) _ _ _ ⟨0,ob,rfl,rfl,rfl⟩ (wk [0,0] (Y1 fl)) ?_)))
 rintro m F h ⟨k,Yg,rfl,rfl,rfl⟩
 refine Yf 3 [0] (iw (V5 b.steps) (ZZ ((k:Int)<(b.steps.length:Int)) (fun Ze=>?_) (fun Ze=>?_)))
 ·refine ak (aq (ab 1 (Zu 3 [0] ?_)))
  obtain ⟨x1,Z3⟩:=Zt b.steps k om
  have hfs:=(Gk x1).1 (Ex ((Ev b).1 hf).1 Z3)
  have hxs:=MP (ZY Z3)
  have hxe:=(x1).sz_eq
  have hxk:=Uc x1
  refine Zl (Zi none (k:Int) 5 (W6 Z3)) (Z0 1 (iA [.i 0,.i 0,.i 0,nl,nl] fun b3=>?_))
  refine Zx 0 b3 (Xw x1) (ie (Yd (ab 2 (ZW (fun fz gz m F h=>∃(j:Nat),(j<=x1.args.length)/\F=sF [2,3,4,7,8] fz [(9,.i j)]/\h=gz/\m=x1.args.length-j) _ _ _ ⟨0,ob,rfl,rfl,rfl⟩ (ZE 3 (Y1 fl)) ?_))))
  rintro m F h ⟨j,Vo,rfl,rfl,rfl⟩
  refine Yf 3 [0] (iw (Yo x1.args) (ZZ ((j:Int)<(x1.args.length:Int)) (fun ZB=>?_) (fun ZB=>?_)))
  ·refine ak (aq (ab 3 (Zu 3 [0] ?_)))
   obtain ⟨x2,Zo⟩:=Zt x1.args j om
   refine Zl (Zi none (j:Int) 1 (Y5 Zo)) (Xr 12 [2,3,4,7,8,9] [(45,.b ((x2==t)&&Vi x1.op))] (fun gz=>gz) ?_ (fun hj1=>?_))
   ·refine Xt [2,3,4,7,8,9] [(52,.b (((x2==t)&&Vi x1.op)&&(!U1 n x1.op x1.num j)))] (fun gz=>gz) ?_ ?_
    ·refine Z0 1 (ib (b:=((x2==t)&&Vi x1.op)) 46 (fun Zc=>?_) (fun Zc=>?_))
     ·exact ZO 3 [2,0] (Zv [] (DU n x1 j (hnum:=hfs.call)) (Z1 (ZE 3 (Zs (!U1 n x1.op x1.num j) Zc fl))))
     exact Z1 (ZE 3 (Zs false Zc fl))
    refine ac (((x2==t)&&Vi x1.op)&&(!U1 n x1.op x1.num j)) (p:=((x2=t)/\(Vi x1.op=true))/\(¬(U1 n x1.op x1.num j=true))) (YA (YA Zq Iff.rfl) (Yq Iff.rfl)) (fun Yk=>?_) (fun Yk=>?_)
    ·exact ar (Zr (r1 [] ⟨true,rfl,rfl⟩))
    exact ak (az (Z0 1 (ZG j (Z1 (ZF ⟨j+1,ob,rfl,rfl,rfl⟩ (ZE 3 (ZI j fl)))))))
   refine Z0 4 (ib (b:=(x2==t)) 41 (fun ZA=>?_) (fun ZA=>?_))
   ·exact ZO 2 [0] (Zv [] (MJ x1.op) (Z0 1 (Yn (ZE 3 (Zs (Vi x1.op) ZA fl)) hj1)))
   exact Z0 4 (Yn (ZE 3 (Zs false ZA fl)) hj1)
  refine ax 2 (ZJ (ab 4 (ZW (fun fz gz m F h=>∃(j:Nat),(j<=x1.kids.length)/\F=sF [2,3,4,7,8] fz [(10,.i j)]/\h=gz/\m=x1.kids.length-j) _ _ _ ⟨0,ob,rfl,rfl,rfl⟩ (ZE 3 (Y1 fl)) ?_)))
  rintro m F h ⟨j,Ef,rfl,rfl,rfl⟩
  refine Yf 3 [0] (iw (Vp x1.kids) (ZZ ((j:Int)<(x1.kids.length:Int)) (fun Xo=>?_) (fun Xo=>?_)))
  ·refine ak (aq (ab 5 (aD 8 (ZQ 4 8 [0,1,2,3] [2,0] ?_))))
   obtain ⟨x3,YK⟩:=Zt x1.kids j om
   have hkx:=In (ZY YK)
   have hfk:=Ew hfs.kids YK
   refine dx 4 (Zi none (j:Int) 2 (VS YK)) (Zm 1 3 [5,6] (Z8 7 (dc 7 [] [] [] (ih x3 t (UX n.decls x1.op x1.num (mq+X7 (b.steps.take k)) (0+j)) hfk ob ob) ?_)))
   rintro _ _ ⟨wr1,rfl,rfl⟩
   refine de (ac wr1 Iff.rfl (fun Xh=>?_) (fun Xh=>?_))
   ·exact ar (Zr (r1 [] ⟨true,rfl,rfl⟩))
   exact ak (az (Z0 1 (ZG j (Z1 (ZF ⟨j+1,ob,rfl,rfl,rfl⟩ (ZE 3 (ZI j fl)))))))
  exact ax 4 (az (Z0 1 (ZG k (Z1 (ZF ⟨k+1,ob,rfl,rfl,rfl⟩ (wk [1,1] (ZI k fl)))))))
 exact ax 0 (ar (Zr (r1 [] ⟨false,rfl,rfl⟩)))
theorem Z8t (n:Zp) (b:Z4) (t:Int) (mq:Nat) (hn:Xe n:=by exact ob) (hf:fB n.decls n.routines.length mq b:=by exact ob) (hz:b.sz<=1000000:=by exact ob):Zj 190 [Yh n,ZK b,.i t] [] (fun r h=>∃(wr:Bool),r=.b wr/\h=[]):=by
 have key:∀k:Nat,∀(b2:Z4) (t:Int) (m2:Nat),(fB n.decls n.routines.length m2 b2)->(b2.sz<=1000000)->(b2.sz<k)->Zj 190 [Yh n,ZK b2,.i t] [] (fun r h=>∃(wr:Bool),r=.b wr/\h=[]):=by
  intro k
  induction k with
  | zero=>intro b2 t m2 h1 h2 h3;omega
  | succ k ih=>intro b2 t m2 h1 h2 h3;exact Z8u n b2 t m2 hn h1 h2 fun b3 t3 m3 q1 q2 q3=>ih b3 t3 m3 q1 q2 om
 exact key (b.sz+1) b t mq hf hz om
theorem Z9a (n:Zp) (rt:ZH) (i:Nat) (qz:Nat) (hn:FN n qz:=by exact ob) (hqz:qz<=100000:=by exact ob) (hr:n.routines[i]? = some rt:=by exact ob):Zj 137 [Yh n,.i i] [] (fun r h=>∃(xs:LI),r=Z6 xs/\h=[]/\xs.length<=rt.lent.length/\∀v∈xs,v∈rt.lent):=by
 have hok:=FN.ok hn
 have hrl:=hn.lent rt (ZY hr)
 have hrb:=hn.body rt (ZY hr)
 obtain ⟨hil,_⟩:=Xj.1 hr
 have hnl:=hn.len
 refine ZC 50 Tryz.func137 (ar (iA (Yx n) fun b1=>Z1 (ar (iL (Z7 []) 0 1 fun v1=>?_))))
 refine Z1 (Yd (ab 0 (ZW (fun fz gz m F h=>∃(k:Nat) (ys:LI) (u:Value),(k<=rt.lent.length)/\(ys.length<=k)/\(∀v∈ys,v∈rt.lent)/\F=sF [1,2] fz [(5,ZX ys u),(6,.i k)]/\h=[Zk gz 1,.tail u 1]/\m=rt.lent.length-k) _ _ _ ⟨0,[],v1,ob,ob,(fun v hv=>by cases hv),rfl,rfl,rfl⟩ (wk [1,0] (fr (Y1 fl))) ?_)))
 rintro m F h ⟨k,ys,u,Yg,Zh,Zw,rfl,rfl,rfl⟩
 refine Yf 4 [0] (Zl (Zi none (i:Int) 5 (Wf hr)) (Z0 2 (iw (Yo rt.lent) (ZZ ((k:Int)<(rt.lent.length:Int)) (fun Zb=>?_) (fun Zb=>?_)))))
 ·refine ak (aq (ab 1 (aD 18 (ZQ 14 18 [0,1,2,3] [0,0] (dx 4 (Zi none (i:Int) 5 (Wf hr)) (ZQ 8 13 [5,6,7,8,9] [0] (dx 10 (Zi none (i:Int) 5 (Wf hr)) (Zm 4 7 [11,12,13] ?_))))))))
  obtain ⟨x1,Z3⟩:=Zt rt.lent k om
  refine dx 14 (Zi none (k:Int) 1 (Y5 Z3)) (Zm 2 3 [15] (Z8 16 (dc 16 [] [] [] (Z8t n rt.body x1 rt.params.length (hn:=hok) (hf:=hrb.1)) ?_)))
  rintro _ _ ⟨wr1,rfl,rfl⟩
  refine Zm 0 1 [17] (de (ac (!wr1) (p:=¬(wr1=true)) (Yq Iff.rfl) (fun Ze=>?_) (fun Ze=>?_)))
  ·exact az (ZO 4 [0] (Zl (Zi none (i:Int) 5 (Wf hr)) (Z0 3 (Zl (Zi none (k:Int) 1 (Y5 Z3)) (Z0 1 (iL (Z7 [x1]) 1 1 fun v2=>ZT 0 [(47,Z6 [x1])] (ip 2 (Z7 (ys++[x1])) (Z7 ys) (Z7 [x1]) u none 1 (YI _) (YI _) (We _) (by simp<;>omega) (by simp [Wd,Z7]) fun v3=>Z1 (az (Z0 1 (ZG k (Z1 (ZF ⟨k+1,(ys++[x1]),v3,ob,ob,(XJ Zw (ZY Z3)),rfl,rfl,rfl⟩ (wk [2,0] (fr (ZI k fl)))))))))))))))
  exact ak (az (Z0 1 (ZG k (Z1 (ZF ⟨k+1,ys,u,ob,ob,ob,rfl,rfl,rfl⟩ (wk [0,0] (fr (ZI k fl))))))))
 exact ax 0 (ar (Zr (r2 [] [ZX ys u] ⟨ys,rfl,rfl,⟨by omega,Zw⟩⟩ (Zd.forget _ _))))
theorem Ziq (s:Z5) (ih:∀(b2:Z4),(b2.sz<s.sz)->(b2.sz<=1000000000)->Zj 156 [ZK b2] [] (Y7 (ZK b2))) (hz:s.sz<=1000000000):Zj 211 [YL s] [] (Y7 (YL s)):=by
 have hkz:=Uc s
 have haz:=TS s
 refine ZC 33 Tryz.func211 (ar (iA (Xw s) fun b1=>iA [.i 0,.i 0,.i 0,nl,nl] fun b2=>ie (ar (iL (YN []) 0 2 fun v1=>?_))))
 refine Z1 (Yd (ab 0 (ZW (fun fz gz m F h=>∃(k:Nat) (v:Value),(k<=s.kids.length)/\F=sF [1,2] fz [(3,Tc (s.kids.take k) v),(4,.i k)]/\h=[Zk gz 1,Zk gz 2,.tail v 2]/\m=s.kids.length-k) _ _ _ ⟨0,v1,ob,rfl,rfl,rfl⟩ (wk [1,1,0] (fc (x:=Tc [] v1) (Zd.slh _ (Yr YN rfl)) (Y1 fl))) ?_)))
 rintro m F h ⟨k,v,Yg,rfl,rfl,rfl⟩
 refine Yf 3 [1] (iw (Vp s.kids) (ZZ ((k:Int)<(s.kids.length:Int)) (fun Zb=>?_) (fun Zb=>?_)))
 ·refine ak (aq (ab 1 (az (ZO 4 [1] ?_))))
  obtain ⟨x1,Z3⟩:=Zt s.kids k om
  have hks:=Ub Z3
  exact Zl (Zi none (k:Int) 2 (VS Z3)) (Z0 1 (Zv [] (ih x1 ob ob) (iL [ZK x1] 1 2 fun v2=>ZT 0 [(20,.sl [ZK x1] none)] (ip 3 (YN (s.kids.take (k+1))) (YN (s.kids.take k)) [ZK x1] v none 2 (TW _) (Qf rfl) rfl (by simp<;>omega) (by rw [WB Z3];simp [T7]) fun v3=>Z1 (az (Z0 1 (ZG k (Z1 (ZF ⟨k+1,v3,ob,rfl,rfl,rfl⟩ (wk [2,2,0] (fr (ZI k fl))))))))))))
 refine ax 0 (aD 12 (ZQ 3 12 [0,1,2,3,4,5,6,7,9] [1,1,1,1] (Z8 8 (dc 8 [] [1,1,1] [b1,b1,b1] (Uh s.args) ?_))))
 rintro _ _ ⟨v4,rfl,rfl⟩
 exact Zm 1 2 [10] (Z8 11 (YP 11 1 [] [] b2 [.i s.op,.i s.num,.i s.into,ZX s.args v4,Tc (s.kids.take k) v] (de (ZL (r3 [] [.agg [.i s.op,.i s.num,.i s.into,ZX s.args v4,Tc (s.kids.take k) v]] [0] [(b2,b2)] ⟨rfl,rfl⟩ (Zd.agg (.cons (lr _) (.cons (lr _) (.cons (lr _) (.cons (Zd.forget _ _) (.cons (Zd.sl _ (Yr YN (by rw [WM om]))) .nil)))))))))))
theorem Zip (b:Z4) (ih:∀(s2:Z5),(s2.sz<b.sz)->(s2.sz<=1000000000)->Zj 211 [YL s2] [] (Y7 (YL s2))) (hz:b.sz<=1000000000):Zj 156 [ZK b] [] (Y7 (ZK b)):=by
 have hbz:=V7 b
 refine ZC 28 Tryz.func156 (ar (iA (X9 b) fun b1=>iA [nl,.i 0] fun b2=>ie (ar (iL (Zy []) 0 5 fun v1=>ZO 3 [2] (iA [nl,.i 0] fun b3=>?_)))))
 refine Zx 0 b3 [YY [] v1,.i b.result] (ie (Yd (ab 0 (ZW (fun fz gz m F h=>∃(k:Nat) (v:Value),(k<=b.steps.length)/\F=sF [1,2,3] fz [(4,.i k)]/\h=[.obj b3 [YY (b.steps.take k) v,.i b.result],Zk gz 2,Zk gz 3,.tail v 5]/\m=b.steps.length-k) _ _ _ ⟨0,v1,ob,rfl,rfl,rfl⟩ (wk [0,1,1,0] (Y1 fl)) ?_))))
 rintro m F h ⟨k,v,Yg,rfl,rfl,rfl⟩
 refine Yf 3 [2] (iw (V5 b.steps) (ZZ ((k:Int)<(b.steps.length:Int)) (fun Zb=>?_) (fun Zb=>?_)))
 ·refine ak (aq (ab 1 (aE 12 (ZQ 7 12 [0,1,2,3,4] [0,2] ?_))))
  obtain ⟨x1,Z3⟩:=Zt b.steps k om
  have hss:=TO Z3
  exact dx 5 (Zi none (k:Int) 5 (W6 Z3)) (Zm 5 6 [6] (Z8 7 (Yu 7 [] [0] [b3] (ih x1 ob ob) (Z8 8 (dL 8 [0] [b3] [YL x1] 1 5 fun v2=>Yz 3 3 [] [(24,.sl [YL x1] none)] (Z8 9 (dp 9 4 [] [] (Zy (b.steps.take (k+1))) (Zy (b.steps.take k)) [YL x1] v none 5 (Xu _) (Qf rfl) rfl (by simp<;>omega) (by rw [WB Z3];simp [VF]) fun v3=>Zm 1 2 [10] (Z8 11 (YP 11 2 [] [] b3 [YY (b.steps.take (k+1)) v3,.i b.result] (de (az (Z0 1 (ZG k (Z1 (ZF ⟨k+1,v3,ob,rfl,rfl,rfl⟩ (wk [0,2,2,0] (ZI k fl)))))))))))))))))
 exact ax 0 (Zu 1 [0] (Zx 1 b2 [YY (b.steps.take k) v,.i b.result] (ie (ZL (r3 [] [.agg [YY (b.steps.take k) v,.i b.result]] [0] [(b2,b2)] ⟨rfl,rfl⟩ (Zd.agg (.cons (Zd.sl _ (Yr Zy (by rw [WM om]))) (.cons (lr _) .nil))))))))
theorem Z1m (k:Nat):(∀(s:Z5),(s.sz<=k)->(s.sz<=1000000000)->Zj 211 [YL s] [] (Y7 (YL s)))/\(∀(b:Z4),(b.sz<=k)->(b.sz<=1000000000)->Zj 156 [ZK b] [] (Y7 (ZK b))):=by
 induction k with
 | zero=>exact ⟨fun s h=>by have:=s.sz_pos;omega,fun s h=>by have:=s.sz_pos;omega⟩
 | succ k ih=>exact ⟨fun s h hz=>Ziq s (fun b2 h2 h3=>ih.2 b2 om h3) hz,fun b h hz=>Zip b (fun s2 h2 h3=>ih.1 s2 om h3) hz⟩
theorem Z1l (s:Z5) (hz:s.sz<=1000000000:=by exact ob):Zj 211 [YL s] [] (Y7 (YL s)):=(Z1m s.sz).1 s (Xa _) hz
theorem Fu (b:Z4) (hz:b.sz<=1000000000:=by exact ob):Zj 156 [ZK b] [] (Y7 (ZK b)):=(Z1m b.sz).2 b (Xa _) hz
theorem Gx (n:Zp) (ls:List LI) (qz:Nat) (hn:FO n qz WY:=by exact ob) (hqz:qz<=100000:=by exact ob) (hls:LC n n.routines.length ls:=by exact ob):Zj 135 [Yh n,Q2 ls] [] (fun r h=>∃(n2:Zp),r=Yh n2/\h=[]/\FO n2 qz WY/\n2.routines.length=n.routines.length):=by
 have hnl:=hn.fn.len
 have XM:=hn.fn.decls.ok
 have hll:=hls.len
 refine ZC 45 Tryz.func135 (ar (iA (Yx n) fun b1=>iA [nl,nl] fun b2=>ie (Zu 2 [1] (Zv [] (BS n.decls) (iL (Yv []) 0 5 fun v1=>Z0 1 (iA [nl,nl] fun b3=>?_))))))
 refine Zx 0 b3 [Ye n.decls,Wu [] v1] (ie (Yd (ab 0 (ZW (fun fz gz m F h=>∃(k:Nat) (rs:List ZH) (u:Value),(k<=n.routines.length)/\(rs.length=k)/\(∀r∈rs,RF n.decls n.routines.length qz WY r)/\F=sF [1,2,4,5] fz [(6,.i k)]/\h=[.obj b3 [Ye n.decls,Wu rs u],Zk gz 2,Zk gz 3,.tail u 5]/\m=n.routines.length-k) _ _ _ ⟨0,[],v1,ob,ob,(fun r hr=>by cases hr),rfl,rfl,rfl⟩ (wk [0,1,1,0] (Y1 fl)) ?_))))
 rintro m F h ⟨k,rs,u,Yg,Zh,Zw,rfl,rfl,rfl⟩
 refine Yf 3 [2] (iw (V4 n.routines) (ZZ ((k:Int)<(n.routines.length:Int)) (fun Zb=>?_) (fun Zb=>?_)))
 ·refine ak (aq (ab 1 (Zu 3 [2] ?_)))
  obtain ⟨x1,Z3⟩:=Zt n.routines k om
  have hrf:=hn.rf (ZY Z3)
  have hrp:=hn.fn.ok.params_at Z3
  have hrz:=hrf.body.2
  refine Zl (Zi none (k:Int) 5 (Wf Z3)) (Z0 1 (iA [nl,nl,.i 0,nl,.i 0] fun b4=>Zx 0 b4 (U0 x1) (ie (aE 20 (ZQ 14 20 [0,1,2,3,5,6] [1,0] ?_)))))
  obtain ⟨x2,Zo⟩:=Zt ls k om
  have hlc:=hls.at Zo Z3
  refine dx 7 (Zi none (k:Int) 1 (Eo Zo)) (ZQ 8 13 [8,10,11,12,13] [0,0] (Z8 4 (dc 4 [] [0,0,1] [b4,b4,b3] (Uh x1.params) ?_)))
  rintro _ _ ⟨v2,rfl,rfl⟩
  refine Z8 9 (dc 9 [] [0,0,1] [b4,b4,b3] (Uh x2) ?_)
  rintro _ _ ⟨v3,rfl,rfl⟩
  exact Z8 14 (Yu 14 [] [0,1] [b4,b3] (Fu x1.body) (Yz 4 5 [15] [(40,.agg [Z6 x1.params,Z6 x2,.i x1.result,WW x1.body.steps,.i x1.body.result])] (Z8 16 (dL 16 [1] [b3] (Yv [ZH.mk x1.params x2 x1.result (Z4.mk x1.body.steps x1.body.result)]) 1 5 fun v4=>Yz 3 3 [] [(41,Q3 [ZH.mk x1.params x2 x1.result (Z4.mk x1.body.steps x1.body.result)])] (Z8 17 (dp 17 7 [] [] (Yv (rs++[ZH.mk x1.params x2 x1.result (Z4.mk x1.body.steps x1.body.result)])) (Yv rs) (Yv [ZH.mk x1.params x2 x1.result (Z4.mk x1.body.steps x1.body.result)]) u none 5 (U7 _) (U7 _) (Jw _) (by simp<;>omega) (by simp [A1,Yv]) fun v5=>Zm 1 2 [18] (Z8 19 (YP 19 5 [] [] b3 [Ye n.decls,Wu (rs++[ZH.mk x1.params x2 x1.result (Z4.mk x1.body.steps x1.body.result)]) v5] (de (az (Z0 1 (ZG k (Z1 (ZF ⟨k+1,(rs++[ZH.mk x1.params x2 x1.result (Z4.mk x1.body.steps x1.body.result)]),v5,ob,ob,(XJ Zw (by rw [Z4.eta];exact hrf.lend hlc.1 hlc.2)),rfl,rfl,rfl⟩ (wk [0,5,5,0] (ZI k fl))))))))))))))))
 exact ax 0 (Zu 1 [0] (Zx 1 b2 [Ye n.decls,Wu rs u] (ie (ZL (r3 [] [.agg [Ye n.decls,Wu rs u]] [0] [(b2,b2)] ⟨(Zp.mk n.decls rs),rfl,rfl,(FO.fin hn.fn om Zw)⟩ (Zd.agg (.cons (lr _) (.cons (Zd.forget _ _) .nil))))))))
theorem Z9i (n:Zp) (qz:Nat) (hn:FO n qz WY:=by exact ob) (hqz:qz<=100000:=by exact ob):Zj 78 [Yh n] [] (fun r h=>∃(n2:Zp),r=Yh n2/\h=[]/\FO n2 qz WY):=by
 refine ZC 33 Tryz.func78 (ar (iA (Yx n) fun b1=>iA [nl,nl] fun b2=>?_))
 refine ie (aD 6 (ZQ 4 6 [0,1] [1,1] (J5 (fun fz gz F h=>∃(n21:Zp) (b3:Nat) (xs1:List LI),(LC n n.routines.length xs1)/\(FO n21 qz WY/\n21.routines.length=n.routines.length)/\F=sF [2] fz [(3,.p b3 0)]/\h=[.obj b3 (Yx n21),Zk gz 0,Zk gz 1]) ?_ ?_)))
 ·refine VE 2 4 ?_ ?_
  ·refine dc 2 [] [1] [b1] (Pm n qz (hn:=hn.fn)) ?_
   rintro _ _ ⟨xs1,rfl,rfl,Y9⟩
   refine VE 3 4 ?_ ?_
   ·refine dc 3 [] [] [] (Gx n xs1 qz (hls:=(by first|assumption|(rw [<-hjl];exact Xs)))) ?_
    rintro _ _ ⟨n21,rfl,rfl,Yp⟩
    have hwl:=Yp
    exact Z8 4 (dA 4 [] [] [nl,nl] fun b3=>Z8 5 (YP 5 0 [] [] b3 (Yx n21) (de (ZV ⟨_,b3,_,(by assumption),(by assumption),rfl,rfl⟩ (ZE 3 fl)))))
   refine dA 4 [1] [b1] [nl,nl] fun b4=>Z8 3 (dc 3 [] [] [] (Gx n xs1 qz (hls:=(by first|assumption|(rw [<-hjl];exact Xs)))) ?_)
   rintro _ _ ⟨n22,rfl,rfl,YV⟩
   have hwl:=YV
   exact Z8 5 (YP 5 0 [] [] b4 (Yx n22) (de (ZV ⟨_,b4,_,(by assumption),(by assumption),rfl,rfl⟩ (ZE 3 fl))))
  refine dA 4 [1,1] [b1,b1] [nl,nl] fun b5=>Z8 2 (dc 2 [] [2] [b1] (Pm n qz (hn:=hn.fn)) ?_)
  rintro _ _ ⟨xs2,rfl,rfl,X6⟩
  refine Z8 3 (dc 3 [] [] [] (Gx n xs2 qz (hls:=(by first|assumption|(rw [<-hjl];exact Xs)))) ?_)
  rintro _ _ ⟨n23,rfl,rfl,Xq⟩
  have hwl:=Xq
  exact Z8 5 (YP 5 0 [] [] b5 (Yx n23) (de (ZV ⟨_,b5,_,(by assumption),(by assumption),rfl,rfl⟩ (ZE 3 fl))))
 rintro F h ⟨n21,b3,xs1,Y9,Yp,rfl,rfl⟩
 have hwl:=Yp
 refine Yd (ab 0 (ZW (fun fz gz m F h=>∃(k:Nat) (nn:Zp),(k<=13)/\(FO nn qz WY)/\F=sF [2,3] fz [(4,.i k)]/\h=[.obj b3 (Yx nn),Zk gz 1]/\m=13-k) _ _ _ ⟨0,n21,ob,hwl.1,rfl,rfl,rfl⟩ (wk [0,0] (Y1 fl)) ?_))
 rintro m F h ⟨k,nn,Yg,Zh,rfl,rfl,rfl⟩
 refine Xc (ZZ ((k:Int)<=12) (fun Zb=>?_) (fun Zb=>?_))
 ·refine ak (aq (ab 1 (ar (iL (Ys []) 0 1 fun v1=>?_))))
  refine Z1 (Yd (ab 2 (ZW (fun fz gz m F h=>∃(j:Nat) (ls:List LI) (u:Value),(j<=nn.routines.length)/\(LC nn j ls)/\(ls.length=j)/\F=sF [2,3,4] fz [(5,B4 ls u),(6,.i j)]/\h=[Zk gz 1,Zk gz 2,.tail u 1]/\m=nn.routines.length-j) _ _ _ ⟨0,[],v1,ob,LC.nil,ob,rfl,rfl,rfl⟩ (wk [1,1,0] (fr (Y1 fl))) ?_)))
  rintro m F h ⟨j,ls,u,Vo,Xs,XE,rfl,rfl,rfl⟩
  refine Yf 3 [0] (iw (V4 nn.routines) (ZZ ((j:Int)<(nn.routines.length:Int)) (fun Ze=>?_) (fun Ze=>?_)))
  ·obtain ⟨rt,hrt⟩:=Zt nn.routines j om
   have hrl:=(Zh.rf (ZY hrt)).lent
   have hnl4:=Zh.fn.len
   refine ak (aq (ab 3 (az (ZO 3 [0] (ic [] (Z9a nn rt j qz (hn:=Zh.fn) (hr:=hrt)) ?_)))))
   rintro _ _ ⟨xs3,rfl,rfl,W7⟩
   have hkl:=W7
   exact iL (Ys [xs3]) 1 1 fun v2=>ZT 0 [(27,Q2 [xs3])] (ip 3 (Ys (ls++[xs3])) (Ys ls) (Ys [xs3]) u none 1 (Kc _) (Kc _) (Cp _) (by simp<;>omega) (by simp [Dk,Ys]) fun v3=>Z1 (az (Z0 1 (ZG j (Z1 (ZF ⟨j+1,(ls++[xs3]),v3,ob,(Xs.snoc om (fun r hr v hv=>by rw [hrt] at hr;cases hr;exact hrl.2 v (hkl.2 v hv))),ob,rfl,rfl,rfl⟩ (wk [2,2,0] (fr (ZI j fl)))))))))
  have hjl:j=nn.routines.length:=by omega
  refine ax 2 (az (Qk 2 [(30,Q2 ls)] [0] (ic [] (Gx nn ls qz (hls:=(by first|assumption|(rw [<-hjl];exact Xs)))) ?_)))
  rintro _ _ ⟨n24,rfl,rfl,WJ⟩
  have hwl:=WJ
  exact Zx 0 b3 (Yx n24) (ie (az (Z0 1 (ZG k (Z1 (ZF ⟨k+1,n24,ob,hwl.1,rfl,rfl,rfl⟩ (wk [0,0] (ZI k fl))))))))
 exact ax 0 (Zu 1 [0] (Zx 1 b2 (Yx nn) (ie (ZL (r3 [] [Yh nn] [0] [(b2,b2)] ⟨nn,rfl,rfl,(by first|exact Zh|exact hwl.1)⟩ (lr _))))))
theorem ED (xs:LI) (y:Int) (hl:xs.length<=1000000000:=by exact ob):Zj 220 [Z6 xs,.i y] [] (fun r h=>∃(v:Value),r=ZX (Ur xs y) v/\h=[.tail v 1]):=by
 refine ZC 49 Tryz.func220 (ZJ (ar (iL (Z7 []) 0 1 fun v1=>?_)))
 refine Z1 (ZJ (Yd (ab 0 (ZW (fun fz gz m F h=>∃(k:Nat) (acc:LI) (d:Bool) (v:Value),(k<=xs.length)/\(acc.length<=k+(if d=true then 1 else 0))/\(acc++QD d (xs.drop k) y=Ur xs y)/\F=sF [0,1] fz [(5,ZX acc v),(6,.b d),(7,.i k)]/\h=[.tail v 1]/\m=xs.length-k) _ _ _ ⟨0,[],false,v1,ob,(by simp),rfl,rfl,rfl,rfl⟩ (wk [0] (fw (Y1 fl))) ?_))))
 rintro m F h ⟨k,acc,d,v,Yg,Zh,Zw,rfl,rfl,rfl⟩
 refine YU 2 (iw (Yo xs) (ZZ ((k:Int)<(xs.length:Int)) (fun Zb=>?_) (fun Zb=>?_)))
 ·obtain ⟨x1,Z3⟩:=Zt xs k om
  have hil:acc.length<=k+1:=Ww Zh (by split<;>omega)
  refine ak (aq (ab 1 (Xc (Xt [0,1,5,6,7] [(24,.b ((!d)&&(decide (x1>=y))))] (fun gz=>gz) ?_ ?_))))
  ·refine Z0 3 (ib (b:=(!d)) 17 (fun Zc=>?_) (fun Zc=>?_))
   ·exact Z0 2 (Zl (Zi none (k:Int) 1 (Y5 Z3)) (Z1 (wk [0] (Zs (decide (x1>=y)) Zc fl))))
   exact Z1 (wk [0] (Zs false Zc fl))
  refine W5 (fun fz gz F h=>∃(acc2:LI) (d2:Bool) (w:Value),((acc2=acc/\d2=d/\(d=true∨¬x1>=y))∨(acc2=acc++[y]/\d2=true/\¬d=true/\x1>y)∨(acc2=acc/\d2=true/\¬d=true/\x1=y))/\(acc2.length<=k+(if d2=true then 1 else 0))/\(acc2.length<=k+1)/\F=sF [0,1,7] fz [(5,ZX acc2 w),(6,.b d2)]/\h=[.tail w 1]) ?_ ?_
  ·refine ac ((!d)&&(decide (x1>=y))) (p:=(¬(d=true))/\(x1>=y)) (YA (Yq Iff.rfl) dq) (fun Ze=>?_) (fun Ze=>?_)
   ·refine YU 2 (Zl (Zi none (k:Int) 1 (Y5 Z3)) (Z1 (W5 (fun fz gz F h=>∃(w3:Value),F=sF [0,1,7] fz [(5,ZX (if x1>y then (acc++[y]) else acc) w3)]/\h=[.tail w3 1]) ?_ ?_)))
    ·refine XT (x1>y) (fun ZB=>?_) (fun ZB=>?_)
     ·exact az (Z0 2 (iL (Z7 [y]) 1 1 fun v2=>ZT 0 [(33,Z6 [y])] (ip 1 (Z7 (acc++[y])) (Z7 acc) (Z7 [y]) v none 1 (YI _) (YI _) (We _) (by simp<;>omega) (by simp [Wd,Z7]) fun v3=>Z1 (ZV ⟨v3,rfl,rfl⟩ (wk [0] (fc (x:=ZX (acc++[y]) v3) (Zd.slh _ (Yr Z7 (by first|rfl|(rw [Zg ZB])|(rw [Z9 ZB])|(simp [ZB];done)|(rw [XA];simp [ZB];done)|omega))) fl))))))
     exact ak (ZV ⟨v,rfl,rfl⟩ (wk [0] (fc (x:=ZX acc v) (Zd.slh _ (Yr Z7 (by first|rfl|(rw [Zg ZB])|(rw [Z9 ZB])|(simp [ZB];done)|(rw [XA];simp [ZB];done)|omega))) fl)))
    rintro F h ⟨w3,rfl,rfl⟩
    exact T9 (ZV ⟨(if x1>y then (acc++[y]) else acc),true,w3,(if h:x1>y then (by rw [Zg h];exact .inr (.inl ⟨rfl,rfl,Ze.1,h⟩)) else (by rw [Z9 h];exact .inr (.inr ⟨rfl,rfl,Ze.1,by have:=Ze.2;omega⟩))),(by have h1:=Zh;rw [Z9 Ze.1] at h1;split<;>(simp<;>omega)),(by have h1:=Zh;rw [Z9 Ze.1] at h1;split<;>(simp<;>omega)),rfl,rfl⟩ (wk [0] fl))
   exact ak (ZV ⟨acc,d,v,(.inl ⟨rfl,rfl,by by_cases q:d=true;exact .inl q;exact .inr (fun z=>Ze ⟨q,z⟩)⟩),Zh,hil,rfl,rfl⟩ (wk [0] fl))
  rintro F h ⟨acc2,d2,w,Ua,B0,LJ,rfl,rfl⟩
  exact az (Z0 3 (Zl (Zi none (k:Int) 1 (Y5 Z3)) (Z0 1 (iL (Z7 [x1]) 1 1 fun v4=>ZT 0 [(40,Z6 [x1])] (ip 1 (Z7 (acc2++[x1])) (Z7 acc2) (Z7 [x1]) w none 1 (YI _) (YI _) (We _) (by simp<;>omega) (by simp [Wd,Z7]) fun v5=>Z1 (az (Z0 1 (ZG k (Z1 (ZF ⟨k+1,(acc2++[x1]),d2,v5,ob,(by simp only [YF,YR,Xx];omega),(Zco Z3 Zw Ua),rfl,rfl,rfl⟩ (wk [0] (fw (ZI k fl)))))))))))))
 have hil:acc.length<=k+1:=Ww Zh (by split<;>omega)
 refine ax 0 (Yd (W5 (fun fz gz F h=>∃(w4:Value),F=sF [] fz [(5,ZX (if d=true then acc else (acc++[y])) w4)]/\h=[.tail w4 1]) ?_ ?_))
 ·refine ac (!d) (p:=¬(d=true)) (Yq Iff.rfl) (fun Yk=>?_) (fun Yk=>?_)
  ·exact az (Z0 2 (iL (Z7 [y]) 1 1 fun v6=>ZT 0 [(46,Z6 [y])] (ip 1 (Z7 (acc++[y])) (Z7 acc) (Z7 [y]) v none 1 (YI _) (YI _) (We _) (by simp<;>omega) (by simp [Wd,Z7]) fun v7=>Z1 (ZV ⟨v7,rfl,rfl⟩ (wk [0] (fc (x:=ZX (acc++[y]) v7) (Zd.slh _ (Yr Z7 (by first|rfl|(rw [Zg Yk])|(rw [Z9 Yk])|(simp [Yk];done)|(rw [XA];simp [Yk];done)|omega))) fl))))))
  exact ak (ZV ⟨v,rfl,rfl⟩ (wk [0] (fc (x:=ZX acc v) (Zd.slh _ (Yr Z7 (by first|rfl|(rw [Zg Yk])|(rw [Z9 Yk])|(simp [Yk];done)|(rw [XA];simp [Yk];done)|omega))) fl)))
 rintro F h ⟨w4,rfl,rfl⟩
 exact ar (Zr (r2 [0] [ZX (if d=true then acc else (acc++[y])) w4] ⟨w4,rfl,rfl⟩ (Zd.slh _ (Yr Z7 (Zcn om Zw)))))
theorem PC (xs:LI) (y:Int) (hl:xs.length<=1000000000:=by exact ob):Zj 249 [Z6 xs,.i y] [] (fun r h=>∃(v:Value),r=ZX (Qh xs y) v/\h=[.tail v 1]):=by
 refine ZC 28 Tryz.func249 (ZJ (ar (iL (Z7 []) 0 1 fun v1=>?_)))
 refine Z1 (Yd (ab 0 (ZW (fun fz gz m F h=>∃(k:Nat) (acc:LI) (v:Value),(k<=xs.length)/\(acc.length<=k)/\(acc++Qh (xs.drop k) y=Qh xs y)/\F=sF [0,1] fz [(5,ZX acc v),(6,.i k)]/\h=[.tail v 1]/\m=xs.length-k) _ _ _ ⟨0,[],v1,ob,ob,rfl,rfl,rfl,rfl⟩ (wk [0] (fr (Y1 fl))) ?_)))
 rintro m F h ⟨k,acc,v,Yg,Zh,Zw,rfl,rfl,rfl⟩
 refine YU 2 (iw (Yo xs) (ZZ ((k:Int)<(xs.length:Int)) (fun Zb=>?_) (fun Zb=>?_)))
 ·refine ak (aq (ab 1 (Yb 2 ?_)))
  obtain ⟨x1,Z3⟩:=Zt xs k om
  refine Zl (Zi none (k:Int) 1 (Y5 Z3)) (Z1 (AC (fun fz gz F h=>∃(w:Value),F=sF [0,1,6] fz [(5,ZX (if x1≠y then (acc++[x1]) else acc) w)]/\h=[.tail w 1]) (fun _ _=>rfl) ?_ ?_))
  ·refine ac (x1 != y) Yc (fun Ze=>?_) (fun Ze=>?_)
   ·exact az (Z0 3 (Zl (Zi none (k:Int) 1 (Y5 Z3)) (Z0 1 (iL (Z7 [x1]) 1 1 fun v2=>ZT 0 [(25,Z6 [x1])] (ip 1 (Z7 (acc++[x1])) (Z7 acc) (Z7 [x1]) v none 1 (YI _) (YI _) (We _) (by simp<;>omega) (by simp [Wd,Z7]) fun v3=>Z1 (ZV ⟨v3,rfl,rfl⟩ (wk [0] (fc (x:=ZX (acc++[x1]) v3) (Zd.slh _ (Yr Z7 (by first|rfl|(rw [Zg Ze])|(rw [Z9 Ze])|(simp [Ze];done)|(rw [XA];simp [Ze];done)|omega))) fl))))))))
   exact ak (ZV ⟨v,rfl,rfl⟩ (wk [0] (fc (x:=ZX acc v) (Zd.slh _ (Yr Z7 (by first|rfl|(rw [Zg Ze])|(rw [Z9 Ze])|(simp [Ze];done)|(rw [XA];simp [Ze];done)|omega))) fl)))
  rintro F h ⟨w,rfl,rfl⟩
  exact az (Z0 1 (ZG k (Z1 (ZF ⟨k+1,(if x1≠y then (acc++[x1]) else acc),w,ob,(by split<;>(try simp)<;>omega),(Zfl Z3 Zw),rfl,rfl,rfl⟩ (wk [0] (fr (ZI k fl)))))))
 exact ax 0 (ar (Zr (r2 [0] [ZX acc v] ⟨v,rfl,rfl⟩ (Zd.slh _ (Yr Z7 (Zfk om Zw))))))
theorem Zie (s:Z5) (q:Int) (xs:LI) (ih:∀(b2:Z4) (q:Int) (k2:Nat) (xs2:LI),(b2.sz<s.sz)->(k2<=b2.steps.length)->(xs2.length+b2.sz<=1000000000)->Zj 243 [ZK b2,.i q,.i k2,Z6 xs2] [] (Y7 (Z6 (UZ q (Tf q (b2.steps.drop k2) xs2) b2.result)))) (hz:xs.length+s.sz<=1000000000):Zj 278 [YL s,.i q,Z6 xs] [] (Y7 (Z6 (JH q s xs))):=by
 have hkz:=Uc s
 have haz:=TS s
 have hse:=s.sz_eq
 refine ZC 58 Tryz.func278 (ar (iA (Xw s) fun b1=>Z1 (Yf 2 [0] (Zv [] (ML s.op) (ie (ac (Yw s.op) Iff.rfl (fun Zb=>?_) (fun Zb=>?_)))))))
 ·exact ar (Zr (ZU (Z6 xs) (Zd.sl _ (Yr Z7 (by rw [Z2t,Zg (by assumption)])))))
 refine ak (Yd (ab 0 (ZW (fun fz gz m F h=>∃(j:Nat) (ys:LI),(j<=s.args.length)/\(ys.length<=xs.length+j)/\(QZ q (s.args.drop j) ys=QZ q s.args xs)/\F=sF [1,3] fz [(2,Z6 ys),(7,.i j)]/\h=gz/\m=s.args.length-j) _ _ _ ⟨0,xs,ob,ob,rfl,rfl,rfl,rfl⟩ (wk [0] (fr (Y1 fl))) ?_)))
 rintro m F h ⟨j,ys,Yg,Zh,Zw,rfl,rfl,rfl⟩
 refine Yf 3 [0] (iw (Yo s.args) (ZZ ((j:Int)<(s.args.length:Int)) (fun Ze=>?_) (fun Ze=>?_)))
 ·refine ak (aq (ab 1 (Zu 3 [0] ?_)))
  obtain ⟨x1,Z3⟩:=Zt s.args j om
  refine Zl (Zi none (j:Int) 1 (Y5 Z3)) (Xt [1,2,3,7] [(34,.b ((decide (x1>=0))&&(decide (x1<q))))] (fun gz=>gz) ?_ ?_)
  ·refine Z0 3 (ib (b:=(decide (x1>=0))) 26 (fun Zc=>?_) (fun Zc=>?_))
   ·exact ZO 3 [0] (Zl (Zi none (j:Int) 1 (Y5 Z3)) (Z1 (wk [0] (Zs (decide (x1<q)) Zc fl))))
   exact Z1 (wk [0] (Zs false Zc fl))
  refine AC (fun fz gz F h=>F=sF [1,3,7] fz [(2,Z6 (UZ q ys x1))]/\h=gz) (fun _ _=>rfl) ?_ ?_
  ·refine ac ((decide (x1>=0))&&(decide (x1<q))) (p:=(x1>=0)/\(x1<q)) (YA dq dq) (fun ZB=>?_) (fun ZB=>?_)
   ·refine az (ZO 4 [0] (Zl (Zi none (j:Int) 1 (Y5 Z3)) (Z0 1 (ic [] (ED ys x1) ?_))))
    rintro _ _ ⟨v1,rfl,rfl⟩
    exact Z1 (ZV ⟨rfl,rfl⟩ (wk [1] (fc (x:=ZX (Ur ys x1) v1) (Zd.sl _ (Yr Z7 (by rw [UZ,Zg (by assumption)]))) fl)))
   exact ak (ZV ⟨rfl,rfl⟩ (wk [0] (fc (x:=Z6 ys) (Zd.sl _ (Yr Z7 (by rw [UZ,Z9 (by assumption)]))) fl)))
  rintro F h ⟨rfl,rfl⟩
  exact az (Z0 1 (ZG j (Z1 (ZF ⟨j+1,(UZ q ys x1),ob,(by have:=HS (n:=q) ys x1;omega),(Zl2 Z3 Zw),rfl,rfl,rfl⟩ (wk [0] (fr (ZI j fl)))))))
 have hA:QZ q s.args xs=ys:=(Zl1 om Zw).symm
 refine ax 0 (Yd (ab 2 (ZW (fun fz gz m F h=>∃(j:Nat) (zs:LI),(j<=s.kids.length)/\(zs.length<=xs.length+s.args.length+Xf (s.kids.take j))/\(Jj q (s.kids.drop j) zs=Jj q s.kids (QZ q s.args xs))/\F=sF [1,3] fz [(2,Z6 zs),(8,.i j)]/\h=gz/\m=s.kids.length-j) _ _ _ ⟨0,ys,ob,(by rw [List.take_zero,Xf];omega),(by rw [hA];rfl),rfl,rfl,rfl⟩ (wk [0] (fr (Y1 fl))) ?_)))
 rintro m F h ⟨j,zs,Vo,Xs,XE,rfl,rfl,rfl⟩
 refine Yf 3 [0] (iw (Vp s.kids) (ZZ ((j:Int)<(s.kids.length:Int)) (fun Yk=>?_) (fun Yk=>?_)))
 ·refine ak (aq (ab 3 (az (ZO 3 [0] ?_))))
  obtain ⟨x2,Zo⟩:=Zt s.kids j om
  have hks:=Ub Zo
  have hbt:=FT Zo
  have hbx:=FQ Zo
  have hul:=HR (n:=q) x2 zs
  exact Zl (Zi none (j:Int) 2 (VS Zo)) (Z0 3 (Zv [] (ih x2 q 0 zs ob ob ob) (Z1 (az (Z0 1 (ZG j (Z1 (ZF ⟨j+1,(Te q x2 zs),ob,om,(Zl4 Zo XE),rfl,rfl,rfl⟩ (wk [0] (fc (x:=Z6 (UZ q (Tf q (x2.steps.drop 0) zs) x2.result)) (Zd.sl _ (Yr Z7 (by rw [Z2r];rfl))) (ZI j fl)))))))))))
 exact ax 2 (ar (Zr (ZU (Z6 zs) (Zd.sl _ (Yr Z7 (by rw [Z2t,Z9 (by assumption)];exact (Zl3 om XE)))))))
theorem Zif (b:Z4) (q:Int) (k0:Nat) (xs:LI) (ih:∀(s2:Z5) (q:Int) (xs2:LI),(s2.sz<b.sz)->(xs2.length+s2.sz<=1000000000)->Zj 278 [YL s2,.i q,Z6 xs2] [] (Y7 (Z6 (JH q s2 xs2)))) (hk:k0<=b.steps.length) (hz:xs.length+b.sz<=1000000000):Zj 243 [ZK b,.i q,.i k0,Z6 xs] [] (Y7 (Z6 (UZ q (Tf q (b.steps.drop k0) xs) b.result))):=by
 have hbz:=V7 b
 have hbe:=b.sz_eq
 have hsd:=Z1x b.steps k0
 refine ZC 40 Tryz.func243 (ar (iA (X9 b) fun b1=>?_))
 refine Z1 (Yd (ab 0 (ZW (fun fz gz m F h=>∃(k:Nat) (ys:LI),(k<=b.steps.length)/\(ys.length+YG (b.steps.drop k)<=xs.length+YG (b.steps.drop k0))/\(Tf q (b.steps.drop k) ys=Tf q (b.steps.drop k0) xs)/\F=sF [1,4] fz [(3,Z6 ys),(9,.i k)]/\h=gz/\m=b.steps.length-k) _ _ _ ⟨k0,xs,ob,(Xa _),rfl,rfl,rfl,rfl⟩ (wk [0] fl) ?_)))
 rintro m F h ⟨k,ys,Yg,Zh,Zw,rfl,rfl,rfl⟩
 refine Yf 3 [0] (iw (V5 b.steps) (ZZ ((k:Int)<(b.steps.length:Int)) (fun Zb=>?_) (fun Zb=>?_)))
 ·refine ak (aq (ab 1 (az (ZO 3 [0] ?_))))
  obtain ⟨x1,Z3⟩:=Zt b.steps k om
  have hss:=TO Z3
  have hsd1:=Z1w Z3
  have hul:=Z2u (n:=q) x1 ys
  exact Zl (Zi none (k:Int) 5 (W6 Z3)) (Z0 3 (Zv [] (ih x1 q ys ob ob) (Z1 (az (Z0 1 (ZG k (Z1 (ZF ⟨k+1,(JH q x1 ys),ob,ob,(Zl6 Z3 Zw),rfl,rfl,rfl⟩ (wk [0] (fr (ZI k fl)))))))))))
 refine ax 0 (Xc (Xt [3,4] [(34,.b ((decide (b.result>=0))&&(decide (b.result<q))))] (fun gz=>gz) ?_ ?_))
 ·refine ZO 4 [0] (ib (b:=(decide (b.result>=0))) 29 (fun Zc=>?_) (fun Zc=>?_))
  ·exact U2 [0] (wk [0] (Zs (decide (b.result<q)) Zc fl))
  exact Z1 (wk [0] (Zs false Zc fl))
 refine W5 (fun fz gz F h=>F=sF [] fz [(3,Z6 (UZ q ys b.result))]/\h=[]) ?_ ?_
 ·refine ac ((decide (b.result>=0))&&(decide (b.result<q))) (p:=(b.result>=0)/\(b.result<q)) (YA dq dq) (fun Ze=>?_) (fun Ze=>?_)
  ·refine az (ZO 3 [0] (ic [] (ED ys b.result) ?_))
   rintro _ _ ⟨v1,rfl,rfl⟩
   exact Z1 (ZV ⟨rfl,rfl⟩ (wk [] (fc (x:=ZX (Ur ys b.result) v1) (Zd.sl _ (Yr Z7 (by rw [UZ,Zg (by assumption)]))) fl)))
  exact ak (ZV ⟨rfl,rfl⟩ (wk [] (fc (x:=Z6 ys) (Zd.sl _ (Yr Z7 (by rw [UZ,Z9 (by assumption)]))) fl)))
 rintro F h ⟨rfl,rfl⟩
 exact ar (Zr (ZU (Z6 (UZ q ys b.result)) (Zd.sl _ (Yr Z7 (by rw [Zl5 om Zw])))))
theorem Zji (k:Nat):(∀(s:Z5) (q:Int) (xs:LI),(s.sz<=k)->(xs.length+s.sz<=1000000000)->Zj 278 [YL s,.i q,Z6 xs] [] (Y7 (Z6 (JH q s xs))))/\(∀(b:Z4) (q:Int) (k0:Nat) (xs:LI),(b.sz<=k)->(k0<=b.steps.length)->(xs.length+b.sz<=1000000000)->Zj 243 [ZK b,.i q,.i k0,Z6 xs] [] (Y7 (Z6 (UZ q (Tf q (b.steps.drop k0) xs) b.result)))):=by
 induction k with
 | zero=>exact ⟨fun s q xs h=>by have:=s.sz_pos;omega,fun b q k0 xs h=>by have:=b.sz_pos;omega⟩
 | succ k ih=>exact ⟨fun s q xs h hz=>Zie s q xs (fun b2 q k2 xs2 h2 hk h3=>ih.2 b2 q k2 xs2 om hk h3) hz,fun b q k0 xs h hk hz=>Zif b q k0 xs (fun s2 q xs2 h2 h3=>ih.1 s2 q xs2 om h3) hk hz⟩
theorem Z1f (b:Z4) (q:Int) (k0:Nat) (xs:LI) (hk:k0<=b.steps.length:=by exact ob) (hz:xs.length+b.sz<=1000000000:=by exact ob):Zj 243 [ZK b,.i q,.i k0,Z6 xs] [] (Y7 (Z6 (UZ q (Tf q (b.steps.drop k0) xs) b.result))):=(Zji b.sz).2 b q k0 xs (Xa _) hk hz
theorem Z1s (b:Z4) (q:Int) (hz:b.sz<=100000000:=by exact ob):Zj 201 [ZK b,.i q] [] (Y7 (Z6 (Te q b []))):=by
 exact ZC 9 Tryz.func201 (ar (iA (X9 b) fun b1=>Z1 (Zu 2 [0] (iL (Z7 []) 0 1 fun v1=>ZT 0 [(7,Z6 [])] (Zv [] (Z1f b q 0 [] (hk:=(TB _))) (Zr (ZU (Z6 (UZ q (Tf q (b.steps.drop 0) []) b.result)) (Zd.sl _ (Yr Z7 (by rw [Z2r];rfl))))))))))
theorem Za8 (xs:LI) (ys:LI) (hz:xs.length+ys.length<=100000000:=by exact ob):Zj 244 [Z6 xs,Z6 ys] [] (fun r h=>∃(zs:LI),r=Z6 zs/\h=[]/\zs.length<=xs.length+ys.length):=by
 refine ZC 22 Tryz.func244 (ZJ (Yb 1 (ic [] (Uh xs) ?_)))
 rintro _ _ ⟨v1,rfl,rfl⟩
 refine Z1 (Yd (ab 0 (ZW (fun fz gz m F h=>∃(k:Nat) (zs:LI),(k<=ys.length)/\(zs.length<=xs.length+k)/\F=sF [1] fz [(5,Z6 zs),(6,.i k)]/\h=[]/\m=ys.length-k) _ _ _ ⟨0,xs,ob,ob,rfl,rfl,rfl⟩ (wk [] (fc (x:=ZX xs v1) (Zd.forget _ _) (Y1 fl))) ?_)))
 rintro m F h ⟨k,zs,Yg,Zh,rfl,rfl,rfl⟩
 refine YU 2 (iw (Yo ys) (ZZ ((k:Int)<(ys.length:Int)) (fun Zb=>?_) (fun Zb=>?_)))
 ·refine ak (aq (ab 1 (az (Z0 3 ?_))))
  obtain ⟨x1,Z3⟩:=Zt ys k om
  refine Zl (Zi none (k:Int) 1 (Y5 Z3)) (Z0 1 (ic [] (ED zs x1) ?_))
  rintro _ _ ⟨v2,rfl,rfl⟩
  exact Z1 (az (Z0 1 (ZG k (Z1 (ZF ⟨k+1,(Ur zs x1),ob,(by have:=DA zs x1;omega),rfl,rfl,rfl⟩ (wk [] (fc (x:=ZX (Ur zs x1) v2) (Zd.forget _ _) (ZI k fl))))))))
 exact ax 0 (ar (Zr (r1 [] ⟨zs,rfl,rfl,ob⟩)))
theorem Po (xs:LI) (ys:LI) (hz:xs.length<=100000000:=by exact ob) (hy:ys.length<=100000000:=by exact ob):Zj 281 [Z6 xs,Z6 ys] [] (fun r h=>∃(zs:LI) (v:Value),r=ZX zs v/\h=[.tail v 1]/\zs.length<=xs.length/\∀z∈zs,z∈xs):=by
 refine ZC 28 Tryz.func281 (ZJ (ar (iL (Z7 []) 0 1 fun v1=>?_)))
 refine Z1 (Yd (ab 0 (ZW (fun fz gz m F h=>∃(k:Nat) (zs:LI) (u:Value),(k<=xs.length)/\(zs.length<=k)/\(∀z∈zs,z∈xs)/\F=sF [0,1] fz [(5,ZX zs u),(6,.i k)]/\h=[.tail u 1]/\m=xs.length-k) _ _ _ ⟨0,[],v1,ob,ob,(fun z hz=>by cases hz),rfl,rfl,rfl⟩ (wk [0] (fr (Y1 fl))) ?_)))
 rintro m F h ⟨k,zs,u,Yg,Zh,Zw,rfl,rfl,rfl⟩
 refine YU 2 (iw (Yo xs) (ZZ ((k:Int)<(xs.length:Int)) (fun Zb=>?_) (fun Zb=>?_)))
 ·refine ak (aq (ab 1 (Yb 3 ?_)))
  obtain ⟨x1,Z3⟩:=Zt xs k om
  refine Zl (Zi none (k:Int) 1 (Y5 Z3)) (Z0 1 (Zv [] (UY ys x1) (ie (XT (x1∈ys) (fun Ze=>?_) (fun Ze=>?_)))))
  ·exact az (Z0 3 (Zl (Zi none (k:Int) 1 (Y5 Z3)) (Z0 1 (iL (Z7 [x1]) 1 1 fun v2=>ZT 0 [(25,Z6 [x1])] (ip 1 (Z7 (zs++[x1])) (Z7 zs) (Z7 [x1]) u none 1 (YI _) (YI _) (We _) (by simp<;>omega) (by simp [Wd,Z7]) fun v3=>Z1 (az (Z0 1 (ZG k (Z1 (ZF ⟨k+1,(zs++[x1]),v3,ob,ob,(by first|exact Zw|exact XJ Zw (ZY Z3)),rfl,rfl,rfl⟩ (wk [0] (fr (ZI k fl)))))))))))))
  exact ak (az (Z0 1 (ZG k (Z1 (ZF ⟨k+1,zs,u,ob,ob,(by first|exact Zw|exact XJ Zw (ZY Z3)),rfl,rfl,rfl⟩ (wk [0] (fr (ZI k fl))))))))
 exact ax 0 (ar (Zr (r1 [0] ⟨zs,u,rfl,rfl,⟨by omega,Zw⟩⟩)))
theorem Lj (xs:LI) (q:Int) (hz:xs.length<=100000000:=by exact ob):Zj 296 [Z6 xs,.i q] [] (fun r h=>∃(zs:LI) (v:Value),r=ZX zs v/\h=[.tail v 1]/\zs.length<=xs.length/\∀z∈zs,z∈xs):=by
 refine ZC 28 Tryz.func296 (ZJ (ar (iL (Z7 []) 0 1 fun v1=>?_)))
 refine Z1 (Yd (ab 0 (ZW (fun fz gz m F h=>∃(k:Nat) (zs:LI) (u:Value),(k<=xs.length)/\(zs.length<=k)/\(∀z∈zs,z∈xs)/\F=sF [0,1] fz [(5,ZX zs u),(6,.i k)]/\h=[.tail u 1]/\m=xs.length-k) _ _ _ ⟨0,[],v1,ob,ob,(fun z hz=>by cases hz),rfl,rfl,rfl⟩ (wk [0] (fr (Y1 fl))) ?_)))
 rintro m F h ⟨k,zs,u,Yg,Zh,Zw,rfl,rfl,rfl⟩
 refine YU 2 (iw (Yo xs) (ZZ ((k:Int)<(xs.length:Int)) (fun Zb=>?_) (fun Zb=>?_)))
 ·refine ak (aq (ab 1 (Yb 2 ?_)))
  obtain ⟨x1,Z3⟩:=Zt xs k om
  refine Zl (Zi none (k:Int) 1 (Y5 Z3)) (ZZ (x1<q) (fun Ze=>?_) (fun Ze=>?_))
  ·exact az (Z0 3 (Zl (Zi none (k:Int) 1 (Y5 Z3)) (Z0 1 (iL (Z7 [x1]) 1 1 fun v2=>ZT 0 [(25,Z6 [x1])] (ip 1 (Z7 (zs++[x1])) (Z7 zs) (Z7 [x1]) u none 1 (YI _) (YI _) (We _) (by simp<;>omega) (by simp [Wd,Z7]) fun v3=>Z1 (az (Z0 1 (ZG k (Z1 (ZF ⟨k+1,(zs++[x1]),v3,ob,ob,(by first|exact Zw|exact XJ Zw (ZY Z3)),rfl,rfl,rfl⟩ (wk [0] (fr (ZI k fl)))))))))))))
  exact ak (az (Z0 1 (ZG k (Z1 (ZF ⟨k+1,zs,u,ob,ob,(by first|exact Zw|exact XJ Zw (ZY Z3)),rfl,rfl,rfl⟩ (wk [0] (fr (ZI k fl))))))))
 exact ax 0 (ar (Zr (r1 [0] ⟨zs,u,rfl,rfl,⟨by omega,Zw⟩⟩)))
theorem Aj (op:Int) (v:Int) :Zj 90 [.i op,.i v] [] (Y7 (YL (Zz op v))):=by
 exact ZC 10 Tryz.func90 (ar (iA [.i 0,.i 0,.i 0,nl,nl] fun b1=>ie (Yb 2 (iL (Z7 [v]) 1 1 fun v1=>iL (YN []) 0 2 fun v2=>Z0 1 (Zx 2 b1 [.i op,.i 0,.i 0,ZX [v] v1,Tc [] v2] (ie (ZL (r3 [] [.agg [.i op,.i 0,.i 0,ZX [v] v1,Tc [] v2]] [0] [(b1,b1)] ⟨rfl,rfl⟩ (Zd.agg (.cons li (.cons li (.cons li (.cons (Zd.sl _ (Yr Z7 rfl)) (.cons (Zd.sl _ (Yr YN rfl)) .nil))))))))))))))
theorem KQ (op:Int) (xs:LI) (hl:xs.length<=1000000000:=by exact ob):Zj 196 [.i op,Z6 xs] [] (fun r h=>∃(v:Value),r=YY (xs.map (Zz op)) v/\h=[.tail v 5]):=by
 refine ZC 24 Tryz.func196 (ZJ (ar (iL (Zy []) 0 5 fun v1=>?_)))
 refine Z1 (Yd (ab 0 (ZW (fun fz gz m F h=>∃(k:Nat) (v:Value),(k<=xs.length)/\F=sF [0,1] fz [(5,YY ((xs.take k).map (Zz op)) v),(6,.i k)]/\h=[.tail v 5]/\m=xs.length-k) _ _ _ ⟨0,v1,ob,rfl,rfl,rfl⟩ (wk [0] (fc (x:=YY [] v1) (Zd.slh _ (Yr Zy rfl)) (Y1 fl))) ?_)))
 rintro m F h ⟨k,v,Yg,rfl,rfl,rfl⟩
 refine YU 2 (iw (Yo xs) (ZZ ((k:Int)<(xs.length:Int)) (fun Zb=>?_) (fun Zb=>?_)))
 ·refine ak (aq (ab 1 (az (Z0 4 ?_))))
  obtain ⟨x1,Z3⟩:=Zt xs k om
  exact Zl (Zi none (k:Int) 1 (Y5 Z3)) (Z0 1 (Zv [] (Aj op x1) (iL [YL (Zz op x1)] 1 5 fun v2=>ZT 0 [(21,.sl [YL (Zz op x1)] none)] (ip 1 (Zy ((xs.take (k+1)).map (Zz op))) (Zy ((xs.take k).map (Zz op))) [YL (Zz op x1)] v none 5 (Xu _) (Qf rfl) rfl (by simp<;>omega) (by rw [WB Z3];simp [VF]) fun v3=>Z1 (az (Z0 1 (ZG k (Z1 (ZF ⟨k+1,v3,ob,rfl,rfl,rfl⟩ (wk [0] (fr (ZI k fl))))))))))))
 exact ax 0 (ar (Zr (r2 [0] [YY ((xs.take k).map (Zz op)) v] ⟨v,rfl,rfl⟩ (Zd.slh _ (Yr Zy (by rw [WM om]))))))
theorem Z9n (n:Zp) (s:Z5) (i:Nat) (mm:Nat) (hn:Xe n:=by exact ob) (hf:FS n.decls n.routines.length mm s:=by exact ob) (hi:i<s.args.length:=by exact ob):Zj 295 [Yh n,YL s,.i i] [] (fun r h=>∃(wr:Bool),r=.b wr/\h=[]):=by
 have hal:=hf.alen
 refine ZC 42 Tryz.func295 (ar (iA (Yx n) fun b1=>iA (Xw s) fun b2=>?_))
 refine Z1 (Yd (ab 0 (ZW (fun fz gz m F h=>∃(k:Nat),(k<=s.args.length)/\F=sF [2,3,4] fz [(7,.i k)]/\h=gz/\m=s.args.length-k) _ _ _ ⟨0,ob,rfl,rfl,rfl⟩ (wk [0,0] (Y1 fl)) ?_)))
 rintro m F h ⟨k,Yg,rfl,rfl,rfl⟩
 refine Yf 3 [0] (iw (Yo s.args) (ZZ ((k:Int)<(s.args.length:Int)) (fun Zb=>?_) (fun Zb=>?_)))
 ·refine ak (aq (ab 1 (aD 27 (Zm 23 27 [0,1,2,3] (db (b:=((k:Int) != (i:Int))) 18 (fun Zc=>?_) (fun Zc=>?_))))))
  ·refine ZQ 20 23 [4,5,6] [0] ?_
   obtain ⟨x1,Z3⟩:=Zt s.args k om
   refine dx 7 (Zi none (k:Int) 1 (Y5 Z3)) (ZQ 15 19 [8,9,10,11] [0] ?_)
   obtain ⟨x2,Zo⟩:=Zt s.args i om
   refine dx 12 (Zi none (i:Int) 1 (Y5 Zo)) (Zm 10 14 [13,14,15,16] (db (b:=(x1==x2)) 31 (fun ZA=>?_) (fun ZA=>?_)))
   ·refine Zm 6 10 [17,18,19,20] (db (b:=(decide ((k:Int)>(i:Int)))) 35 (fun Yt=>?_) (fun Yt=>?_))
    ·exact Zm 0 6 [21,22,23,24,25,26] (de (V9 (ar (Zr (r1 [] ⟨true,rfl,rfl⟩)))))
    refine ZQ 3 6 [21,22,23] [1,0] (Z8 24 (Yu 24 [] [] [] (DU n s k (hnum:=hf.call)) (Zm 0 2 [25,26] (de (ac (U1 n s.op s.num k) Iff.rfl (fun Ze=>?_) (fun Ze=>?_))))))
    ·exact ar (Zr (r1 [] ⟨true,rfl,rfl⟩))
    exact ak (az (Z0 1 (ZG k (Z1 (ZF ⟨k+1,ob,rfl,rfl,rfl⟩ (wk [0,0] (ZI k fl)))))))
   exact Zm 0 10 [17,18,19,20,21,22,23,24,25,26] (de (V3 (ak (az (Z0 1 (ZG k (Z1 (ZF ⟨k+1,ob,rfl,rfl,rfl⟩ (wk [0,0] (ZI k fl))))))))))
  exact Zm 0 23 [4,5,6,7,8,9,10,11,12,13,14,15,16,17,18,19,20,21,22,23,24,25,26] (de (V3 (ak (az (Z0 1 (ZG k (Z1 (ZF ⟨k+1,ob,rfl,rfl,rfl⟩ (wk [0,0] (ZI k fl))))))))))
 exact ax 0 (ar (Zr (r1 [] ⟨false,rfl,rfl⟩)))
theorem Pu (n:Zp) (s:Z5) (i:Nat) (mm:Nat) (os:LI) (ls:LI) (hn:Xe n:=by exact ob) (hf:FS n.decls n.routines.length mm s:=by exact ob) (hi:i<s.args.length:=by exact ob) (ho:os.length<=100000000:=by exact ob) (hl:ls.length<=100000000:=by exact ob):Zj 279 [Yh n,YL s,.i i,Z6 os,Z6 ls] [] (fun r h=>∃(wr:Bool),r=.b wr/\h=[]):=by
 refine ZC 34 Tryz.func279 (ar (iA (Yx n) fun b1=>iA (Xw s) fun b2=>Z1 (Zu 4 [0] ?_)))
 obtain ⟨x1,Z3⟩:=Zt s.args i om
 refine Zl (Zi none (i:Int) 1 (Y5 Z3)) (Z0 1 (Zv [] (UY ls x1) (Z0 1 (ib (b:=(decide (x1∈ls))) 18 (fun Zc=>?_) (fun Zc=>?_)))))
 ·exact Zr (r1 [] ⟨true,rfl,rfl⟩)
 refine ZO 4 [0] (Zl (Zi none (i:Int) 1 (Y5 Z3)) (Z0 1 (Zv [] (UY os x1) (Z0 3 (ib (b:=(!(decide (x1∈os)))) 28 (fun ZA=>?_) (fun ZA=>?_))))))
 ·exact Zr (r1 [] ⟨true,rfl,rfl⟩)
 refine ZO 3 [1,0] (ic [] (Z9n n s i mm) ?_)
 rintro _ _ ⟨wr1,rfl,rfl⟩
 exact Zr (r1 [] ⟨wr1,rfl,rfl⟩)
theorem Z93 (n:Zp) (us:LI) (s:Z5) (os:LI) (ls:LI) (mm:Nat) (hn:Xe n:=by exact ob) (hf:FS n.decls n.routines.length mm s:=by exact ob) (hvl:us.length=mm:=by exact ob) (hm:mm<=100000000:=by exact ob) (ho:os.length<=100000000:=by exact ob) (hl:ls.length<=100000000:=by exact ob):Zj 245 [Yh n,Z6 us,YL s,Z6 os,Z6 ls] [] (fun r h=>∃(zs:LI),r=Z6 zs/\h=[]/\zs.length<=s.args.length/\∀z∈zs,z∈s.args):=by
 have hal:=hf.alen
 refine ZC 43 Tryz.func245 (ar (iA (Yx n) fun b1=>iA (Xw s) fun b2=>Z1 (ar (iL (Z7 []) 0 1 fun v1=>?_))))
 refine Z1 (Yd (ab 0 (ZW (fun fz gz m F h=>∃(k:Nat) (zs:LI) (u:Value),(k<=s.args.length)/\(zs.length<=k)/\(∀z∈zs,z∈s.args)/\F=sF [1,3,4,5,7] fz [(11,ZX zs u),(12,.i k)]/\h=[Zk gz 1,Zk gz 2,.tail u 1]/\m=s.args.length-k) _ _ _ ⟨0,[],v1,ob,ob,(fun z hz=>by cases hz),rfl,rfl,rfl⟩ (wk [1,1,0] (fr (Y1 fl))) ?_)))
 rintro m F h ⟨k,zs,u,Yg,Zh,Zw,rfl,rfl,rfl⟩
 refine Yf 3 [0] (iw (Yo s.args) (ZZ ((k:Int)<(s.args.length:Int)) (fun Zb=>?_) (fun Zb=>?_)))
 ·obtain ⟨a1,ha1⟩:=Zt s.args k om
  have har:=hf.args a1 (ZY ha1)
  refine ak (aq (ab 1 (Zu 4 [1,0] (Zv [] (HM n us s k a1 (hnum:=hf.call) (ha:=ha1)) (Z0 1 (ib (b:=Jt n us s.op s.num a1 k) 26 (fun Zc=>?_) (fun Zc=>?_)))))))
  ·refine ZO 5 [1,0] (ic [] (Pu n s k mm os ls) ?_)
   rintro _ _ ⟨wr1,rfl,rfl⟩
   refine YJ wr1 Iff.rfl (fun Ze=>?_) (fun Ze=>?_)
   ·exact az (ZO 4 [0] (Zl (Zi none (k:Int) 1 (Y5 ha1)) (Z0 1 (iL (Z7 [a1]) 1 1 fun v2=>ZT 0 [(40,Z6 [a1])] (ip 3 (Z7 (zs++[a1])) (Z7 zs) (Z7 [a1]) u none 1 (YI _) (YI _) (We _) (by simp<;>omega) (by simp [Wd,Z7]) fun v3=>Z1 (az (Z0 1 (ZG k (Z1 (ZF ⟨k+1,(zs++[a1]),v3,ob,ob,(by first|exact Zw|exact XJ Zw (ZY ha1)),rfl,rfl,rfl⟩ (wk [2,2,0] (fr (ZI k fl)))))))))))))
   exact ak (az (Z0 1 (ZG k (Z1 (ZF ⟨k+1,zs,u,ob,ob,(by first|exact Zw|exact XJ Zw (ZY ha1)),rfl,rfl,rfl⟩ (ZE 3 (fr (ZI k fl))))))))
  exact Z1 (V3 (ak (az (Z0 1 (ZG k (Z1 (ZF ⟨k+1,zs,u,ob,ob,(by first|exact Zw|exact XJ Zw (ZY ha1)),rfl,rfl,rfl⟩ (ZE 3 (fr (ZI k fl))))))))))
 exact ax 0 (ar (Zr (r2 [] [ZX zs u] ⟨zs,rfl,rfl,⟨by omega,Zw⟩⟩ (Zd.forget _ _))))
theorem Z9g (n:Zp) (us:LI) (s:Z5) (os:LI) (ls:LI) (mm:Nat) (hn:Xe n:=by exact ob) (hf:FS n.decls n.routines.length mm s:=by exact ob) (hvl:us.length=mm:=by exact ob) (hm:mm<=100000000:=by exact ob) (ho:os.length<=100000000:=by exact ob) (hl:ls.length<=100000000:=by exact ob):Zj 247 [Yh n,Z6 us,YL s,Z6 os,Z6 ls] [] (fun r h=>∃(zs:LI) (v:Value),r=ZX zs v/\h=[.tail v 1]/\zs.length<=os.length/\∀z∈zs,z∈os):=by
 have hal:=hf.alen
 refine ZC 55 Tryz.func247 (ar (iA (Yx n) fun b1=>iA (Xw s) fun b2=>Z1 (Yf 4 [0] (ib (b:=(s.op==7)) 16 (fun Zc=>?_) (fun Zc=>?_)))))
 ·refine Z1 (V9 (Yb 2 (ic [] (Po os ls) ?_)))
  rintro _ _ ⟨zs1,v1,rfl,rfl,Yp⟩
  have hco:=Yp
  exact Zr (r1 [0] ⟨zs1,v1,rfl,rfl,(by first|exact hco|exact ⟨by omega,Zw⟩)⟩)
 refine U2 [0] (ac (s.op==8) Zq (fun Zb=>?_) (fun Zb=>?_))
 ·refine Yb 2 (ic [] (Po os ls) ?_)
  rintro _ _ ⟨zs2,v2,rfl,rfl,X6⟩
  have hco:=X6
  exact Zr (r1 [0] ⟨zs2,v2,rfl,rfl,(by first|exact hco|exact ⟨by omega,Zw⟩)⟩)
 refine ak (Yb 1 (ic [] (Uh os) ?_))
 rintro _ _ ⟨v3,rfl,rfl⟩
 refine Z1 (Yd (ab 0 (ZW (fun fz gz m F h=>∃(k:Nat) (zs:LI) (u:Value),(k<=s.args.length)/\(zs.length<=os.length)/\(∀z∈zs,z∈os)/\F=sF [1,3,4,5,7] fz [(11,ZX zs u),(12,.i k)]/\h=[Zk gz 1,Zk gz 2,.tail u 1]/\m=s.args.length-k) _ _ _ ⟨0,os,v3,ob,ob,(fun z hz=>hz),rfl,rfl,rfl⟩ (wk [1,1,0] (fr (Y1 fl))) ?_)))
 rintro m F h ⟨k,zs,u,Yg,Zh,Zw,rfl,rfl,rfl⟩
 refine Yf 3 [0] (iw (Yo s.args) (ZZ ((k:Int)<(s.args.length:Int)) (fun Ze=>?_) (fun Ze=>?_)))
 ·obtain ⟨a1,ha1⟩:=Zt s.args k om
  have har:=hf.args a1 (ZY ha1)
  refine ak (aq (ab 1 (Zu 4 [1,0] (Zv [] (HM n us s k a1 (hnum:=hf.call) (ha:=ha1)) (Z0 1 (ib (b:=Jt n us s.op s.num a1 k) 38 (fun ZA=>?_) (fun ZA=>?_)))))))
  ·refine ZO 5 [1,0] (ic [] (Pu n s k mm os ls) ?_)
   rintro _ _ ⟨wr1,rfl,rfl⟩
   refine YJ (!wr1) (p:=¬(wr1=true)) (Yq Iff.rfl) (fun ZB=>?_) (fun ZB=>?_)
   ·refine az (ZO 4 [0] (Zl (Zi none (k:Int) 1 (Y5 ha1)) (ZT 1 [(47,Z6 zs)] (ic [] (PC zs a1) ?_))))
    rintro _ _ ⟨v4,rfl,rfl⟩
    exact Z1 (az (Z0 1 (ZG k (Z1 (ZF ⟨k+1,(Qh zs a1),v4,ob,(by first|exact Zh|exact Ww (Fc _ _) Zh),(by first|exact Zw|exact (fun z hz=>Zw z (DJ hz))),rfl,rfl,rfl⟩ (wk [1,1,0] (fr (ZI k fl))))))))
   exact ak (az (Z0 1 (ZG k (Z1 (ZF ⟨k+1,zs,u,ob,(by first|exact Zh|exact Ww (Fc _ _) Zh),(by first|exact Zw|exact (fun z hz=>Zw z (DJ hz))),rfl,rfl,rfl⟩ (ZE 3 (fr (ZI k fl))))))))
  exact Z1 (V3 (ak (az (Z0 1 (ZG k (Z1 (ZF ⟨k+1,zs,u,ob,(by first|exact Zh|exact Ww (Fc _ _) Zh),(by first|exact Zw|exact (fun z hz=>Zw z (DJ hz))),rfl,rfl,rfl⟩ (ZE 3 (fr (ZI k fl))))))))))
 exact ax 0 (ar (Zr (r1 [2] ⟨zs,u,rfl,rfl,(by first|exact hco|exact ⟨by omega,Zw⟩)⟩)))
theorem Z9h (n:Zp) (s:Z5) (os:LI) (ls:LI) (mm:Nat) (hn:Xe n:=by exact ob) (hf:FS n.decls n.routines.length mm s:=by exact ob) (ho:os.length<=100000000:=by exact ob) (hl:ls.length<=100000000:=by exact ob):Zj 248 [Yh n,YL s,Z6 os,Z6 ls] [] (fun r h=>∃(zs:LI),r=Z6 zs/\h=[]/\zs.length<=s.args.length/\∀z∈zs,z∈s.args):=by
 have hal:=hf.alen
 refine ZC 50 Tryz.func248 (ar (iA (Yx n) fun b1=>iA (Xw s) fun b2=>Z1 (ar (iL (Z7 []) 0 1 fun v1=>?_))))
 refine Z1 (Yd (ab 0 (ZW (fun fz gz m F h=>∃(k:Nat) (zs:LI) (u:Value),(k<=s.args.length)/\(zs.length<=k)/\(∀z∈zs,z∈s.args)/\F=sF [2,3,4,5] fz [(9,ZX zs u),(10,.i k)]/\h=[Zk gz 1,Zk gz 2,.tail u 1]/\m=s.args.length-k) _ _ _ ⟨0,[],v1,ob,ob,(fun z hz=>by cases hz),rfl,rfl,rfl⟩ (wk [1,1,0] (fr (Y1 fl))) ?_)))
 rintro m F h ⟨k,zs,u,Yg,Zh,Zw,rfl,rfl,rfl⟩
 refine Yf 3 [0] (iw (Yo s.args) (ZZ ((k:Int)<(s.args.length:Int)) (fun Zb=>?_) (fun Zb=>?_)))
 ·obtain ⟨a1,ha1⟩:=Zt s.args k om
  have har:=hf.args a1 (ZY ha1)
  refine ak (aq (ab 1 (Zu 3 [1,0] (Zv [] (DU n s k (hnum:=hf.call)) (Xr 13 [2,3,4,5,9,10] [(31,.b (U1 n s.op s.num k&&(decide (a1∈os))))] (fun gz=>gz) ?_ (fun hj1=>?_))))))
  ·refine Xt [2,3,4,5,9,10] [(41,.b ((U1 n s.op s.num k&&(decide (a1∈os)))&&(!(decide (a1∈ls)))))] (fun gz=>gz) ?_ ?_
   ·refine Z0 1 (ib (b:=(U1 n s.op s.num k&&(decide (a1∈os)))) 32 (fun Zc=>?_) (fun Zc=>?_))
    ·exact ZO 4 [0] (Zl (Zi none (k:Int) 1 (Y5 ha1)) (Z0 1 (Zv [] (UY ls a1) (Z1 (ZE 3 (Zs (!(decide (a1∈ls))) Zc fl))))))
    exact Z1 (ZE 3 (Zs false Zc fl))
   refine ac ((U1 n s.op s.num k&&(decide (a1∈os)))&&(!(decide (a1∈ls)))) (p:=((U1 n s.op s.num k=true)/\(a1∈os))/\(¬(a1∈ls))) (YA (YA Iff.rfl dq) (Yq dq)) (fun Ze=>?_) (fun Ze=>?_)
   ·refine az (ZO 4 [0] (Zl (Zi none (k:Int) 1 (Y5 ha1)) (ZT 1 [(42,Z6 zs)] (ic [] (ED zs a1) ?_))))
    rintro _ _ ⟨v2,rfl,rfl⟩
    exact Z1 (az (Z0 1 (ZG k (Z1 (ZF ⟨k+1,(Ur zs a1),v2,ob,(by first|omega|(have:=DA zs a1;omega)),(by first|exact Zw|exact (fun z hz=>(ES.1 hz).elim (Zw z) (fun e=>e▸ZY ha1))),rfl,rfl,rfl⟩ (wk [1,1,0] (fr (ZI k fl))))))))
   exact ak (az (Z0 1 (ZG k (Z1 (ZF ⟨k+1,zs,u,ob,(by first|omega|(have:=DA zs a1;omega)),(by first|exact Zw|exact (fun z hz=>(ES.1 hz).elim (Zw z) (fun e=>e▸ZY ha1))),rfl,rfl,rfl⟩ (ZE 3 (fr (ZI k fl))))))))
  refine Z0 1 (ib (b:=U1 n s.op s.num k) 23 (fun ZA=>?_) (fun ZA=>?_))
  ·exact ZO 4 [0] (Zl (Zi none (k:Int) 1 (Y5 ha1)) (Z0 1 (Zv [] (UY os a1) (Z0 1 (Yn (ZE 3 (Zs (decide (a1∈os)) ZA fl)) hj1)))))
  exact Z0 8 (Yn (ZE 3 (Zs false ZA fl)) hj1)
 exact ax 0 (ar (Zr (r2 [] [ZX zs u] ⟨zs,rfl,rfl,⟨by omega,Zw⟩⟩ (Zd.forget _ _))))
theorem DV (rt:ZH) (b:Z4) (hp:rt.params.length<=4294967296:=by exact ob) (hl:rt.lent.length<=4294967296:=by exact ob):Zj 82 [UN rt,ZK b] [] (Y7 (UN (ZH.mk rt.params rt.lent rt.result b))):=by
 refine ZC 15 Tryz.func82 (ar (iA (U0 rt) fun b1=>iA (X9 b) fun b2=>iA [nl,nl,.i 0,nl,.i 0] fun b3=>ie (aD 11 (ZQ 4 11 [0,1,3,4,6,7,8] [2,2,2,1] (Z8 2 (dc 2 [] [1,2,2] [b2,b1,b1] (Uh rt.params) ?_))))))
 rintro _ _ ⟨v1,rfl,rfl⟩
 refine Z8 5 (dc 5 [] [1,2] [b2,b1] (Uh rt.lent) ?_)
 rintro _ _ ⟨v2,rfl,rfl⟩
 exact Zm 1 2 [9] (Z8 10 (YP 10 2 [] [] b3 [ZX rt.params v1,ZX rt.lent v2,.i rt.result,WW b.steps,.i b.result] (de (ZL (r3 [] [.agg [ZX rt.params v1,ZX rt.lent v2,.i rt.result,WW b.steps,.i b.result]] [0] [(b3,b3)] ⟨rfl,rfl⟩ (Zd.agg (.cons (Zd.sl _ (Yr Z7 ob)) (.cons (Zd.sl _ (Yr Z7 ob)) (.cons li (.cons (Zd.sl _ (Yr Zy ob)) (.cons li .nil)))))))))))
theorem Z8y (n:Zp) (us:LI) (fds:LI) (kd:Z4) (os:LI) (ls:LI) (mm:Nat) (bb:Nat) (hn:Xe n:=by exact ob) (hf:fB n.decls n.routines.length (mm+fds.length) kd:=by exact ob) (hop:Vz WY kd:=by exact ob) (hul:us.length=mm:=by exact ob) (hfl:fds.length<=3:=by exact ob) (hm:mm+3+4*kd.sz<=100000:=by exact ob) (hor:∀v∈os,0<=v/\v<(mm:Int)) (hol:os.length+3+4*kd.sz<=730:=by exact ob) (hal:ls.length+2000*kd.sz<=1000000:=by exact ob) (hbz:kd.sz<=500:=by exact ob) (hb:kd.sz<bb:=by exact ob) (ih:∀(us2:LI) (b2:Z4) (os2:LI) (as2:LI) (m2:Nat),(fB n.decls n.routines.length m2 b2)->(Vz WY b2)->(us2.length=m2)->(m2+4*b2.sz<=100000)->(∀v∈os2,0<=v/\v<(m2:Int))->(os2.length+4*b2.sz<=730)->(as2.length+2000*b2.sz<=1000000)->(b2.sz<=500)->(b2.sz<bb)->Zj 202 [Yh n,Z6 us2,ZK b2,Z6 os2,Z6 as2] [] (fun r h=>∃(y:Z4),r=ZK y/\h=[]/\KB n.decls n.routines.length m2 y (4500*b2.sz))):Zj 280 [Yh n,Z6 us,Z6 fds,ZK kd,Z6 os,Z6 ls] [] (fun r h=>∃(y:Z4),r=ZK y/\h=[]/\KB n.decls n.routines.length (mm+fds.length) y (4500*kd.sz+1470)):=by
 refine ZC 115 Tryz.func280 (ar (iA (Yx n) fun b1=>iA (X9 kd) fun b2=>iA [nl,.i 0] fun b3=>ie (Yb 1 (iw (Yo us) (Z1 (Yb 2 (ic [] (Ku us fds) ?_)))))))
 rintro _ _ ⟨v1,rfl,rfl⟩
 refine Z1 (Zu 2 [2] (io (.i (((us++fds).length:Nat):Int)) (.i (((Z7 (us++fds)).length:Nat):Int)) (li (by rw [Yo])) (Zv [] (Z1s kd (((us++fds).length:Nat):Int)) ?_)))
 have hub:=HR (n:=(((us++fds).length:Nat):Int)) kd []
 simp only [Xx,Vf] at hub
 refine Z1 (ar (iL (Z7 []) 0 1 fun v2=>Z1 (ar (iL (Z7 []) 0 1 fun v3=>?_))))
 refine Z1 (Yd (ab 0 (ZW (fun fz gz m F h=>∃(k:Nat) (ms:LI) (u:Value) (dr:LI) (w:Value),(k<=os.length)/\(ms.length<=k)/\(dr.length<=k)/\(∀v∈ms,0<=v/\v<(mm:Int))/\(∀v∈dr,0<=v/\v<(mm:Int))/\F=sF [2,4,5,6,9,12,13,15] fz [(14,Z6 (us++fds)),(16,ZX ms u),(17,ZX dr w),(18,.i k)]/\h=[Zk gz 3,Zk gz 4,Zk gz 5,.tail u 1,.tail w 1]/\m=os.length-k) _ _ _ ⟨0,[],v2,[],v3,ob,ob,ob,(fun v hv=>by cases hv),(fun v hv=>by cases hv),rfl,rfl,rfl⟩ (wk [3,3,3,1,0] (fc (x:=ZX (us++fds) v1) (Zd.forget _ _) (fw (Y1 fl)))) ?_)))
 rintro m F h ⟨k,ms,u,dr,w,Yg,Zh,Zw,YS,WE,rfl,rfl,rfl⟩
 refine YU 2 (iw (Yo os) (ZZ ((k:Int)<(os.length:Int)) (fun Zb=>?_) (fun Zb=>?_)))
 ·obtain ⟨o1,ho1⟩:=Zt os k om
  have hor1:=hor o1 (ZY ho1)
  refine ak (aq (ab 1 (Yb 3 (Zl (Zi none (k:Int) 1 (Y5 ho1)) (Z0 1 (Zv [] (UY (Te (((us++fds).length:Nat):Int) kd []) o1) (Xt [2,4,5,6,9,12,13,14,15,16,17,18] [(53,.b ((decide (o1∈(Te (((us++fds).length:Nat):Int) kd [])))||(decide (o1∈ls))))] (fun gz=>gz) ?_ ?_)))))))
  ·refine Z0 1 (ib (b:=(decide (o1∈(Te (((us++fds).length:Nat):Int) kd [])))) 46 (fun Zc=>?_) (fun Zc=>?_))
   ·exact Z1 (ZE 5 (Zs true Zc fl))
   exact Z0 3 (Zl (Zi none (k:Int) 1 (Y5 ho1)) (Z0 1 (Zv [] (UY ls o1) (Z1 (ZE 5 (Zs (decide (o1∈ls)) Zc fl))))))
  refine ac ((decide (o1∈(Te (((us++fds).length:Nat):Int) kd [])))||(decide (o1∈ls))) (p:=(o1∈(Te (((us++fds).length:Nat):Int) kd []))∨(o1∈ls)) (Yj dq dq) (fun Ze=>?_) (fun Ze=>?_)
  ·exact az (Z0 3 (Zl (Zi none (k:Int) 1 (Y5 ho1)) (Z0 1 (iL (Z7 [o1]) 1 1 fun v4=>ZT 0 [(59,Z6 [o1])] (ip 4 (Z7 (ms++[o1])) (Z7 ms) (Z7 [o1]) u none 1 (YI _) (YI _) (We _) (by simp<;>omega) (by simp [Wd,Z7]) fun v5=>Z1 (az (Z0 1 (ZG k (Z1 (ZF ⟨k+1,(ms++[o1]),v5,dr,w,ob,ob,ob,(by first|exact YS|exact XJ YS hor1),(by first|exact WE|exact XJ WE hor1),rfl,rfl,rfl⟩ (wk [2,2,2,0,1] (fw (fr (ZI k fl))))))))))))))
  exact az (Z0 3 (Zl (Zi none (k:Int) 1 (Y5 ho1)) (Z0 1 (iL (Z7 [o1]) 1 1 fun v6=>ZT 0 [(66,Z6 [o1])] (ip 5 (Z7 (dr++[o1])) (Z7 dr) (Z7 [o1]) w none 1 (YI _) (YI _) (We _) (by simp<;>omega) (by simp [Wd,Z7]) fun v7=>Z1 (az (Z0 1 (ZG k (Z1 (ZF ⟨k+1,ms,u,(dr++[o1]),v7,ob,ob,ob,(by first|exact YS|exact XJ YS hor1),(by first|exact WE|exact XJ WE hor1),rfl,rfl,rfl⟩ (wk [2,2,2,2,0] (fw (fr (ZI k fl))))))))))))))
 refine ax 0 (ar (iL (Z7 []) 0 1 fun v8=>?_))
 refine Z1 (Yd (ab 2 (ZW (fun fz gz m F h=>∃(k:Nat) (ps:LI) (w2:Value),(k<=fds.length)/\(ps.length<=k)/\(∀v∈ps,(mm:Int)<=v/\v<((mm+fds.length:Nat):Int))/\F=sF [2,5,6,9,12,13,14,15,16,17] fz [(19,ZX ps w2),(20,.i k)]/\h=[Zk gz 1,Zk gz 2,Zk gz 3,Zk gz 4,Zk gz 5,.tail w2 1]/\m=fds.length-k) _ _ _ ⟨0,[],v8,ob,ob,(fun v hv=>by cases hv),rfl,rfl,rfl⟩ (wk [1,1,1,1,1,0] (fr (Y1 fl))) ?_)))
 rintro m F h ⟨k,ps,w2,Vo,Xs,XE,rfl,rfl,rfl⟩
 refine YU 2 (iw (Yo fds) (ZZ ((k:Int)<(fds.length:Int)) (fun ZB=>?_) (fun ZB=>?_)))
 ·refine ak (aq (ab 3 (Yb 2 ?_)))
  obtain ⟨x1,Z3⟩:=Zt fds k om
  refine Zl (Zi none (k:Int) 1 (Y5 Z3)) (Xt [2,5,6,9,12,13,14,15,16,17,19,20] [(86,.b ((x1 != 0)&&(decide (((us.length+k:Nat):Int)∈(Te (((us++fds).length:Nat):Int) kd [])))))] (fun gz=>gz) ?_ ?_)
  ·refine Z0 3 (ib (b:=(x1 != 0)) 80 (fun ZA=>?_) (fun ZA=>?_))
   ·exact Z0 3 (ia (((us.length+k:Nat):Int)) (((us.length:Int))+((k:Int))) (Zv [] (UY (Te (((us++fds).length:Nat):Int) kd []) ((us.length+k:Nat):Int)) (Z1 (ZE 6 (Zs (decide (((us.length+k:Nat):Int)∈(Te (((us++fds).length:Nat):Int) kd []))) ZA fl)))))
   exact Z1 (ZE 6 (Zs false ZA fl))
  refine ac ((x1 != 0)&&(decide (((us.length+k:Nat):Int)∈(Te (((us++fds).length:Nat):Int) kd [])))) (p:=(x1≠0)/\(((us.length+k:Nat):Int)∈(Te (((us++fds).length:Nat):Int) kd []))) (YA Yc dq) (fun Yk=>?_) (fun Yk=>?_)
  ·exact az (Z0 3 (ia (((us.length+k:Nat):Int)) (((us.length:Int))+((k:Int))) (iL (Z7 [((us.length+k:Nat):Int)]) 1 1 fun v9=>ZT 0 [(91,Z6 [((us.length+k:Nat):Int)])] (ip 6 (Z7 (ps++[((us.length+k:Nat):Int)])) (Z7 ps) (Z7 [((us.length+k:Nat):Int)]) w2 none 1 (YI _) (YI _) (We _) (by simp<;>omega) (by simp [Wd,Z7]) fun v10=>Z1 (az (Z0 1 (ZG k (Z1 (ZF ⟨k+1,(ps++[((us.length+k:Nat):Int)]),v10,ob,ob,(by first|exact XE|exact XJ XE om),rfl,rfl,rfl⟩ (wk [2,2,2,2,2,0] (fr (ZI k fl))))))))))))
  exact ak (az (Z0 1 (ZG k (Z1 (ZF ⟨k+1,ps,w2,ob,ob,(by first|exact XE|exact XJ XE om),rfl,rfl,rfl⟩ (ZE 6 (fr (ZI k fl))))))))
 refine ax 2 (ar (ZT 1 [(93,Z6 ps)] (ic [] (KQ 14 ps) ?_)))
 rintro _ _ ⟨v11,rfl,rfl⟩
 refine ZT 1 [(95,Z6 dr)] (ic [] (KQ 15 dr) ?_)
 rintro _ _ ⟨v12,rfl,rfl⟩
 refine ZT 0 [(96,WW (dr.map (Zz 15)))] (ip 1 (Zy ((ps.map (Zz 14))++(dr.map (Zz 15)))) (Zy (ps.map (Zz 14))) (Zy (dr.map (Zz 15))) v11 none 5 (Xu _) (Xu _) (U8 _) (by simp<;>omega) (by simp [WZ,Zy]) fun v13=>?_)
 refine Z1 (aD 12 (ZQ 5 12 [0,1,2,3,4,6,7] [4,3] (J5 (fun fz gz F h=>∃(y1:Z4) (b4:Nat) (zs1:LI),(zs1.length<=ls.length/\∀z∈zs1,z∈ls)/\(KB n.decls n.routines.length (mm+fds.length) y1 (4500*kd.sz))/\F=sF [12,21] fz [(22,.p b4 0)]/\h=[.obj b4 (X9 y1),Zk gz 0,Zk gz 1,Zk gz 2,Zk gz 3,Zk gz 4,Zk gz 6,Zk gz 7]) ?_ ?_)))
 ·refine VE 5 10 ?_ ?_
  ·refine dp 5 5 [1,2] [b2,b1] (Z7 (ms++ps)) (Z7 ms) (Z7 ps) u (some w2) 1 (YI _) (YI _) (We _) (by simp<;>omega) (by simp [Wd,Z7]) fun v14=>VE 8 10 ?_ ?_
   ·refine dc 8 [] [1,2] [b2,b1] (Lj ls (us.length:Int)) ?_
    rintro _ _ ⟨zs1,v15,rfl,rfl,Xq⟩
    have hbl:=Xq
    refine Yz 3 3 [] [(103,Z6 (ms++ps)),(106,Z6 zs1)] (VE 9 10 ?_ ?_)
    ·refine dc 9 [] [] [] (ih (us++fds) kd (ms++ps) zs1 (mm+fds.length) hf hop (by rw [YF,hul]) ob (fun v hv=>by rcases Xv.1 hv with h|h;exact (by have:=YS v h;omega);exact (by have:=XE v h;omega)) (by rw [YF];omega) ob ob ob) ?_
     rintro _ _ ⟨y1,rfl,rfl,W7⟩
     have hkb:=W7
     have hkl:=hkb.len
     exact Z8 10 (dA 10 [] [] [nl,.i 0] fun b4=>Z8 11 (YP 11 0 [] [] b4 (X9 y1) (de (ZV ⟨_,b4,_,(by assumption),(by assumption),rfl,rfl⟩ (wk [0,2,2,2,2,2,2,2] fl)))))
    refine dA 10 [1,2] [b2,b1] [nl,.i 0] fun b5=>Z8 9 (dc 9 [] [] [] (ih (us++fds) kd (ms++ps) zs1 (mm+fds.length) hf hop (by rw [YF,hul]) ob (fun v hv=>by rcases Xv.1 hv with h|h;exact (by have:=YS v h;omega);exact (by have:=XE v h;omega)) (by rw [YF];omega) ob ob ob) ?_)
    rintro _ _ ⟨y2,rfl,rfl,WJ⟩
    have hkb:=WJ
    have hkl:=hkb.len
    exact Z8 11 (YP 11 0 [] [] b5 (X9 y2) (de (ZV ⟨_,b5,_,(by assumption),(by assumption),rfl,rfl⟩ (wk [0,2,2,2,2,2,2,2] fl))))
   refine dA 10 [1,2] [b2,b1] [nl,.i 0] fun b6=>Z8 8 (dc 8 [] [2,3] [b2,b1] (Lj ls (us.length:Int)) ?_)
   rintro _ _ ⟨zs2,v16,rfl,rfl,Vl⟩
   have hbl:=Vl
   refine Yz 2 2 [] [(103,Z6 (ms++ps)),(106,Z6 zs2)] (Z8 9 (dc 9 [] [] [] (ih (us++fds) kd (ms++ps) zs2 (mm+fds.length) hf hop (by rw [YF,hul]) ob (fun v hv=>by rcases Xv.1 hv with h|h;exact (by have:=YS v h;omega);exact (by have:=XE v h;omega)) (by rw [YF];omega) ob ob ob) ?_))
   rintro _ _ ⟨y3,rfl,rfl,VL⟩
   have hkb:=VL
   have hkl:=hkb.len
   exact Z8 11 (YP 11 1 [] [] b6 (X9 y3) (de (ZV ⟨_,b6,_,(by assumption),(by assumption),rfl,rfl⟩ (wk [0,2,2,2,2,2,2,2] fl))))
  refine dA 10 [1,2] [b2,b1] [nl,.i 0] fun b7=>Yz 4 4 [] [(102,Z6 ps)] (Z8 5 (dp 5 6 [2,3] [b2,b1] (Z7 (ms++ps)) (Z7 ms) (Z7 ps) u none 1 (YI _) (YI _) (We _) (by simp<;>omega) (by simp [Wd,Z7]) fun v17=>Z8 8 (dc 8 [] [2,3] [b2,b1] (Lj ls (us.length:Int)) ?_)))
  rintro _ _ ⟨zs3,v18,rfl,rfl,Ta⟩
  have hbl:=Ta
  refine Yz 2 2 [] [(103,Z6 (ms++ps)),(106,Z6 zs3)] (Z8 9 (dc 9 [] [] [] (ih (us++fds) kd (ms++ps) zs3 (mm+fds.length) hf hop (by rw [YF,hul]) ob (fun v hv=>by rcases Xv.1 hv with h|h;exact (by have:=YS v h;omega);exact (by have:=XE v h;omega)) (by rw [YF];omega) ob ob ob) ?_))
  rintro _ _ ⟨y4,rfl,rfl,Tb⟩
  have hkb:=Tb
  have hkl:=hkb.len
  exact Z8 11 (YP 11 2 [] [] b7 (X9 y4) (de (ZV ⟨_,b7,_,(by assumption),(by assumption),rfl,rfl⟩ (wk [0,2,2,2,2,2,2,2] fl))))
 rintro F h ⟨y1,b4,zs1,Xq,W7,rfl,rfl⟩
 have hbl:=Xq
 have hkb:=W7
 have hkl:=hkb.len
 exact aD 8 (ZQ 3 8 [0,1,2,4,5] [0,0] (Z8 3 (dp 3 1 [0] [b4] (Zy (((ps.map (Zz 14))++(dr.map (Zz 15)))++y1.steps)) (Zy ((ps.map (Zz 14))++(dr.map (Zz 15)))) (Zy y1.steps) v13 none 5 (Xu _) (Xu _) (U8 _) (by simp<;>omega) (by simp [WZ,Zy]) fun v19=>Zm 1 2 [6] (Z8 7 (YP 7 3 [] [] b3 [YY (((ps.map (Zz 14))++(dr.map (Zz 15)))++y1.steps) v19,.i y1.result] (de (ZL (r3 [] [.agg [YY (((ps.map (Zz 14))++(dr.map (Zz 15)))++y1.steps) v19,.i y1.result]] [0] [(b3,b3)] ⟨(Z4.mk (((ps.map (Zz 14))++(dr.map (Zz 15)))++y1.steps) y1.result),rfl,rfl,((hkb.put (fun v hv=>by have:=XE v hv;omega) (fun v hv=>by have:=WE v hv;omega)).le om)⟩ (Zd.agg (.cons (Zd.forget _ _) (.cons (lr _) .nil)))))))))))
theorem Z8z (n:Zp) (us:LI) (s:Z5) (os:LI) (ls:LI) (mm:Nat) (bb:Nat) (hn:Xe n:=by exact ob) (hf:FS n.decls n.routines.length mm s:=by exact ob) (h11:s.op<=11:=by exact ob) (hop:Km WY s.kids:=by exact ob) (hul:us.length=mm:=by exact ob) (hm:mm+4*s.sz<=100000:=by exact ob) (hor:∀v∈os,0<=v/\v<(mm:Int)) (hol:os.length+4*s.sz<=730:=by exact ob) (hal:ls.length+2000*s.sz<=1000000:=by exact ob) (hbz:s.sz<=500:=by exact ob) (hb:s.sz<=bb:=by exact ob) (ih:∀(us2:LI) (b2:Z4) (os2:LI) (as2:LI) (m2:Nat),(fB n.decls n.routines.length m2 b2)->(Vz WY b2)->(us2.length=m2)->(m2+4*b2.sz<=100000)->(∀v∈os2,0<=v/\v<(m2:Int))->(os2.length+4*b2.sz<=730)->(as2.length+2000*b2.sz<=1000000)->(b2.sz<=500)->(b2.sz<bb)->Zj 202 [Yh n,Z6 us2,ZK b2,Z6 os2,Z6 as2] [] (fun r h=>∃(y:Z4),r=ZK y/\h=[]/\KB n.decls n.routines.length m2 y (4500*b2.sz))):Zj 246 [Yh n,Z6 us,YL s,Z6 os,Z6 ls] [] (fun r h=>∃(y:Z5),r=YL y/\h=[]/\KT n.decls n.routines.length mm y (4500*Xf s.kids+4420)):=by
 have XM:=hn.decls
 have hkf:=hf.few XM
 have hsa:=hf.alen
 refine ZC 62 Tryz.func246 (ar (iA (Yx n) fun b1=>iA (Xw s) fun b2=>iA [.i 0,.i 0,.i 0,nl,nl] fun b3=>ie (ar (iL (YN []) 0 2 fun v1=>Z1 (Zu 4 [3,2] (ic [] (Ai n.decls s.num) ?_))))))
 rintro _ _ ⟨v2,rfl,rfl⟩
 refine Z1 (Yd (ab 0 (ZW (fun fz gz m F h=>∃(k:Nat) (ks:List Z4) (u:Value),(k<=s.kids.length)/\(ks.length=k)/\(KK n.decls n.routines.length (UX n.decls s.op s.num mm) ks (4500*Xf (s.kids.take k)+1470*k))/\F=sF [1,3,4,5,7,10] fz [(11,Tc ks u),(12,Z6 (Y3 n.decls s.num)),(13,.i k)]/\h=[Zk gz 2,Zk gz 3,Zk gz 4,.tail u 2]/\m=s.kids.length-k) _ _ _ ⟨0,[],v1,ob,ob,(KK.nil.le (TB _)),rfl,rfl,rfl⟩ (wk [2,2,2,1] (fr (fc (x:=ZX (Y3 n.decls s.num) v2) (Zd.forget _ _) (Y1 fl)))) ?_)))
 rintro m F h ⟨k,ks,u,Yg,Zh,Zw,rfl,rfl,rfl⟩
 refine Yf 3 [1] (iw (Vp s.kids) (ZZ ((k:Int)<(s.kids.length:Int)) (fun Zb=>?_) (fun Zb=>?_)))
 ·refine ak (aq (ab 1 (ar (iL (Z7 []) 0 1 fun v3=>?_))))
  refine Z1 (Xc (U2 [2] (W5 (fun fz gz F h=>∃(fds:LI),(UX n.decls s.op s.num mm k=mm+fds.length)/\(fds.length<=3)/\F=sF [1,3,4,5,7,10,11,12,13] fz [(14,Z6 fds)]/\h=[Zk gz 1,Zk gz 2,Zk gz 3,Zk gz 4]) ?_ ?_)))
  ·refine ac (s.op==8) Zq (fun Ze=>?_) (fun Ze=>?_)
   ·refine aE 8 (ZQ 4 8 [0,1,2,3] [3] ?_)
    obtain ⟨x1,Z3⟩:=Zt (Y3 n.decls s.num) k (by have:=hf.k8 (by assumption);omega)
    have hcf:=Um XM x1
    exact dx 4 (Zi none (k:Int) 1 (Y5 Z3)) (Zm 2 3 [5] (Z8 6 (Yu 6 [] [] [] (KP n.decls x1) (Zm 0 1 [7] (de (ZV ⟨Y2 n.decls x1,(MA (by assumption) Z3),ob,rfl,rfl⟩ (wk [1,1,1,1] fl)))))))
   exact ak (ZV ⟨[],(by rw [MB (by assumption)];rfl),ob,rfl,rfl⟩ (wk [1,1,1,1] fl))
  rintro F h ⟨fds,Ua,B0,rfl,rfl⟩
  refine aE 15 (ZQ 8 15 [0,1,2,3,4,5,6] [2,1] ?_)
  obtain ⟨x2,Zo⟩:=Zt s.kids k om
  have hkz:=Ub Zo
  have hfk:=Ew hf.kids Zo
  rw [Vf,Ua] at hfk
  have hok:=DI.1 hop x2 (ZY Zo)
  have hbt:=FQ Zo
  have hba:=FT Zo
  refine dx 7 (Zi none (k:Int) 2 (VS Zo)) (Zm 4 7 [8,9,10] (Z8 11 (dc 11 [] [] [] (Z8y n us fds x2 os ls mm bb (hf:=hfk) (hop:=hok) (hor:=hor) (ih:=ih)) ?_)))
  rintro _ _ ⟨y1,rfl,rfl,Y9⟩
  have hkb:=Y9
  exact Z8 12 (WP 12 [] [] [ZK y1] (YN [y1]) (T7 [y1]).symm 1 2 fun v4=>Yz 2 2 [] [(51,XF [y1])] (Z8 13 (dp 13 4 [] [] (YN (ks++[y1])) (YN ks) (YN [y1]) u none 2 (TW _) (TW _) (Gd _) (by simp<;>omega) (by simp [JX,YN]) fun v5=>Zm 0 1 [14] (de (az (Z0 1 (ZG k (Z1 (ZF ⟨k+1,(ks++[y1]),v5,ob,ob,((Zw.snoc Zh (by rw [Ua];exact hkb)).le om),rfl,rfl,rfl⟩ (wk [2,2,2,0] (fw (ZI k fl))))))))))))
 refine ax 0 (aD 10 (ZQ 3 10 [0,1,2,3,4,5,7] [1,1,1] (Z8 6 (dc 6 [] [1,1] [b2,b2] (Uh s.args) ?_))))
 rintro _ _ ⟨v6,rfl,rfl⟩
 exact Zm 1 2 [8] (Z8 9 (YP 9 1 [] [] b3 [.i s.op,.i s.num,.i 0,ZX s.args v6,Tc ks u] (de (ZL (r3 [] [.agg [.i s.op,.i s.num,.i 0,ZX s.args v6,Tc ks u]] [0] [(b3,b3)] ⟨(Z5.mk s.op s.num 0 s.args ks),rfl,rfl,((KT.of (into:=0) hf h11 om om Zw).le (by have:=Io (xs:=s.kids) (k:=k) om;omega))⟩ (Zd.agg (.cons (lr _) (.cons (lr _) (.cons (lr _) (.cons (Zd.forget _ _) (.cons (Zd.forget _ _) .nil)))))))))))
theorem Z8w (n:Zp) (us:LI) (b:Z4) (os:LI) (ls:LI) (mm:Nat) (hn:Xe n) (hf:fB n.decls n.routines.length mm b) (hop:Vz WY b) (hul:us.length=mm) (hm:mm+4*b.sz<=100000) (hor:∀v∈os,0<=v/\v<(mm:Int)) (hol:os.length+4*b.sz<=730) (hal:ls.length+2000*b.sz<=1000000) (hbz:b.sz<=500) (ih:∀(us2:LI) (b2:Z4) (os2:LI) (as2:LI) (m2:Nat),(fB n.decls n.routines.length m2 b2)->(Vz WY b2)->(us2.length=m2)->(m2+4*b2.sz<=100000)->(∀v∈os2,0<=v/\v<(m2:Int))->(os2.length+4*b2.sz<=730)->(as2.length+2000*b2.sz<=1000000)->(b2.sz<=500)->(b2.sz<b.sz)->Zj 202 [Yh n,Z6 us2,ZK b2,Z6 os2,Z6 as2] [] (fun r h=>∃(y:Z4),r=ZK y/\h=[]/\KB n.decls n.routines.length m2 y (4500*b2.sz))):Zj 202 [Yh n,Z6 us,ZK b,Z6 os,Z6 ls] [] (fun r h=>∃(y:Z4),r=ZK y/\h=[]/\KB n.decls n.routines.length mm y (4500*b.sz)):=by
 have XM:=hn.decls
 have hbe:=b.sz_eq
 have ZM:=V7 b
 obtain ⟨hfs,hr1,hr2⟩:=(Ev b).1 hf
 have hos:=CM.1 ((Ho b).1 hop)
 have hdn:=II hos
 have hdl:=hdn b.steps.length (Xa _)
 rw [VC] at hdl
 refine ZC 149 Tryz.func202 (ar (iA (Yx n) fun b1=>iA (X9 b) fun b2=>iA [nl,.i 0] fun b3=>ie (ar (iL (Zy []) 0 5 fun v1=>Z1 (Yb 1 (ic [] (Uh us) ?_))))))
 rintro _ _ ⟨v2,rfl,rfl⟩
 refine Z1 (Yb 1 (ic [] (Uh os) ?_))
 rintro _ _ ⟨v3,rfl,rfl⟩
 refine Z1 (Yd (ab 0 (ZW (fun fz gz m F h=>∃(k:Nat) (vs:LI) (w:Value) (ms:LI) (u:Value) (xs:List Z5) (v:Value),(k<=b.steps.length)/\(vs.length=mm+k)/\(CL n.decls n.routines.length mm xs k (4500*YG (b.steps.take k)))/\(ms.length<=os.length+k)/\(∀v∈ms,0<=v/\v<((mm+k:Nat):Int))/\F=sF [4,5,7,10] fz [(11,YY xs v),(12,ZX vs w),(13,ZX ms u),(14,.i k)]/\h=[Zk gz 3,Zk gz 4,Zk gz 5,.tail u 1,.tail v 5,.tail w 1]/\m=b.steps.length-k) _ _ _ ⟨0,us,v2,os,v3,[],v1,ob,ob,CL.nil,ob,hor,rfl,rfl,rfl⟩ (wk [3,3,3,0,1,0] (fw (fr (Y1 fl)))) ?_)))
 rintro m F h ⟨k,vs,w,ms,u,xs,v,Yg,Zh,Zw,YS,WE,rfl,rfl,rfl⟩
 refine Yf 3 [1] (iw (V5 b.steps) (ZZ ((k:Int)<(b.steps.length:Int)) (fun Zb=>?_) (fun Zb=>?_)))
 ·refine ak (aq (ab 1 (Zu 3 [1] ?_)))
  obtain ⟨x1,Z3⟩:=Zt b.steps k om
  have Xn:=CP Z3
  have hfS:=(Gk x1).1 (Ex hfs Z3)
  rw [hdn k om] at hfS
  have hoS:=(Fa x1).1 (hos x1 (ZY Z3))
  have htk:=MQ Z3
  have hse:=(x1).sz_eq
  have hal4:=hfS.alen
  have hxl:=Zw.len
  have htl:=KU b.steps (k+1)
  have hsd:=Z1x b.steps (k+1)
  have hul2:=N5 (n:=((vs.length+1:Nat):Int)) (b.steps.drop (k+1)) []
  have hul3:=HS (n:=((vs.length+1:Nat):Int)) (Tf ((vs.length+1:Nat):Int) (b.steps.drop (k+1)) []) b.result
  simp only [Xx,Vf] at hul2
  refine Zl (Zi none (k:Int) 5 (W6 Z3)) (Z0 1 (iA [.i 0,.i 0,.i 0,nl,nl] fun b4=>Zx 0 b4 (Xw x1) (ie (Yb 1 (iw (Yo vs) (Z1 (ar (Qk 3 [(41,Z6 vs)] [3,0] (Zv [] (MN n vs x1 ob ob) (Z1 (Zu 2 [2] (ia (((vs.length+1:Nat):Int)) (((vs.length:Int))+(1)) (Z0 1 (ZG k (iL (Z7 []) 0 1 fun v4=>ZT 0 [(49,Z6 [])] (Zv [] (Z1f b ((vs.length+1:Nat):Int) (k+1) [] (hk:=om) (hz:=(by simp only [Xx];omega))) (Z0 1 (ic [] (Za8 (UZ ((vs.length+1:Nat):Int) (Tf ((vs.length+1:Nat):Int) (b.steps.drop (k+1)) []) b.result) ls) ?_))))))))))))))))))
  rintro _ _ ⟨zs1,rfl,rfl,Y9⟩
  have hun:=Y9
  refine Z1 (ar (Qk 6 [(55,Z6 vs),(57,Z6 ms)] [4,1] (ic [] (Z93 n vs x1 ms zs1 (mm+k) (hf:=hfS)) ?_)))
  rintro _ _ ⟨zs2,rfl,rfl,Yp⟩
  have hdu:=Yp
  have hq1:=Zw.cnts (op:=14) (.inl rfl) (vs:=zs2) (fun v hv=>hfS.args v (hdu.2 v hv))
  have hl1:=hq1.len
  refine ic [] (KQ 14 zs2) ?_
  rintro _ _ ⟨v5,rfl,rfl⟩
  refine ZT 0 [(60,WW (zs2.map (Zz 14)))] (ip 7 (Zy (xs++(zs2.map (Zz 14)))) (Zy xs) (Zy (zs2.map (Zz 14))) v none 5 (Xu _) (Xu _) (U8 _) (by simp<;>omega) (by simp [WZ,Zy]) fun v6=>Z1 (ar (Qk 6 [(64,Z6 vs),(66,Z6 ms)] [6,3] (ic [] (Z8z n vs x1 ms zs1 (mm+k) b.sz (hf:=hfS) (h11:=hoS.1) (hop:=hoS.2) (hor:=WE) (ih:=ih)) ?_))))
  rintro _ _ ⟨y1,rfl,rfl,YV⟩
  have hkt:=YV
  have hq2:=hq1.kt hkt
  have hl2:=hq2.len
  refine UV [YL y1] (Zy [y1]) (VF [y1]).symm 1 5 fun v7=>ZT 0 [(69,WW [y1])] (ip 1 (Zy ((xs++(zs2.map (Zz 14)))++[y1])) (Zy (xs++(zs2.map (Zz 14)))) (Zy [y1]) v6 none 5 (Xu _) (Xu _) (U8 _) (by simp<;>omega) (by simp [WZ,Zy]) fun v8=>Z1 (ar (Qk 5 [(72,Z6 vs),(74,Z6 ms)] [7,4] (ic [] (Z9g n vs x1 ms zs1 (mm+k) (hf:=hfS)) ?_))))
  rintro _ _ ⟨zs3,v9,rfl,rfl,X6⟩
  have hla:=X6
  refine Z1 (ar (Qk 4 [(79,Z6 zs3)] [8,5] (ic [] (Z9h n x1 zs3 zs1 (mm+k) (hf:=hfS)) ?_)))
  rintro _ _ ⟨zs4,rfl,rfl,Xq⟩
  have hld:=Xq
  have hq3:=hq2.cnts (op:=15) (.inr rfl) (vs:=zs4) (fun v hv=>by have:=hfS.args v (hld.2 v hv);omega)
  have hl3:=hq3.len
  refine Z1 (Yb 2 (ic [] (KQ 15 zs4) ?_))
  rintro _ _ ⟨v10,rfl,rfl⟩
  refine ZT 0 [(84,WW (zs4.map (Zz 15)))] (ip 2 (Zy (((xs++(zs2.map (Zz 14)))++[y1])++(zs4.map (Zz 15)))) (Zy ((xs++(zs2.map (Zz 14)))++[y1])) (Zy (zs4.map (Zz 15))) v8 none 5 (Xu _) (Xu _) (U8 _) (by simp<;>omega) (by simp [WZ,Zy]) fun v11=>?_)
  refine Z1 (Yd (ab 2 (ZW (fun fz gz m F h=>∃(j:Nat) (m3:LI) (u3:Value) (v3:Value) (w3:Value),(j<=zs4.length)/\(m3.length<=os.length+k)/\(∀v∈m3,0<=v/\v<((mm+k:Nat):Int))/\F=sF [4,5,7,10,14,16,17,18,19] fz [(11,YY (((xs++(zs2.map (Zz 14)))++[y1])++(zs4.map (Zz 15))) v3),(12,ZX vs w3),(13,ZX m3 u3),(20,.i j)]/\h=[Zk gz 7,Zk gz 8,Zk gz 9,.tail u3 1,.tail v3 5,.tail w3 1]/\m=zs4.length-j) _ _ _ ⟨0,zs3,v9,v11,w,ob,ob,(fun v hv=>WE v (hla.2 v hv)),rfl,rfl,rfl⟩ (wk [7,7,7,2,0,6] (fw (fr (Y1 fl)))) ?_)))
  rintro m F h ⟨j,m3,u3,v3,w3,Vo,Xs,XE,rfl,rfl,rfl⟩
  refine YU 2 (iw (Yo zs4) (ZZ ((j:Int)<(zs4.length:Int)) (fun Ze=>?_) (fun Ze=>?_)))
  ·refine ak (aq (ab 3 (az (Z0 3 ?_))))
   obtain ⟨x2,Zo⟩:=Zt zs4 j om
   refine Zl (Zi none (j:Int) 1 (Y5 Zo)) (ZT 1 [(92,Z6 m3)] (ic [] (PC m3 x2) ?_))
   rintro _ _ ⟨v12,rfl,rfl⟩
   exact Z1 (az (Z0 1 (ZG j (Z1 (ZF ⟨j+1,(Qh m3 x2),v12,v3,w3,ob,(Ww (Fc _ _) Xs),(fun v hv=>XE v (DJ hv)),rfl,rfl,rfl⟩ (wk [1,1,1,0,1,1] (fw (fr (ZI j fl)))))))))
  refine ax 2 (Yb 2 (iL (Z7 [Ym n vs x1]) 1 1 fun v13=>ZT 0 [(100,Z6 [Ym n vs x1])] (ip 6 (Z7 (vs++[Ym n vs x1])) (Z7 vs) (Z7 [Ym n vs x1]) w3 none 1 (YI _) (YI _) (We _) (by simp<;>omega) (by simp [Wd,Z7]) fun v14=>Z1 (ar (Xt [4,5,7,10,11,12,13,14,16,17] [(108,.b (((Ym n vs x1) != 0)&&(decide ((vs.length:Int)∈zs1))))] (fun gz=>gz) ?_ ?_)))))
  ·refine Z0 3 (ib (b:=((Ym n vs x1) != 0)) 104 (fun Zc=>?_) (fun Zc=>?_))
   ·exact Z0 2 (Zv [] (UY zs1 (vs.length:Int)) (Z1 (ZE 7 (Zs (decide ((vs.length:Int)∈zs1)) Zc fl))))
   exact Z1 (ZE 7 (Zs false Zc fl))
  refine ac (((Ym n vs x1) != 0)&&(decide ((vs.length:Int)∈zs1))) (p:=((Ym n vs x1)≠0)/\((vs.length:Int)∈zs1)) (YA Yc dq) (fun ZB=>?_) (fun ZB=>?_)
  ·exact az (Z0 2 (iL (Z7 [(vs.length:Int)]) 1 1 fun v15=>ZT 0 [(111,Z6 [(vs.length:Int)])] (ip 6 (Z7 (m3++[(vs.length:Int)])) (Z7 m3) (Z7 [(vs.length:Int)]) u3 none 1 (YI _) (YI _) (We _) (by simp<;>omega) (by simp [Wd,Z7]) fun v16=>Z1 (az (Z0 1 (ZG k (Z1 (ZF ⟨k+1,(vs++[Ym n vs x1]),v14,(m3++[(vs.length:Int)]),v16,(((xs++(zs2.map (Zz 14)))++[y1])++(zs4.map (Zz 15))),v3,ob,ob,(by first|exact hq3.le om|exact (hq3.cnt (op:=15) (.inr rfl) om).le om),ob,(by first|exact XJ (fun v hv=>by have:=XE v hv;omega) om|exact (fun v hv=>by have:=XE v hv;omega)),rfl,rfl,rfl⟩ (wk [4,4,4,0,3,1] (fw (fr (ZI k fl))))))))))))
  refine ar (YJ ((Ym n vs x1) != 0) Yc (fun Yk=>?_) (fun Yk=>?_))
  ·exact az (Z0 2 (Zv [] (Aj 15 (vs.length:Int)) (UV [YL (Zz 15 (vs.length:Int))] (Zy [(Zz 15 (vs.length:Int))]) (VF [(Zz 15 (vs.length:Int))]).symm 1 5 fun v17=>ZT 0 [(118,WW [(Zz 15 (vs.length:Int))])] (ip 7 (Zy ((((xs++(zs2.map (Zz 14)))++[y1])++(zs4.map (Zz 15)))++[(Zz 15 (vs.length:Int))])) (Zy (((xs++(zs2.map (Zz 14)))++[y1])++(zs4.map (Zz 15)))) (Zy [(Zz 15 (vs.length:Int))]) v3 none 5 (Xu _) (Xu _) (U8 _) (by simp<;>omega) (by simp [WZ,Zy]) fun v18=>Z1 (az (Z0 1 (ZG k (Z1 (ZF ⟨k+1,(vs++[Ym n vs x1]),v14,m3,u3,((((xs++(zs2.map (Zz 14)))++[y1])++(zs4.map (Zz 15)))++[(Zz 15 (vs.length:Int))]),v18,ob,ob,(by first|exact hq3.le om|exact (hq3.cnt (op:=15) (.inr rfl) om).le om),ob,(by first|exact XJ (fun v hv=>by have:=XE v hv;omega) om|exact (fun v hv=>by have:=XE v hv;omega)),rfl,rfl,rfl⟩ (wk [4,4,4,4,0,1] (fw (fr (ZI k fl)))))))))))))
  exact ak (az (Z0 1 (ZG k (Z1 (ZF ⟨k+1,(vs++[Ym n vs x1]),v14,m3,u3,(((xs++(zs2.map (Zz 14)))++[y1])++(zs4.map (Zz 15))),v3,ob,ob,(by first|exact hq3.le om|exact (hq3.cnt (op:=15) (.inr rfl) om).le om),ob,(by first|exact XJ (fun v hv=>by have:=XE v hv;omega) om|exact (fun v hv=>by have:=XE v hv;omega)),rfl,rfl,rfl⟩ (wk [2,2,2,2,2,0] (fw (fr (ZI k fl)))))))))
 have hxl:=Zw.len
 have htl:=KU b.steps k
 refine ax 0 (Yf 3 [1] ?_)
 obtain ⟨x3,YK⟩:=Zt vs b.result.toNat om
 refine Zl (Zi (some w) b.result 1 (Y5 YK)) (Xt [7,10,11] [(138,.b ((x3 != 0)&&((decide (b.result∈ls))||(!(decide (b.result∈ms))))))] (fun gz=>gz) ?_ ?_)
 ·refine Z0 3 (ib (b:=(x3 != 0)) 126 (fun ZA=>?_) (fun ZA=>?_))
  ·refine ZO 3 [1] (Zv [] (UY ls b.result) (Z0 1 (ib (b:=(decide (b.result∈ls))) 131 (fun Yt=>?_) (fun Yt=>?_))))
   ·exact Z1 (ZE 6 (Zs true (And.intro ZA Yt) fl))
   exact Qk 3 [(132,Z6 ms)] [1] (Zv [] (UY ms b.result) (Z1 (ZE 6 (Zs (!(decide (b.result∈ms))) (And.intro ZA Yt) fl))))
  exact Z1 (ZE 6 (Zs false ZA fl))
 refine ac ((x3 != 0)&&((decide (b.result∈ls))||(!(decide (b.result∈ms))))) (p:=(x3≠0)/\((b.result∈ls)∨(¬(b.result∈ms)))) (YA Yc (Yj dq (Yq dq))) (fun Xo=>?_) (fun Xo=>?_)
 ·exact az (ZO 3 [1] (Zv [] (Aj 14 b.result) (UV [YL (Zz 14 b.result)] (Zy [Zz 14 b.result]) (VF [Zz 14 b.result]).symm 1 5 fun v19=>ZT 0 [(143,WW [Zz 14 b.result])] (ip 5 (Zy (xs++[Zz 14 b.result])) (Zy xs) (Zy [Zz 14 b.result]) v none 5 (Xu _) (Xu _) (U8 _) (by simp<;>omega) (by simp [WZ,Zy]) fun v20=>Z1 (Zu 4 [3] (Zx 2 b3 [YY (xs++[Zz 14 b.result]) v20,.i b.result] (ie (ZL (r3 [] [.agg [YY (xs++[Zz 14 b.result]) v20,.i b.result]] [0] [(b3,b3)] ⟨(Z4.mk (xs++[Zz 14 b.result]) b.result),rfl,rfl,(((Zw.cnt (op:=14) (.inl rfl) om).block om).le (by have:=KU b.steps k;omega))⟩ (Zd.agg (.cons (Zd.forget _ _) (.cons (lr _) .nil))))))))))))
 exact ak (Zu 4 [1] (Zx 0 b3 [YY xs v,.i b.result] (ie (ZL (r3 [] [.agg [YY xs v,.i b.result]] [0] [(b3,b3)] ⟨(Z4.mk xs b.result),rfl,rfl,((Zw.block om).le (by have:=KU b.steps k;omega))⟩ (Zd.agg (.cons (Zd.forget _ _) (.cons (lr _) .nil))))))))
theorem Z8v (n:Zp) (us:LI) (b:Z4) (os:LI) (ls:LI) (mm:Nat) (hn:Xe n:=by exact ob) (hf:fB n.decls n.routines.length mm b:=by exact ob) (hop:Vz WY b:=by exact ob) (hul:us.length=mm:=by exact ob) (hm:mm+4*b.sz<=100000:=by exact ob) (hor:∀v∈os,0<=v/\v<(mm:Int)) (hol:os.length+4*b.sz<=730:=by exact ob) (hal:ls.length+2000*b.sz<=1000000:=by exact ob) (hbz:b.sz<=500:=by exact ob):Zj 202 [Yh n,Z6 us,ZK b,Z6 os,Z6 ls] [] (fun r h=>∃(y:Z4),r=ZK y/\h=[]/\KB n.decls n.routines.length mm y (4500*b.sz)):=by
 have key:∀k:Nat,∀(us2:LI) (b2:Z4) (os2:LI) (as2:LI) (m2:Nat),(fB n.decls n.routines.length m2 b2)->(Vz WY b2)->(us2.length=m2)->(m2+4*b2.sz<=100000)->(∀v∈os2,0<=v/\v<(m2:Int))->(os2.length+4*b2.sz<=730)->(as2.length+2000*b2.sz<=1000000)->(b2.sz<=500)->(b2.sz<k)->Zj 202 [Yh n,Z6 us2,ZK b2,Z6 os2,Z6 as2] [] (fun r h=>∃(y:Z4),r=ZK y/\h=[]/\KB n.decls n.routines.length m2 y (4500*b2.sz)):=by
  intro k
  induction k with
  | zero=>intro us2 b2 os2 as2 m2 h1 h2 h3 h4 h5 h6 h7 h8 h9;omega
  | succ k ih=>intro us2 b2 os2 as2 m2 h1 h2 h3 h4 h5 h6 h7 h8 h9;exact Z8w n us2 b2 os2 as2 m2 hn h1 h2 h3 h4 h5 h6 h7 h8 fun us3 b3 os3 as3 m3 q1 q2 q3 q4 q5 q6 q7 q8 q9=>ih us3 b3 os3 as3 m3 q1 q2 q3 q4 q5 q6 q7 q8 om
 exact key (b.sz+1) us b os ls mm hf hop hul hm hor hol hal hbz om
theorem Z8x (n:Zp) (rt:ZH) (qz:Nat) (hn:Xe n:=by exact ob) (hr:RF n.decls n.routines.length qz WY rt:=by exact ob) (hqz:qz<=181:=by exact ob):Zj 146 [Yh n,UN rt] [] (fun r h=>∃(y:Z4),r=ZK y/\h=[]/\KB n.decls n.routines.length rt.params.length y (4500*qz+10)):=by
 have hrp:rt.params.length<=3:=(TD.bd (f:=⟨rt.params,rt.result,default⟩) hr.sig).1
 have hrl:=hr.lent.1
 have hrz:=hr.body.2
 refine ZC 65 Tryz.func146 (ar (iA (Yx n) fun b1=>iA (U0 rt) fun b2=>iA [nl,.i 0] fun b3=>ie (Zu 4 [1,1] (iw (Yo rt.params) (Zv [] (Z1s rt.body (rt.params.length:Int)) ?_)))))
 have hub:=HR (n:=(rt.params.length:Int)) rt.body []
 simp only [Xx,Vf] at hub
 refine Z1 (ar (iL (Z7 []) 0 1 fun v1=>Z1 (ar (iL (Z7 []) 0 1 fun v2=>?_))))
 refine Z1 (Yd (ab 0 (ZW (fun fz gz m F h=>∃(k:Nat) (os:LI) (u:Value) (dr:LI) (w:Value),(k<=rt.params.length)/\(os.length<=k)/\(dr.length<=k)/\(∀v∈os,0<=v/\v<(rt.params.length:Int))/\(∀v∈dr,0<=v/\v<(rt.params.length:Int))/\F=sF [2,3,4,5] fz [(6,ZX os u),(7,ZX dr w),(8,.i k)]/\h=[Zk gz 2,Zk gz 3,Zk gz 4,.tail u 1,.tail w 1]/\m=rt.params.length-k) _ _ _ ⟨0,[],v1,[],v2,ob,ob,ob,(fun v hv=>by cases hv),(fun v hv=>by cases hv),rfl,rfl,rfl⟩ (wk [2,2,2,1,0] (fw (Y1 fl))) ?_)))
 rintro m F h ⟨k,os,u,dr,w,Yg,Zh,Zw,YS,WE,rfl,rfl,rfl⟩
 refine Yf 3 [1] (iw (Yo rt.params) (ZZ ((k:Int)<(rt.params.length:Int)) (fun Zb=>?_) (fun Zb=>?_)))
 ·refine ak (aq (ab 1 (Zu 3 [1] ?_)))
  obtain ⟨x1,Z3⟩:=Zt rt.params k om
  refine Zl (Zi none (k:Int) 1 (Y5 Z3)) (Xt [2,3,4,5,6,7,8] [(37,.b ((x1 != 0)&&(!(decide ((k:Int)∈rt.lent)))))] (fun gz=>gz) ?_ ?_)
  ·refine Z0 3 (ib (b:=(x1 != 0)) 31 (fun Zc=>?_) (fun Zc=>?_))
   ·exact ZO 3 [1] (Zv [] (UY rt.lent (k:Int)) (Z1 (ZE 5 (Zs (!(decide ((k:Int)∈rt.lent))) Zc fl))))
   exact Z1 (ZE 5 (Zs false Zc fl))
  refine ac ((x1 != 0)&&(!(decide ((k:Int)∈rt.lent)))) (p:=(x1≠0)/\(¬((k:Int)∈rt.lent))) (YA Yc (Yq dq)) (fun Ze=>?_) (fun Ze=>?_)
  ·refine Yb 2 (Zv [] (UY (Te (rt.params.length:Int) rt.body []) (k:Int)) (ie (XT ((k:Int)∈(Te (rt.params.length:Int) rt.body [])) (fun ZB=>?_) (fun ZB=>?_))))
   ·exact az (Z0 2 (iL (Z7 [(k:Int)]) 1 1 fun v3=>ZT 0 [(43,Z6 [(k:Int)])] (ip 4 (Z7 (os++[(k:Int)])) (Z7 os) (Z7 [(k:Int)]) u none 1 (YI _) (YI _) (We _) (by simp<;>omega) (by simp [Wd,Z7]) fun v4=>Z1 (az (Z0 1 (ZG k (Z1 (ZF ⟨k+1,(os++[(k:Int)]),v4,dr,w,ob,ob,ob,(by first|exact YS|exact XJ YS om),(by first|exact WE|exact XJ WE om),rfl,rfl,rfl⟩ (wk [2,2,2,0,1] (fw (ZI k fl)))))))))))
   exact az (Z0 2 (iL (Z7 [(k:Int)]) 1 1 fun v5=>ZT 0 [(47,Z6 [(k:Int)])] (ip 5 (Z7 (dr++[(k:Int)])) (Z7 dr) (Z7 [(k:Int)]) w none 1 (YI _) (YI _) (We _) (by simp<;>omega) (by simp [Wd,Z7]) fun v6=>Z1 (az (Z0 1 (ZG k (Z1 (ZF ⟨k+1,os,u,(dr++[(k:Int)]),v6,ob,ob,ob,(by first|exact YS|exact XJ YS om),(by first|exact WE|exact XJ WE om),rfl,rfl,rfl⟩ (wk [2,2,2,2,0] (fw (ZI k fl)))))))))))
  exact ak (az (Z0 1 (ZG k (Z1 (ZF ⟨k+1,os,u,dr,w,ob,ob,ob,(by first|exact YS|exact XJ YS om),(by first|exact WE|exact XJ WE om),rfl,rfl,rfl⟩ (ZE 5 (fw (ZI k fl))))))))
 refine ax 0 (Zu 6 [2,1,1] (iL (Z7 []) 0 1 fun v7=>ZT 0 [(54,Z6 os),(55,Z6 [])] (ic [] (Z8v n rt.params rt.body os [] rt.params.length (hf:=hr.body.1) (hop:=hr.op) (hor:=YS) (hal:=(by simp only [Xx];omega))) ?_)))
 rintro _ _ ⟨y1,rfl,rfl,YV⟩
 have hkb:=YV
 have hkl:=hkb.len
 refine iA [nl,.i 0] fun b4=>Zx 0 b4 (X9 y1) (ie (aD 9 (Dd 4 9 [0,2,3,5,6] [(57,Z6 dr)] [0,0] (Z8 1 (dc 1 [] [0,0] [b4,b4] (KQ 15 dr) ?_)))))
 rintro _ _ ⟨v8,rfl,rfl⟩
 exact Z8 4 (dp 4 0 [0] [b4] (Zy ((dr.map (Zz 15))++y1.steps)) (Zy (dr.map (Zz 15))) (Zy y1.steps) v8 none 5 (Xu _) (Xu _) (U8 _) (by simp<;>omega) (by simp [WZ,Zy]) fun v9=>Zm 1 2 [7] (Z8 8 (YP 8 3 [] [] b3 [YY ((dr.map (Zz 15))++y1.steps) v9,.i y1.result] (de (ZL (r3 [] [.agg [YY ((dr.map (Zz 15))++y1.steps) v9,.i y1.result]] [0] [(b3,b3)] ⟨(Z4.mk ((dr.map (Zz 15))++y1.steps) y1.result),rfl,rfl,((hkb.put1 (op:=15) (.inr rfl) WE).le om)⟩ (Zd.agg (.cons (Zd.forget _ _) (.cons (lr _) .nil)))))))))
theorem Z90 (n:Zp) (qz:Nat) (hn:FO n qz WY:=by exact ob) (hqz:qz<=181:=by exact ob):Zj 85 [Yh n] [] (fun r h=>∃(n2:Zp),r=Yh n2/\h=[]/\FO n2 (4500*qz+10) VJ):=by
 have hnl:=hn.fn.len
 have XM:=hn.fn.decls.ok
 have hok:=hn.fn.ok
 refine ZC 36 Tryz.func85 (ar (iA (Yx n) fun b1=>iA [nl,nl] fun b2=>ie (Zu 2 [1] (Zv [] (BS n.decls) (iL (Yv []) 0 5 fun v1=>Z0 1 (iA [nl,nl] fun b3=>?_))))))
 refine Zx 0 b3 [Ye n.decls,Wu [] v1] (ie (Yd (ab 0 (ZW (fun fz gz m F h=>∃(k:Nat) (rs:List ZH) (u:Value),(k<=n.routines.length)/\(rs.length=k)/\(∀r∈rs,RF n.decls n.routines.length (4500*qz+10) VJ r)/\F=sF [1,2,3] fz [(4,.i k)]/\h=[.obj b3 [Ye n.decls,Wu rs u],Zk gz 2,Zk gz 3,.tail u 5]/\m=n.routines.length-k) _ _ _ ⟨0,[],v1,ob,ob,(fun r hr=>by cases hr),rfl,rfl,rfl⟩ (wk [0,1,1,0] (Y1 fl)) ?_))))
 rintro m F h ⟨k,rs,u,Yg,Zh,Zw,rfl,rfl,rfl⟩
 refine Yf 3 [2] (iw (V4 n.routines) (ZZ ((k:Int)<(n.routines.length:Int)) (fun Zb=>?_) (fun Zb=>?_)))
 ·refine ak (aq (ab 1 (aE 19 (ZQ 14 19 [0,1,2,3,4] [0,2] ?_))))
  obtain ⟨x1,Z3⟩:=Zt n.routines k om
  have hrf:=hn.rf (ZY Z3)
  have hrp:(x1).params.length<=3:=(TD.bd (f:=⟨(x1).params,(x1).result,default⟩) hrf.sig).1
  have hrl:=hrf.lent.1
  have hrz:=hrf.body.2
  refine dx 5 (Zi none (k:Int) 5 (Wf Z3)) (ZQ 8 13 [6,7,8,9,10] [2,2] (dx 11 (Zi none (k:Int) 5 (Wf Z3)) (Zm 6 7 [12] (Z8 13 (dc 13 [] [2,0] [b1,b3] (Z8x n x1 qz (hr:=hrf)) ?_)))))
  rintro _ _ ⟨y1,rfl,rfl,Y9⟩
  have hkb:=Y9
  exact Z8 14 (Yu 14 [] [0] [b3] (DV x1 y1 (hp:=om) (hl:=om)) (Z8 15 (dL 15 [0] [b3] (Yv [ZH.mk x1.params x1.lent x1.result y1]) 1 5 fun v2=>Yz 3 3 [] [(32,Q3 [ZH.mk x1.params x1.lent x1.result y1])] (Z8 16 (dp 16 4 [] [] (Yv (rs++[ZH.mk x1.params x1.lent x1.result y1])) (Yv rs) (Yv [ZH.mk x1.params x1.lent x1.result y1]) u none 5 (U7 _) (U7 _) (Jw _) (by simp<;>omega) (by simp [A1,Yv]) fun v3=>Zm 1 2 [17] (Z8 18 (YP 18 2 [] [] b3 [Ye n.decls,Wu (rs++[ZH.mk x1.params x1.lent x1.result y1]) v3] (de (az (Z0 1 (ZG k (Z1 (ZF ⟨k+1,(rs++[ZH.mk x1.params x1.lent x1.result y1]),v3,ob,ob,(XJ Zw (by first|exact hrf.with hkb.fb hkb.sz hkb.op|(rw [Z4.eta];exact hrf.with hkb.fb hkb.sz hkb.op))),rfl,rfl,rfl⟩ (wk [0,2,2,0] (ZI k fl)))))))))))))))
 exact ax 0 (Zu 1 [0] (Zx 1 b2 [Ye n.decls,Wu rs u] (ie (ZL (r3 [] [.agg [Ye n.decls,Wu rs u]] [0] [(b2,b2)] ⟨(Zp.mk n.decls rs),rfl,rfl,(FO.fin hn.fn om Zw).1⟩ (Zd.agg (.cons (lr _) (.cons (Zd.forget _ _) .nil))))))))
theorem Z8s (n:Zp) (us:LI) (s:Z5) (mm:Nat) (hn:Xe n:=by exact ob) (hf:FS n.decls n.routines.length mm s:=by exact ob) (hvl:us.length=mm:=by exact ob) (hm:mm<=100000000:=by exact ob):Zj 204 [Yh n,Z6 us,YL s] [] (fun r h=>∃(zs:LI),r=Z6 zs/\h=[]/\zs.length<=s.args.length/\∀z∈zs,z∈s.args):=by
 have hal:=hf.alen
 refine ZC 31 Tryz.func204 (ar (iA (Yx n) fun b1=>iA (Xw s) fun b2=>Z1 (ar (iL (Z7 []) 0 1 fun v1=>?_))))
 refine Z1 (Yd (ab 0 (ZW (fun fz gz m F h=>∃(k:Nat) (zs:LI) (u:Value),(k<=s.args.length)/\(zs.length<=k)/\(∀z∈zs,z∈s.args)/\F=sF [1,3,5] fz [(7,ZX zs u),(8,.i k)]/\h=[Zk gz 1,Zk gz 2,.tail u 1]/\m=s.args.length-k) _ _ _ ⟨0,[],v1,ob,ob,(fun z hz=>by cases hz),rfl,rfl,rfl⟩ (wk [1,1,0] (fr (Y1 fl))) ?_)))
 rintro m F h ⟨k,zs,u,Yg,Zh,Zw,rfl,rfl,rfl⟩
 refine Yf 3 [0] (iw (Yo s.args) (ZZ ((k:Int)<(s.args.length:Int)) (fun Zb=>?_) (fun Zb=>?_)))
 ·obtain ⟨a1,ha1⟩:=Zt s.args k om
  have har:=hf.args a1 (ZY ha1)
  refine ak (aq (ab 1 (Zu 4 [1,0] (Zv [] (HM n us s k a1 (hnum:=hf.call) (ha:=ha1)) (ie (ac (Jt n us s.op s.num a1 k) Iff.rfl (fun Ze=>?_) (fun Ze=>?_)))))))
  ·exact az (ZO 4 [0] (Zl (Zi none (k:Int) 1 (Y5 ha1)) (Z0 1 (iL (Z7 [a1]) 1 1 fun v2=>ZT 0 [(28,Z6 [a1])] (ip 3 (Z7 (zs++[a1])) (Z7 zs) (Z7 [a1]) u none 1 (YI _) (YI _) (We _) (by simp<;>omega) (by simp [Wd,Z7]) fun v3=>Z1 (az (Z0 1 (ZG k (Z1 (ZF ⟨k+1,(zs++[a1]),v3,ob,ob,(by first|exact Zw|exact XJ Zw (ZY ha1)),rfl,rfl,rfl⟩ (wk [2,2,0] (fr (ZI k fl)))))))))))))
  exact ak (az (Z0 1 (ZG k (Z1 (ZF ⟨k+1,zs,u,ob,ob,(by first|exact Zw|exact XJ Zw (ZY ha1)),rfl,rfl,rfl⟩ (ZE 3 (fr (ZI k fl))))))))
 exact ax 0 (ar (Zr (r2 [] [ZX zs u] ⟨zs,rfl,rfl,⟨by omega,Zw⟩⟩ (Zd.forget _ _))))
theorem Z9e (n:Zp) (us:LI) (s:Z5) (mm:Nat) (bb:Nat) (hn:Xe n:=by exact ob) (hf:FS n.decls n.routines.length mm s:=by exact ob) (h11:s.op<=11:=by exact ob) (hop:Km WY s.kids:=by exact ob) (hul:us.length=mm:=by exact ob) (hm:mm+4*s.sz<=100000:=by exact ob) (hbz:s.sz<=500:=by exact ob) (hb:s.sz<=bb:=by exact ob) (ih:∀(us2:LI) (b2:Z4) (mi2:LI) (m2:Nat),(fB n.decls n.routines.length m2 b2)->(Vz WY b2)->(us2.length=m2)->(m2+4*b2.sz<=100000)->(∀v∈mi2,0<=v/\v<(m2:Int))->(mi2.length<=3)->(b2.sz<=500)->(b2.sz<bb)->Zj 147 [Yh n,Z6 us2,ZK b2,Z6 mi2] [] (fun r h=>∃(y:Z4),r=ZK y/\h=[]/\KB n.decls n.routines.length m2 y (60*b2.sz))):Zj 205 [Yh n,Z6 us,YL s] [] (fun r h=>∃(y:Z5),r=YL y/\h=[]/\KT n.decls n.routines.length mm y (60*Xf s.kids+23)):=by
 have XM:=hn.decls
 have hkf:=hf.few XM
 have hsa:=hf.alen
 refine ZC 72 Tryz.func205 (ar (iA (Yx n) fun b1=>iA (Xw s) fun b2=>iA [.i 0,.i 0,.i 0,nl,nl] fun b3=>ie (ar (iL (YN []) 0 2 fun v1=>Z1 (Zu 4 [3,2] (ic [] (Ai n.decls s.num) ?_))))))
 rintro _ _ ⟨v2,rfl,rfl⟩
 refine Z1 (Yd (ab 0 (ZW (fun fz gz m F h=>∃(k:Nat) (ks:List Z4) (u:Value),(k<=s.kids.length)/\(ks.length=k)/\(KK n.decls n.routines.length (UX n.decls s.op s.num mm) ks (60*Xf (s.kids.take k)+6*k))/\F=sF [1,3,5,6] fz [(7,Tc ks u),(8,Z6 (Y3 n.decls s.num)),(9,.i k)]/\h=[Zk gz 2,Zk gz 3,Zk gz 4,.tail u 2]/\m=s.kids.length-k) _ _ _ ⟨0,[],v1,ob,ob,(KK.nil.le (TB _)),rfl,rfl,rfl⟩ (wk [2,2,2,1] (fr (fc (x:=ZX (Y3 n.decls s.num) v2) (Zd.forget _ _) (Y1 fl)))) ?_)))
 rintro m F h ⟨k,ks,u,Yg,Zh,Zw,rfl,rfl,rfl⟩
 refine Yf 3 [1] (iw (Vp s.kids) (ZZ ((k:Int)<(s.kids.length:Int)) (fun Zb=>?_) (fun Zb=>?_)))
 ·refine ak (aq (ab 1 (ar (iL (Z7 []) 0 1 fun v3=>?_))))
  refine Z1 (Xc (U2 [2] (W5 (fun fz gz F h=>∃(fds:LI),(UX n.decls s.op s.num mm k=mm+fds.length)/\(fds.length<=3)/\F=sF [1,3,5,6,7,8,9] fz [(10,Z6 fds)]/\h=[Zk gz 1,Zk gz 2,Zk gz 3,Zk gz 4]) ?_ ?_)))
  ·refine ac (s.op==8) Zq (fun Ze=>?_) (fun Ze=>?_)
   ·refine aE 8 (ZQ 4 8 [0,1,2,3] [3] ?_)
    obtain ⟨x1,Z3⟩:=Zt (Y3 n.decls s.num) k (by have:=hf.k8 (by assumption);omega)
    have hcf:=Um XM x1
    exact dx 4 (Zi none (k:Int) 1 (Y5 Z3)) (Zm 2 3 [5] (Z8 6 (Yu 6 [] [] [] (KP n.decls x1) (Zm 0 1 [7] (de (ZV ⟨Y2 n.decls x1,(MA (by assumption) Z3),ob,rfl,rfl⟩ (wk [1,1,1,1] fl)))))))
   exact ak (ZV ⟨[],(by rw [MB (by assumption)];rfl),ob,rfl,rfl⟩ (wk [1,1,1,1] fl))
  rintro F h ⟨fds,Ua,B0,rfl,rfl⟩
  refine Yb 2 (iw (Yo us) (ic [] (Ps fds us.length) ?_))
  rintro _ _ ⟨xs1,rfl,rfl,Y9⟩
  have hhf:=Y9
  refine Z1 (aD 13 (ZQ 7 13 [0,1,2,4,5,6] [2,1] ?_))
  obtain ⟨x2,Zo⟩:=Zt s.kids k om
  have hkz:=Ub Zo
  have hfk:=Ew hf.kids Zo
  rw [Vf,Ua] at hfk
  have hok:=DI.1 hop x2 (ZY Zo)
  have hbt:=FQ Zo
  have hba:=FT Zo
  refine dx 7 (Zi none (k:Int) 2 (VS Zo)) (Zm 4 6 [8,9] (J5 (fun fz gz F h=>∃(y1:Z4) (b4:Nat),(KB n.decls n.routines.length (mm+fds.length) y1 (60*x2.sz))/\F=sF [1,3,5,6,7,8,9,11] fz [(12,.p b4 0)]/\h=[.obj b4 (X9 y1),Zk gz 0,Zk gz 1,Zk gz 2,Zk gz 3]) ?_ ?_))
  ·refine VE 3 11 ?_ ?_
   ·refine dc 3 [] [1,2] [b2,b1] (Ku us fds) ?_
    rintro _ _ ⟨v4,rfl,rfl⟩
    refine Yz 3 3 [] [(44,Z6 (us++fds))] (VE 10 11 ?_ ?_)
    ·refine dc 10 [] [] [] (ih (us++fds) x2 xs1 (mm+fds.length) hfk hok (by rw [YF,hul]) ob (fun v hv=>by have:=hhf.2 v hv;omega) ob ob ob) ?_
     rintro _ _ ⟨y1,rfl,rfl,Yp⟩
     have hkb:=Yp
     have hkl:=hkb.len
     exact Z8 11 (dA 11 [] [] [nl,.i 0] fun b4=>Z8 12 (YP 12 0 [] [] b4 (X9 y1) (de (ZV ⟨_,b4,(by assumption),rfl,rfl⟩ (wk [0,1,1,1,1] fl)))))
    refine dA 11 [1,2] [b2,b1] [nl,.i 0] fun b5=>Z8 10 (dc 10 [] [] [] (ih (us++fds) x2 xs1 (mm+fds.length) hfk hok (by rw [YF,hul]) ob (fun v hv=>by have:=hhf.2 v hv;omega) ob ob ob) ?_)
    rintro _ _ ⟨y2,rfl,rfl,YV⟩
    have hkb:=YV
    have hkl:=hkb.len
    exact Z8 12 (YP 12 0 [] [] b5 (X9 y2) (de (ZV ⟨_,b5,(by assumption),rfl,rfl⟩ (wk [0,1,1,1,1] fl))))
   refine dA 11 [1,2] [b2,b1] [nl,.i 0] fun b6=>Z8 3 (dc 3 [] [2,3] [b2,b1] (Ku us fds) ?_)
   rintro _ _ ⟨v5,rfl,rfl⟩
   refine Yz 2 2 [] [(44,Z6 (us++fds))] (Z8 10 (dc 10 [] [] [] (ih (us++fds) x2 xs1 (mm+fds.length) hfk hok (by rw [YF,hul]) ob (fun v hv=>by have:=hhf.2 v hv;omega) ob ob ob) ?_))
   rintro _ _ ⟨y3,rfl,rfl,X6⟩
   have hkb:=X6
   have hkl:=hkb.len
   exact Z8 12 (YP 12 1 [] [] b6 (X9 y3) (de (ZV ⟨_,b6,(by assumption),rfl,rfl⟩ (wk [0,1,1,1,1] fl))))
  rintro F h ⟨y1,b4,Yp,rfl,rfl⟩
  have hkb:=Yp
  have hkl:=hkb.len
  refine aE 12 (ZQ 6 12 [0,1,3,4,6,7] [0,0] (Z8 2 (dc 2 [] [0,0] [b4,b4] (KQ 14 xs1) ?_)))
  rintro _ _ ⟨v6,rfl,rfl⟩
  exact Z8 5 (dp 5 0 [0] [b4] (Zy ((xs1.map (Zz 14))++y1.steps)) (Zy (xs1.map (Zz 14))) (Zy y1.steps) v6 none 5 (Xu _) (Xu _) (U8 _) (by simp<;>omega) (by simp [WZ,Zy]) fun v7=>Yz 3 4 [8] [(60,.agg [WW ((xs1.map (Zz 14))++y1.steps),.i y1.result])] (Z8 9 (WP 9 [] [] [ZK (Z4.mk ((xs1.map (Zz 14))++y1.steps) y1.result)] (YN [Z4.mk ((xs1.map (Zz 14))++y1.steps) y1.result]) (T7 [Z4.mk ((xs1.map (Zz 14))++y1.steps) y1.result]).symm 1 2 fun v8=>Yz 2 2 [] [(61,XF [Z4.mk ((xs1.map (Zz 14))++y1.steps) y1.result])] (Z8 10 (dp 10 6 [] [] (YN (ks++[Z4.mk ((xs1.map (Zz 14))++y1.steps) y1.result])) (YN ks) (YN [Z4.mk ((xs1.map (Zz 14))++y1.steps) y1.result]) u none 2 (TW _) (TW _) (Gd _) (by simp<;>omega) (by simp [JX,YN]) fun v9=>Zm 0 1 [11] (de (az (Z0 1 (ZG k (Z1 (ZF ⟨k+1,(ks++[Z4.mk ((xs1.map (Zz 14))++y1.steps) y1.result]),v9,ob,ob,((Zw.snoc Zh (by rw [Ua];exact hkb.put1 (op:=14) (.inl rfl) (fun v hv=>by have:=hhf.2 v hv;omega))).le om),rfl,rfl,rfl⟩ (wk [4,4,4,0] (fw (ZI k fl))))))))))))))
 refine ax 0 (aD 10 (ZQ 3 10 [0,1,2,3,4,5,7] [1,1,1] (Z8 6 (dc 6 [] [1,1] [b2,b2] (Uh s.args) ?_))))
 rintro _ _ ⟨v10,rfl,rfl⟩
 exact Zm 1 2 [8] (Z8 9 (YP 9 1 [] [] b3 [.i s.op,.i s.num,.i 0,ZX s.args v10,Tc ks u] (de (ZL (r3 [] [.agg [.i s.op,.i s.num,.i 0,ZX s.args v10,Tc ks u]] [0] [(b3,b3)] ⟨(Z5.mk s.op s.num 0 s.args ks),rfl,rfl,((KT.of (into:=0) hf h11 om om Zw).le (by have:=Io (xs:=s.kids) (k:=k) om;omega))⟩ (Zd.agg (.cons (lr _) (.cons (lr _) (.cons (lr _) (.cons (Zd.forget _ _) (.cons (Zd.forget _ _) .nil)))))))))))
theorem Z9d (n:Zp) (us:LI) (b:Z4) (mi:LI) (mm:Nat) (hn:Xe n) (hf:fB n.decls n.routines.length mm b) (hop:Vz WY b) (hul:us.length=mm) (hm:mm+4*b.sz<=100000) (hmr:∀v∈mi,0<=v/\v<(mm:Int)) (hml:mi.length<=3) (hbz:b.sz<=500) (ih:∀(us2:LI) (b2:Z4) (mi2:LI) (m2:Nat),(fB n.decls n.routines.length m2 b2)->(Vz WY b2)->(us2.length=m2)->(m2+4*b2.sz<=100000)->(∀v∈mi2,0<=v/\v<(m2:Int))->(mi2.length<=3)->(b2.sz<=500)->(b2.sz<b.sz)->Zj 147 [Yh n,Z6 us2,ZK b2,Z6 mi2] [] (fun r h=>∃(y:Z4),r=ZK y/\h=[]/\KB n.decls n.routines.length m2 y (60*b2.sz))):Zj 147 [Yh n,Z6 us,ZK b,Z6 mi] [] (fun r h=>∃(y:Z4),r=ZK y/\h=[]/\KB n.decls n.routines.length mm y (60*b.sz)):=by
 have XM:=hn.decls
 have hbe:=b.sz_eq
 have ZM:=V7 b
 obtain ⟨hfs,hr1,hr2⟩:=(Ev b).1 hf
 have hos:=CM.1 ((Ho b).1 hop)
 have hdn:=II hos
 have hdl:=hdn b.steps.length (Xa _)
 rw [VC] at hdl
 refine ZC 80 Tryz.func147 (ar (iA (Yx n) fun b1=>iA (X9 b) fun b2=>iA [nl,.i 0] fun b3=>ie (ar (iL (Zy []) 0 5 fun v1=>Z1 (Yb 1 (ic [] (Uh us) ?_))))))
 rintro _ _ ⟨v2,rfl,rfl⟩
 refine Z1 (Yb 1 (ic [] (Uh mi) ?_))
 rintro _ _ ⟨v3,rfl,rfl⟩
 refine Z1 (Yd (ab 0 (ZW (fun fz gz m F h=>∃(k:Nat) (vs:LI) (w:Value) (ow:LI) (u:Value) (xs:List Z5) (v:Value) (z0:Nat),(k<=b.steps.length)/\(vs.length=mm+k)/\(CL n.decls n.routines.length mm xs k z0)/\(z0+2*ow.length<=60*YG (b.steps.take k)+2*mi.length)/\(∀v∈ow,0<=v/\v<((mm+k:Nat):Int))/\F=sF [4,6,8] fz [(9,YY xs v),(10,ZX vs w),(11,ZX ow u),(12,.i k)]/\h=[Zk gz 3,Zk gz 4,Zk gz 5,.tail u 1,.tail v 5,.tail w 1]/\m=b.steps.length-k) _ _ _ ⟨0,us,v2,mi,v3,[],v1,0,ob,ob,CL.nil,(by simp),hmr,rfl,rfl,rfl⟩ (wk [3,3,3,0,1,0] (fw (fr (Y1 fl)))) ?_)))
 rintro m F h ⟨k,vs,w,ow,u,xs,v,z0,Yg,Zh,Zw,YS,WE,rfl,rfl,rfl⟩
 refine Yf 3 [1] (iw (V5 b.steps) (ZZ ((k:Int)<(b.steps.length:Int)) (fun Zb=>?_) (fun Zb=>?_)))
 ·refine ak (aq (ab 1 (Zu 3 [1] ?_)))
  obtain ⟨x1,Z3⟩:=Zt b.steps k om
  have Xn:=CP Z3
  have hfS:=(Gk x1).1 (Ex hfs Z3)
  rw [hdn k om] at hfS
  have hoS:=(Fa x1).1 (hos x1 (ZY Z3))
  have htk:=MQ Z3
  have hse:=(x1).sz_eq
  have hal4:=hfS.alen
  have hxl:=Zw.len
  have htl:=KU b.steps (k+1)
  refine Zl (Zi none (k:Int) 5 (W6 Z3)) (Z0 1 (iA [.i 0,.i 0,.i 0,nl,nl] fun b4=>Zx 0 b4 (Xw x1) (ie (ar (Qk 3 [(33,Z6 vs)] [3,0] (Zv [] (MN n vs x1 ob ob) (Z1 (ar (Qk 4 [(38,Z6 vs)] [3,0] (ic [] (Z8s n vs x1 (mm+k) (hf:=hfS)) ?_))))))))))
  rintro _ _ ⟨zs1,rfl,rfl,Y9⟩
  have hdu:=Y9
  have hq1:=Zw.cnts (op:=14) (.inl rfl) (vs:=zs1) (fun v hv=>hfS.args v (hdu.2 v hv))
  have hl1:=hq1.len
  refine ic [] (KQ 14 zs1) ?_
  rintro _ _ ⟨v4,rfl,rfl⟩
  refine ZT 0 [(41,WW (zs1.map (Zz 14)))] (ip 6 (Zy (xs++(zs1.map (Zz 14)))) (Zy xs) (Zy (zs1.map (Zz 14))) v none 5 (Xu _) (Xu _) (U8 _) (by simp<;>omega) (by simp [WZ,Zy]) fun v5=>Z1 (ar (Qk 4 [(45,Z6 vs)] [5,2] (ic [] (Z9e n vs x1 (mm+k) b.sz (hf:=hfS) (h11:=hoS.1) (hop:=hoS.2) (ih:=ih)) ?_))))
  rintro _ _ ⟨y1,rfl,rfl,Yp⟩
  have hkt:=Yp
  have hq2:=hq1.kt hkt
  have hl2:=hq2.len
  refine UV [YL y1] (Zy [y1]) (VF [y1]).symm 1 5 fun v6=>ZT 0 [(48,WW [y1])] (ip 1 (Zy ((xs++(zs1.map (Zz 14)))++[y1])) (Zy (xs++(zs1.map (Zz 14)))) (Zy [y1]) v5 none 5 (Xu _) (Xu _) (U8 _) (by simp<;>omega) (by simp [WZ,Zy]) fun v7=>Z1 (Xc (YJ ((Ym n vs x1) != 0) Yc (fun Ze=>?_) (fun Ze=>?_))))
  ·exact az (Z0 2 (iw (Yo vs) (iL (Z7 [(vs.length:Int)]) 1 1 fun v8=>ZT 0 [(55,Z6 [(vs.length:Int)])] (ip 8 (Z7 (ow++[(vs.length:Int)])) (Z7 ow) (Z7 [(vs.length:Int)]) u none 1 (YI _) (YI _) (We _) (by simp<;>omega) (by simp [Wd,Z7]) fun v9=>Z1 (az (Z0 2 (iL (Z7 [Ym n vs x1]) 1 1 fun v10=>ZT 0 [(59,Z6 [Ym n vs x1])] (ip 10 (Z7 (vs++[Ym n vs x1])) (Z7 vs) (Z7 [Ym n vs x1]) w none 1 (YI _) (YI _) (We _) (by simp<;>omega) (by simp [Wd,Z7]) fun v11=>Z1 (az (Z0 1 (ZG k (Z1 (ZF ⟨k+1,(vs++[Ym n vs x1]),v11,(ow++[(vs.length:Int)]),v9,((xs++(zs1.map (Zz 14)))++[y1]),v7,_,ob,ob,hq2,(by (try simp only [YF,YR,Xx]);omega),(by first|exact XJ (fun v hv=>by have:=WE v hv;omega) om|exact (fun v hv=>by have:=WE v hv;omega)),rfl,rfl,rfl⟩ (wk [8,8,8,2,3,0] (fw (fr (ZI k fl)))))))))))))))))
  exact ak (az (Z0 2 (iL (Z7 [Ym n vs x1]) 1 1 fun v12=>ZT 0 [(59,Z6 [Ym n vs x1])] (ip 9 (Z7 (vs++[Ym n vs x1])) (Z7 vs) (Z7 [Ym n vs x1]) w none 1 (YI _) (YI _) (We _) (by simp<;>omega) (by simp [Wd,Z7]) fun v13=>Z1 (az (Z0 1 (ZG k (Z1 (ZF ⟨k+1,(vs++[Ym n vs x1]),v13,ow,u,((xs++(zs1.map (Zz 14)))++[y1]),v7,_,ob,ob,hq2,(by (try simp only [YF,YR,Xx]);omega),(by first|exact XJ (fun v hv=>by have:=WE v hv;omega) om|exact (fun v hv=>by have:=WE v hv;omega)),rfl,rfl,rfl⟩ (wk [6,6,6,6,2,0] (fw (fr (ZI k fl)))))))))))))
 have hxl:=Zw.len
 have htl:=KU b.steps k
 refine ax 0 (Yf 3 [1] ?_)
 obtain ⟨x2,Zo⟩:=Zt vs b.result.toNat om
 refine Zl (Zi (some w) b.result 1 (Y5 Zo)) (YJ (x2 != 0) Yc (fun ZB=>?_) (fun ZB=>?_))
 ·refine az (ZO 3 [1] (Zv [] (Aj 14 b.result) (UV [YL (Zz 14 b.result)] (Zy [Zz 14 b.result]) (VF [Zz 14 b.result]).symm 1 5 fun v14=>ZT 0 [(71,WW [Zz 14 b.result])] (ip 5 (Zy (xs++[Zz 14 b.result])) (Zy xs) (Zy [Zz 14 b.result]) v none 5 (Xu _) (Xu _) (U8 _) (by simp<;>omega) (by simp [WZ,Zy]) fun v15=>Z1 (aD 8 (Dd 4 8 [0,1,4,5] [(74,Z6 ow)] [3] (Z8 2 (dc 2 [] [1] [b2] (KQ 15 ow) ?_))))))))
  rintro _ _ ⟨v16,rfl,rfl⟩
  exact Yz 3 3 [] [(75,WW (ow.map (Zz 15)))] (Z8 3 (dp 3 1 [1] [b2] (Zy ((xs++[Zz 14 b.result])++(ow.map (Zz 15)))) (Zy (xs++[Zz 14 b.result])) (Zy (ow.map (Zz 15))) v15 none 5 (Xu _) (Xu _) (U8 _) (by simp<;>omega) (by simp [WZ,Zy]) fun v17=>Zm 1 2 [6] (Z8 7 (YP 7 3 [] [] b3 [YY ((xs++[Zz 14 b.result])++(ow.map (Zz 15))) v17,.i b.result] (de (ZL (r3 [] [.agg [YY ((xs++[Zz 14 b.result])++(ow.map (Zz 15))) v17,.i b.result]] [0] [(b3,b3)] ⟨(Z4.mk ((xs++[Zz 14 b.result])++(ow.map (Zz 15))) b.result),rfl,rfl,((((Zw.cnt (op:=14) (.inl rfl) om).cnts (op:=15) (.inr rfl) (fun v hv=>by have:=WE v hv;omega)).block om).le (by have:=KU b.steps k;omega))⟩ (Zd.agg (.cons (Zd.forget _ _) (.cons (lr _) .nil))))))))))
 refine ak (aD 8 (Dd 4 8 [0,1,4,5] [(74,Z6 ow)] [1] (Z8 2 (dc 2 [] [1] [b2] (KQ 15 ow) ?_))))
 rintro _ _ ⟨v18,rfl,rfl⟩
 exact Yz 3 3 [] [(75,WW (ow.map (Zz 15)))] (Z8 3 (dp 3 5 [1] [b2] (Zy (xs++(ow.map (Zz 15)))) (Zy xs) (Zy (ow.map (Zz 15))) v none 5 (Xu _) (Xu _) (U8 _) (by simp<;>omega) (by simp [WZ,Zy]) fun v19=>Zm 1 2 [6] (Z8 7 (YP 7 2 [] [] b3 [YY (xs++(ow.map (Zz 15))) v19,.i b.result] (de (ZL (r3 [] [.agg [YY (xs++(ow.map (Zz 15))) v19,.i b.result]] [0] [(b3,b3)] ⟨(Z4.mk (xs++(ow.map (Zz 15))) b.result),rfl,rfl,(((Zw.cnts (op:=15) (.inr rfl) (fun v hv=>by have:=WE v hv;omega)).block om).le (by have:=KU b.steps k;omega))⟩ (Zd.agg (.cons (Zd.forget _ _) (.cons (lr _) .nil))))))))))
theorem Z9c (n:Zp) (us:LI) (b:Z4) (mi:LI) (mm:Nat) (hn:Xe n:=by exact ob) (hf:fB n.decls n.routines.length mm b:=by exact ob) (hop:Vz WY b:=by exact ob) (hul:us.length=mm:=by exact ob) (hm:mm+4*b.sz<=100000:=by exact ob) (hmr:∀v∈mi,0<=v/\v<(mm:Int)) (hml:mi.length<=3:=by exact ob) (hbz:b.sz<=500:=by exact ob):Zj 147 [Yh n,Z6 us,ZK b,Z6 mi] [] (fun r h=>∃(y:Z4),r=ZK y/\h=[]/\KB n.decls n.routines.length mm y (60*b.sz)):=by
 have key:∀k:Nat,∀(us2:LI) (b2:Z4) (mi2:LI) (m2:Nat),(fB n.decls n.routines.length m2 b2)->(Vz WY b2)->(us2.length=m2)->(m2+4*b2.sz<=100000)->(∀v∈mi2,0<=v/\v<(m2:Int))->(mi2.length<=3)->(b2.sz<=500)->(b2.sz<k)->Zj 147 [Yh n,Z6 us2,ZK b2,Z6 mi2] [] (fun r h=>∃(y:Z4),r=ZK y/\h=[]/\KB n.decls n.routines.length m2 y (60*b2.sz)):=by
  intro k
  induction k with
  | zero=>intro us2 b2 mi2 m2 h1 h2 h3 h4 h5 h6 h7 h9;omega
  | succ k ih=>intro us2 b2 mi2 m2 h1 h2 h3 h4 h5 h6 h7 h9;exact Z9d n us2 b2 mi2 m2 hn h1 h2 h3 h4 h5 h6 h7 fun us3 b3 mi3 m3 q1 q2 q3 q4 q5 q6 q7 q9=>ih us3 b3 mi3 m3 q1 q2 q3 q4 q5 q6 q7 om
 exact key (b.sz+1) us b mi mm hf hop hul hm hmr hml hbz om
theorem Z9w (rt:ZH) (hp:rt.params.length<=1000000:=by exact ob) (hl:rt.lent.length<=1000000:=by exact ob):Zj 148 [UN rt] [] (fun r h=>∃(os:LI),r=Z6 os/\h=[]/\os.length<=rt.params.length/\∀v∈os,0<=v/\v<(rt.params.length:Int)):=by
 refine ZC 31 Tryz.func148 (ar (iA (U0 rt) fun b1=>Z1 (ar (iL (Z7 []) 0 1 fun v1=>?_))))
 refine Z1 (Yd (ab 0 (ZW (fun fz gz m F h=>∃(k:Nat) (os:LI) (u:Value),(k<=rt.params.length)/\(os.length<=k)/\(∀v∈os,0<=v/\v<(rt.params.length:Int))/\F=sF [1] fz [(3,ZX os u),(4,.i k)]/\h=[Zk gz 1,.tail u 1]/\m=rt.params.length-k) _ _ _ ⟨0,[],v1,ob,ob,(fun v hv=>by cases hv),rfl,rfl,rfl⟩ (wk [1,0] (fr (Y1 fl))) ?_)))
 rintro m F h ⟨k,os,u,Yg,Zh,Zw,rfl,rfl,rfl⟩
 refine Yf 3 [0] (iw (Yo rt.params) (ZZ ((k:Int)<(rt.params.length:Int)) (fun Zb=>?_) (fun Zb=>?_)))
 ·refine ak (aq (ab 1 (Zu 3 [0] ?_)))
  obtain ⟨x1,Z3⟩:=Zt rt.params k om
  refine Zl (Zi none (k:Int) 1 (Y5 Z3)) (Xt [1,3,4] [(25,.b ((x1 != 0)&&(!(decide ((k:Int)∈rt.lent)))))] (fun gz=>gz) ?_ ?_)
  ·refine Z0 3 (ib (b:=(x1 != 0)) 19 (fun Zc=>?_) (fun Zc=>?_))
   ·exact ZO 3 [0] (Zv [] (UY rt.lent (k:Int)) (Z1 (wk [0,0] (Zs (!(decide ((k:Int)∈rt.lent))) Zc fl))))
   exact Z1 (wk [0,0] (Zs false Zc fl))
  refine ac ((x1 != 0)&&(!(decide ((k:Int)∈rt.lent)))) (p:=(x1≠0)/\(¬((k:Int)∈rt.lent))) (YA Yc (Yq dq)) (fun Ze=>?_) (fun Ze=>?_)
  ·exact az (Z0 2 (iL (Z7 [(k:Int)]) 1 1 fun v2=>ZT 0 [(28,Z6 [(k:Int)])] (ip 2 (Z7 (os++[(k:Int)])) (Z7 os) (Z7 [(k:Int)]) u none 1 (YI _) (YI _) (We _) (by simp<;>omega) (by simp [Wd,Z7]) fun v3=>Z1 (az (Z0 1 (ZG k (Z1 (ZF ⟨k+1,(os++[(k:Int)]),v3,ob,ob,(by first|exact Zw|exact XJ Zw om),rfl,rfl,rfl⟩ (wk [2,0] (fr (ZI k fl)))))))))))
  exact ak (az (Z0 1 (ZG k (Z1 (ZF ⟨k+1,os,u,ob,ob,(by first|exact Zw|exact XJ Zw om),rfl,rfl,rfl⟩ (wk [0,0] (fr (ZI k fl))))))))
 exact ax 0 (ar (Zr (r2 [] [ZX os u] ⟨os,rfl,rfl,⟨by omega,Zw⟩⟩ (Zd.forget _ _))))
theorem Z9b (n:Zp) (qz:Nat) (hn:FO n qz WY:=by exact ob) (hqz:qz<=181:=by exact ob):Zj 86 [Yh n] [] (fun r h=>∃(n2:Zp),r=Yh n2/\h=[]/\FO n2 (60*qz) VJ):=by
 have hnl:=hn.fn.len
 have XM:=hn.fn.decls.ok
 have hok:=hn.fn.ok
 refine ZC 39 Tryz.func86 (ar (iA (Yx n) fun b1=>iA [nl,nl] fun b2=>ie (Zu 2 [1] (Zv [] (BS n.decls) (iL (Yv []) 0 5 fun v1=>Z0 1 (iA [nl,nl] fun b3=>?_))))))
 refine Zx 0 b3 [Ye n.decls,Wu [] v1] (ie (Yd (ab 0 (ZW (fun fz gz m F h=>∃(k:Nat) (rs:List ZH) (u:Value),(k<=n.routines.length)/\(rs.length=k)/\(∀r∈rs,RF n.decls n.routines.length (60*qz) VJ r)/\F=sF [1,2,3] fz [(4,.i k)]/\h=[.obj b3 [Ye n.decls,Wu rs u],Zk gz 2,Zk gz 3,.tail u 5]/\m=n.routines.length-k) _ _ _ ⟨0,[],v1,ob,ob,(fun r hr=>by cases hr),rfl,rfl,rfl⟩ (wk [0,1,1,0] (Y1 fl)) ?_))))
 rintro m F h ⟨k,rs,u,Yg,Zh,Zw,rfl,rfl,rfl⟩
 refine Yf 3 [2] (iw (V4 n.routines) (ZZ ((k:Int)<(n.routines.length:Int)) (fun Zb=>?_) (fun Zb=>?_)))
 ·refine ak (aq (ab 1 (Zu 3 [2] ?_)))
  obtain ⟨x1,Z3⟩:=Zt n.routines k om
  have hrf:=hn.rf (ZY Z3)
  have hrp:(x1).params.length<=3:=(TD.bd (f:=⟨(x1).params,(x1).result,default⟩) hrf.sig).1
  have hrl:=hrf.lent.1
  have hrz:=hrf.body.2
  refine Zl (Zi none (k:Int) 5 (Wf Z3)) (Z0 1 (iA [nl,nl,.i 0,nl,.i 0] fun b4=>Zx 0 b4 (U0 x1) (ie (aE 16 (ZQ 7 16 [0,1,2,3,4,5,6,7,8] [1,0,3,0,0,0] (Z8 9 (dc 9 [] [0,0,3,0,1] [b4,b4,b1,b4,b3] (Z9w x1) ?_)))))))
  rintro _ _ ⟨os1,rfl,rfl,Y9⟩
  have hop:=Y9
  refine Z8 10 (dc 10 [] [0,1] [b4,b3] (Z9c n x1.params x1.body os1 _ (hf:=hrf.body.1) (hop:=hrf.op) (hul:=rfl) (hmr:=hop.2)) ?_)
  rintro _ _ ⟨y1,rfl,rfl,Yp⟩
  have hkb0:=Yp
  have hkb:=hkb0.le (z2:=60*qz) om
  exact Z8 11 (Yu 11 [] [1] [b3] (DV x1 y1 (hp:=om) (hl:=om)) (Z8 12 (dL 12 [1] [b3] (Yv [ZH.mk x1.params x1.lent x1.result y1]) 1 5 fun v2=>Yz 3 3 [] [(35,Q3 [ZH.mk x1.params x1.lent x1.result y1])] (Z8 13 (dp 13 5 [] [] (Yv (rs++[ZH.mk x1.params x1.lent x1.result y1])) (Yv rs) (Yv [ZH.mk x1.params x1.lent x1.result y1]) u none 5 (U7 _) (U7 _) (Jw _) (by simp<;>omega) (by simp [A1,Yv]) fun v3=>Zm 1 2 [14] (Z8 15 (YP 15 3 [] [] b3 [Ye n.decls,Wu (rs++[ZH.mk x1.params x1.lent x1.result y1]) v3] (de (az (Z0 1 (ZG k (Z1 (ZF ⟨k+1,(rs++[ZH.mk x1.params x1.lent x1.result y1]),v3,ob,ob,(XJ Zw (by first|exact hrf.with hkb.fb hkb.sz hkb.op|(rw [Z4.eta];exact hrf.with hkb.fb hkb.sz hkb.op))),rfl,rfl,rfl⟩ (wk [0,3,3,0] (ZI k fl)))))))))))))))
 exact ax 0 (Zu 1 [0] (Zx 1 b2 [Ye n.decls,Wu rs u] (ie (ZL (r3 [] [.agg [Ye n.decls,Wu rs u]] [0] [(b2,b2)] ⟨(Zp.mk n.decls rs),rfl,rfl,(FO.fin hn.fn om Zw).1⟩ (Zd.agg (.cons (lr _) (.cons (Zd.forget _ _) .nil))))))))
theorem Z1n (s:Z5) :Zj 224 [YL s] [] (Y7 (.b ((s.op==14)||(s.op==15)))):=by
 refine ZC 11 Tryz.func224 (ar (iA (Xw s) fun b1=>Z1 (ar (Xr 8 [] [(10,.b ((s.op==14)||(s.op==15)))] (fun gz=>gz) ?_ (fun hj1=>?_)))))
 ·exact Zr (DX)
 refine ZO 4 [0] (ib (b:=(s.op==14)) 6 (fun Zc=>?_) (fun Zc=>?_))
 ·exact Z0 4 (Yn (wk [0] (Zs true Zc fl)) hj1)
 exact ZO 4 [0] (Yn (wk [0] (Zs (s.op==15) Zc fl)) hj1)
theorem Za9 (rn:List Z5) (hrn:∀s∈rn,∃a,s.args=[a]) (hl:rn.length<=100000000:=by exact ob):Zj 267 [WW rn] [] (fun r h=>∃(vs:LI),r=Z6 vs/\h=[]/\Ca vs/\vs.length<=rn.length/\∀v∈vs,∃s∈rn,s.args=[v]):=by
 refine ZC 22 Tryz.func267 (ZJ (ar (iL (Z7 []) 0 1 fun v1=>?_)))
 refine Z1 (Yd (ab 0 (ZW (fun fz gz m F h=>∃(k:Nat) (vs:LI),(k<=rn.length)/\(vs.length<=k)/\(Ca vs)/\(∀v∈vs,∃s∈rn,s.args=[v])/\F=sF [0] fz [(3,Z6 vs),(4,.i k)]/\h=[]/\m=rn.length-k) _ _ _ ⟨0,[],ob,ob,List.Pairwise.nil,(fun v hv=>by cases hv),rfl,rfl,rfl⟩ (wk [] (fc (x:=ZX [] v1) (Zd.forget _ _) (Y1 fl))) ?_)))
 rintro m F h ⟨k,vs,Yg,Zh,Zw,YS,rfl,rfl,rfl⟩
 refine YU 2 (iw (V5 rn) (ZZ ((k:Int)<(rn.length:Int)) (fun Zb=>?_) (fun Zb=>?_)))
 ·refine ak (aq (ab 1 (az (Z0 3 ?_))))
  obtain ⟨x1,Z3⟩:=Zt rn k om
  have hxm:=ZY Z3
  obtain ⟨xa,hxa⟩:=hrn _ hxm
  refine Zl (Zi none (k:Int) 5 (W6 Z3)) (Z0 2 ?_)
  obtain ⟨x2,Zo⟩:=Zt x1.args 0 (by rw [hxa];simp)
  have hxe:x1.args=[x2]:=by have h:=Zo;rw [hxa] at h;rw [hxa];simpa using h
  refine Zl (Zi none 0 1 (Y5 Zo)) (Z0 1 (ic [] (ED vs x2) ?_))
  rintro _ _ ⟨v2,rfl,rfl⟩
  exact Z1 (az (Z0 1 (ZG k (Z1 (ZF ⟨k+1,(Ur vs x2),ob,(by have:=DA vs x2;omega),(PX Zw),(fun v hv=>(ES.1 hv).elim (YS v) (fun e=>⟨x1,hxm,by rw [e];exact hxe⟩)),rfl,rfl,rfl⟩ (wk [] (fc (x:=ZX (Ur vs x2) v2) (Zd.forget _ _) (ZI k fl))))))))
 exact ax 0 (ar (Zr (r1 [] ⟨vs,rfl,rfl,⟨Zw,by omega,YS⟩⟩)))
theorem Z9o (rn:List Z5) (v:Int) (hrn:∀s∈rn,∃a,s.args=[a]) (hl:rn.length<=100000000:=by exact ob):Zj 268 [WW rn,.i v] [] (fun r h=>∃(z:Int),r=.i z/\h=[]/\-((VR rn v:Nat):Int)<=z/\z<=((VR rn v:Nat):Int)):=by
 refine ZC 44 Tryz.func268 (ZJ (ZJ (Yd (ab 0 (ZW (fun fz gz m F h=>∃(k:Nat) (z:Int),(k<=rn.length)/\(-((VR (rn.take k) v:Nat):Int)<=z/\z<=((VR (rn.take k) v:Nat):Int))/\F=sF [0,1] fz [(5,.i z),(6,.i k)]/\h=gz/\m=rn.length-k) _ _ _ ⟨0,0,ob,(by simp [VR]),rfl,rfl,rfl⟩ (wk [] (fr (Y1 fl))) ?_)))))
 rintro m F h ⟨k,z,Yg,Zh,rfl,rfl,rfl⟩
 refine YU 2 (iw (V5 rn) (ZZ ((k:Int)<(rn.length:Int)) (fun Zb=>?_) (fun Zb=>?_)))
 ·refine ak (aq (ab 1 (Yb 2 ?_)))
  obtain ⟨x1,Z3⟩:=Zt rn k om
  have hxm:=ZY Z3
  obtain ⟨xa,hxa⟩:=hrn _ hxm
  have hct:=Z57 Z3 v
  have hcl:=Z58 rn (k+1) v
  have hcm:=O3 rn v
  refine Zl (Zi none (k:Int) 5 (W6 Z3)) (Z0 2 ?_)
  obtain ⟨x2,Zo⟩:=Zt x1.args 0 (by rw [hxa];simp)
  have hg0:=AP Zo
  rw [hg0] at hct
  refine Zl (Zi none 0 1 (Y5 Zo)) (Xt [0,1,5,6] [(29,.b ((x2==v)&&(x1.op==14)))] (fun gz=>gz) ?_ ?_)
  ·refine Z0 4 (ib (b:=(x2==v)) 22 (fun Zc=>?_) (fun Zc=>?_))
   ·exact Z0 2 (Zl (Zi none (k:Int) 5 (W6 Z3)) (Z1 (wk [] (Zs (x1.op==14) Zc fl))))
   exact Z1 (wk [] (Zs false Zc fl))
  refine ac ((x2==v)&&(x1.op==14)) (p:=(x2=v)/\(x1.op=14)) (YA Zq Zq) (fun Ze=>?_) (fun Ze=>?_)
  ·exact az (Z0 1 (ia ((z+1)) ((z)+(1)) (Z1 (az (Z0 1 (ZG k (Z1 (ZF ⟨k+1,(z+1),ob,(by first|(rw [hct,Zg om];omega)|(rw [hct,Z9 om];omega)),rfl,rfl,rfl⟩ (wk [] (fr (ZI k fl)))))))))))
  refine Yb 2 (Zl (Zi none (k:Int) 5 (W6 Z3)) (Z0 2 (Zl (Zi none 0 1 (Y5 Zo)) (YJ (x2==v) Zq (fun ZB=>?_) (fun ZB=>?_)))))
  ·exact az (Z0 1 (ia ((z-1)) ((z)-(1)) (Z1 (az (Z0 1 (ZG k (Z1 (ZF ⟨k+1,(z-1),ob,(by first|(rw [hct,Zg om];omega)|(rw [hct,Z9 om];omega)),rfl,rfl,rfl⟩ (wk [] (fr (ZI k fl)))))))))))
  exact ak (az (Z0 1 (ZG k (Z1 (ZF ⟨k+1,z,ob,(by first|(rw [hct,Zg om];omega)|(rw [hct,Z9 om];omega)),rfl,rfl,rfl⟩ (wk [] (fr (ZI k fl))))))))
 exact ax 0 (ar (Zr (r1 [] ⟨z,rfl,rfl,(by have e:=Zh;rw [WM om] at e;exact e)⟩)))
theorem Px (rn:List Z5) (hrn:∀s∈rn,∃a,s.args=[a]) (hl:rn.length<=100000000:=by exact ob):Zj 225 [WW rn] [] (fun r h=>∃(D:LI) (R:LI) (v:Value),r=YY (D.map (Zz 14)++R.map (Zz 15)) v/\h=[.tail v 5]/\D.length+R.length<=rn.length/\(∀v∈D,∃s∈rn,s.args=[v])/\∀v∈R,∃s∈rn,s.args=[v]):=by
 refine ZC 51 Tryz.func225 (ZJ (ar (iL (Z7 []) 0 1 fun v1=>Z1 (ar (iL (Z7 []) 0 1 fun v2=>Z1 (Yb 1 (ic [] (Za9 rn (hrn:=ob)) ?_)))))))
 rintro _ _ ⟨vs1,rfl,rfl,Y9⟩
 have hvo:=Y9
 have hsl:=Z2a rn hvo.1
 refine Z1 (Yd (ab 0 (ZW (fun fz gz m F h=>∃(k:Nat) (D:LI) (u:Value) (R:LI) (w:Value),(k<=vs1.length)/\(D.length+R.length<=VI rn (vs1.take k))/\(∀v∈D,v∈vs1)/\(∀v∈R,v∈vs1)/\F=sF [0,5] fz [(3,ZX D u),(4,ZX R w),(6,.i k)]/\h=[.tail u 1,.tail w 1]/\m=vs1.length-k) _ _ _ ⟨0,[],v1,[],v2,ob,(by simp [VI]),(fun v hv=>by cases hv),(fun v hv=>by cases hv),rfl,rfl,rfl⟩ (wk [1,0] (fw (Y1 fl))) ?_)))
 rintro m F h ⟨k,D,u,R,w,Yg,Zh,Zw,YS,rfl,rfl,rfl⟩
 refine YU 2 (iw (Yo vs1) (ZZ ((k:Int)<(vs1.length:Int)) (fun Zb=>?_) (fun Zb=>?_)))
 ·refine ak (aq (ab 1 (Yb 3 ?_)))
  obtain ⟨x1,Z3⟩:=Zt vs1 k om
  have hst:=Zkk (rn:=rn) Z3
  have hsk:=MU rn vs1 (k+1)
  have hxm:=ZY Z3
  refine Zl (Zi none (k:Int) 1 (Y5 Z3)) (Z0 1 (ic [] (Z9o rn x1 (hrn:=ob)) ?_))
  rintro _ _ ⟨z1,rfl,rfl,Yp⟩
  have hnt:=Yp
  refine Z1 (aq (ab 2 (ZW (fun fz gz m F h=>∃(z:Int) (D2:LI) (u2:Value) (w2:Value),((D2.length:Int)+(R.length:Int)+z<=((VI rn (vs1.take k):Nat):Int)+((VR rn x1:Nat):Int))/\((D2.length:Int)+(R.length:Int)-z<=((VI rn (vs1.take k):Nat):Int)+((VR rn x1:Nat):Int))/\(∀v∈D2,v∈vs1)/\F=sF [0,5,6] fz [(3,ZX D2 u2),(4,ZX R w2),(7,.i z)]/\h=[.tail u2 1,.tail w2 1]/\m=z.toNat) _ _ _ ⟨z1,D,u,w,om,om,Zw,rfl,rfl,rfl⟩ (wk [0,0] fl) ?_)))
  rintro m F h ⟨z,D2,u2,w2,Vo,Xs,XE,rfl,rfl,rfl⟩
  refine Xc (ZZ (z>0) (fun Ze=>?_) (fun Ze=>?_))
  ·exact ak (aq (ab 3 (az (Z0 3 (Zl (Zi none (k:Int) 1 (Y5 Z3)) (Z0 1 (iL (Z7 [x1]) 1 1 fun v3=>ZT 0 [(33,Z6 [x1])] (ip 1 (Z7 (D2++[x1])) (Z7 D2) (Z7 [x1]) u2 none 1 (YI _) (YI _) (We _) (by simp<;>omega) (by simp [Wd,Z7]) fun v4=>Z1 (az (Z0 1 (ia ((z-1)) ((z)-(1)) (Z1 (ZF ⟨(z-1),(D2++[x1]),v4,w2,(by simp only [YF,YR,Xx];omega),(by simp only [YF,YR,Xx];omega),(XJ XE hxm),rfl,rfl,rfl⟩ (wk [0,1] fl))))))))))))))
  refine ax 2 (ab 4 (ZW (fun fz gz m F h=>∃(y:Int) (R2:LI) (u3:Value) (w3:Value),((D2.length:Int)+(R2.length:Int)+y<=((VI rn (vs1.take k):Nat):Int)+((VR rn x1:Nat):Int))/\((D2.length:Int)+(R2.length:Int)-y<=((VI rn (vs1.take k):Nat):Int)+((VR rn x1:Nat):Int))/\(∀v∈R2,v∈vs1)/\F=sF [0,5,6] fz [(3,ZX D2 u3),(4,ZX R2 w3),(7,.i y)]/\h=[.tail u3 1,.tail w3 1]/\m=(-y).toNat) _ _ _ ⟨z,R,u2,w2,ob,ob,YS,rfl,rfl,rfl⟩ (wk [0,0] fl) ?_))
  rintro m F h ⟨y,R2,u3,w3,Ef,TT,Eg,rfl,rfl,rfl⟩
  refine Xc (ZZ (y<0) (fun ZB=>?_) (fun ZB=>?_))
  ·exact ak (aq (ab 5 (az (Z0 3 (Zl (Zi none (k:Int) 1 (Y5 Z3)) (Z0 1 (iL (Z7 [x1]) 1 1 fun v5=>ZT 0 [(44,Z6 [x1])] (ip 2 (Z7 (R2++[x1])) (Z7 R2) (Z7 [x1]) w3 none 1 (YI _) (YI _) (We _) (by simp<;>omega) (by simp [Wd,Z7]) fun v6=>Z1 (az (Z0 1 (ia ((y+1)) ((y)+(1)) (Z1 (ZF ⟨(y+1),(R2++[x1]),u3,v6,(by simp only [YF,YR,Xx];omega),(by simp only [YF,YR,Xx];omega),(XJ Eg hxm),rfl,rfl,rfl⟩ (wk [2,0] fl))))))))))))))
  exact ax 4 (az (Z0 1 (ZG k (Z1 (ZF ⟨k+1,D2,u3,R2,w3,ob,(by rw [hst];omega),XE,Eg,rfl,rfl,rfl⟩ (wk [0,0] (fw (ZI k fl))))))))
 have Xn:=MU rn vs1 k
 refine ax 0 (ar (ZT 1 [(46,Z6 D)] (ic [] (KQ 14 D) ?_)))
 rintro _ _ ⟨v7,rfl,rfl⟩
 refine ZT 1 [(48,Z6 R)] (ic [] (KQ 15 R) ?_)
 rintro _ _ ⟨v8,rfl,rfl⟩
 exact ZT 0 [(49,WW (R.map (Zz 15)))] (ip 1 (Zy ((D.map (Zz 14))++(R.map (Zz 15)))) (Zy (D.map (Zz 14))) (Zy (R.map (Zz 15))) v7 none 5 (Xu _) (Xu _) (U8 _) (by simp<;>omega) (by simp [WZ,Zy]) fun v9=>Zr (r2 [0] [YY ((D.map (Zz 14))++(R.map (Zz 15))) v9] ⟨_,_,v9,rfl,rfl,⟨by have:=MU rn vs1 k;omega,fun v hv=>hvo.2.2 v (Zw v hv),fun v hv=>hvo.2.2 v (YS v hv)⟩⟩ (Zd.slh _ (Yr Zy ob))))
theorem Z8o (ds:List Zf) (nf:Nat) (b:Z4) (mm:Nat) (hf:fB ds nf mm b) (hop:Vz VJ b) (hz:b.sz<=100000000) (ih:∀(b2:Z4) (m2:Nat),(fB ds nf m2 b2)->(Vz VJ b2)->(b2.sz<=100000000)->(b2.sz<b.sz)->Zj 179 [ZK b2] [] (fun r h=>∃(y:Z4),r=ZK y/\h=[]/\KB ds nf m2 y b2.sz)):Zj 179 [ZK b] [] (fun r h=>∃(y:Z4),r=ZK y/\h=[]/\KB ds nf mm y b.sz):=by
 have hbe:=b.sz_eq
 have ZM:=V7 b
 obtain ⟨hfs,hr1,hr2⟩:=(Ev b).1 hf
 have hos:=CM.1 ((Ho b).1 hop)
 refine ZC 72 Tryz.func179 (ar (iA (X9 b) fun b1=>iA [nl,.i 0] fun b2=>ie (ar (iL (Zy []) 0 5 fun v1=>Z1 (ar (iL (Zy []) 0 5 fun v2=>?_))))))
 refine Z1 (Yd (ab 0 (ZW (fun fz gz m F h=>∃(k:Nat) (xs:List Z5) (v:Value) (rn:List Z5) (u:Value) (z0:Nat),(k<=b.steps.length)/\(CL ds nf mm xs (X7 (b.steps.take k)) z0)/\(z0+2*rn.length<=YG (b.steps.take k))/\(Nk (mm+(X7 (b.steps.take k))) rn)/\F=sF [1,2] fz [(3,YY xs v),(4,YY rn u),(5,.i k)]/\h=[Zk gz 2,Zk gz 3,.tail u 5,.tail v 5]/\m=b.steps.length-k) _ _ _ ⟨0,[],v1,[],v2,0,ob,CL.nil,(by simp [YG]),(fun s hs=>by cases hs),rfl,rfl,rfl⟩ (wk [2,2,0,0] (fw (Y1 fl))) ?_)))
 rintro m F h ⟨k,xs,v,rn,u,z0,Yg,Zh,Zw,YS,rfl,rfl,rfl⟩
 refine Yf 3 [1] (iw (V5 b.steps) (ZZ ((k:Int)<(b.steps.length:Int)) (fun Zb=>?_) (fun Zb=>?_)))
 ·refine ak (aq (ab 1 (Zu 3 [1] ?_)))
  obtain ⟨x1,Z3⟩:=Zt b.steps k om
  have Xn:=CP Z3
  have hfS:=(Gk x1).1 (Ex hfs Z3)
  have hoS:=(Fa x1).1 (hos x1 (ZY Z3))
  have htk:=MQ Z3
  have htl:=KU b.steps (k+1)
  have hse:=(x1).sz_eq
  have hdt:=OD Z3
  have hxl:=Zh.len
  have hkl2:=FP (x1).kids
  refine Zl (Zi none (k:Int) 5 (W6 Z3)) (Z0 1 (iA [.i 0,.i 0,.i 0,nl,nl] fun b3=>Zx 0 b3 (Xw x1) (ie (Zu 1 [0] (Zv [] (Z1n x1) (ie (ac ((x1.op==14)||(x1.op==15)) (p:=(x1.op=14)∨(x1.op=15)) (Yj Zq Zq) (fun Ze=>?_) (fun Ze=>?_))))))))
  ·refine az (ZO 2 [0] (UV [YL x1] (Zy [x1]) (VF [x1]).symm 1 5 fun v3=>ZT 0 [(27,WW [x1])] (ip 4 (Zy (rn++[x1])) (Zy rn) (Zy [x1]) u none 5 (Xu _) (Xu _) (U8 _) (by simp<;>omega) (by simp [WZ,Zy]) fun v4=>Z1 (az (Z0 1 (ZG k (Z1 ?_)))))))
   obtain ⟨⟨pa,hpa,hpr⟩,Yp,hpc⟩:=hfS.pair (by assumption)
   rw [Zg hpc,C7] at hdt
   exact ZF ⟨k+1,xs,v,(rn++[x1]),v4,_,ob,(by rw [hdt];exact Zh),(by rw [htk];simp only [YF,YR,Xx];omega),(by rw [hdt];exact XJ YS ⟨pa,hpa,hpr⟩),rfl,rfl,rfl⟩ (wk [3,3,0,2] (fw (ZI k fl)))
  refine ar (ZT 2 [(30,WW rn)] (ic [] (Px rn (hrn:=(fun s hs=>(YS s hs).elim fun a h=>⟨a,h.1⟩))) ?_))
  rintro _ _ ⟨D1,R1,v5,rfl,rfl,Y9⟩
  have hsr:=Y9
  have hq1:=Zh.run YS hsr.2.1 hsr.2.2
  have hl1:=Zh.len
  have htl1:=KU b.steps k
  refine ZT 0 [(31,WW (D1.map (Zz 14)++R1.map (Zz 15)))] (ip 5 (Zy (xs++(D1.map (Zz 14)++R1.map (Zz 15)))) (Zy xs) (Zy (D1.map (Zz 14)++R1.map (Zz 15))) v none 5 (Xu _) (Xu _) (U8 _) (by simp<;>omega) (by simp [WZ,Zy]) fun v6=>Z1 (ar (iL (Zy []) 0 5 fun v7=>Z1 (ar (iL (YN []) 0 2 fun v8=>?_)))))
  refine Z1 (Yd (ab 2 (ZW (fun fz gz m F h=>∃(j:Nat) (ks:List Z4) (w:Value) (v3:Value) (u4:Value),(j<=x1.kids.length)/\(ks.length=j)/\(KK ds nf (UX ds x1.op x1.num (mm+(X7 (b.steps.take k)))) ks (Xf (x1.kids.take j)))/\F=sF [1,2,5,6] fz [(3,YY (xs++(D1.map (Zz 14)++R1.map (Zz 15))) v3),(4,YY [] u4),(7,Tc ks w),(8,.i j)]/\h=[Zk gz 4,Zk gz 5,Zk gz 6,.tail u4 5,.tail v3 5,.tail w 2]/\m=x1.kids.length-j) _ _ _ ⟨0,[],v8,v6,v7,ob,ob,(KK.nil.le (TB _)),rfl,rfl,rfl⟩ (wk [4,4,4,1,1,0] (fw (fr (Y1 fl)))) ?_)))
  rintro m F h ⟨j,ks,w,v3,u4,Vo,Xs,XE,rfl,rfl,rfl⟩
  refine Yf 3 [0] (iw (Vp x1.kids) (ZZ ((j:Int)<(x1.kids.length:Int)) (fun ZB=>?_) (fun ZB=>?_)))
  ·refine ak (aq (ab 3 (az (ZO 4 [0] ?_))))
   obtain ⟨x2,Zo⟩:=Zt x1.kids j om
   have hkz:=Ub Zo
   have hfk:=Ew hfS.kids Zo
   rw [Vf] at hfk
   have hok:=DI.1 hoS.2 x2 (ZY Zo)
   have hbt:=FQ Zo
   refine Zl (Zi none (j:Int) 2 (VS Zo)) (Z0 1 (ic [] (ih x2 (UX ds x1.op x1.num (mm+(X7 (b.steps.take k))) j) hfk hok ob ob) ?_))
   rintro _ _ ⟨y1,rfl,rfl,Yp⟩
   have hkb:=Yp
   exact UV [ZK y1] (YN [y1]) (T7 [y1]).symm 1 2 fun v9=>ZT 0 [(49,XF [y1])] (ip 6 (YN (ks++[y1])) (YN ks) (YN [y1]) w none 2 (TW _) (TW _) (Gd _) (by simp<;>omega) (by simp [JX,YN]) fun v10=>Z1 (az (Z0 1 (ZG j (Z1 (ZF ⟨j+1,(ks++[y1]),v10,v3,u4,ob,ob,((XE.snoc Xs hkb).le om),rfl,rfl,rfl⟩ (wk [2,2,2,2,2,0] (fw (fr (ZI j fl))))))))))
  refine ax 2 (aE 15 (ZQ 5 15 [0,1,2,3,4,5,6,7,8,10] [0,0,0,0] (Z8 9 (dc 9 [] [0,0,0] [b3,b3,b3] (Uh x1.args) ?_))))
  rintro _ _ ⟨v11,rfl,rfl⟩
  refine Yz 3 4 [11] [(62,.agg [.i x1.op,.i x1.num,.i x1.into,Z6 x1.args,XF ks])] (Z8 12 (WP 12 [] [] [YL (Z5.mk x1.op x1.num x1.into x1.args ks)] (Zy [Z5.mk x1.op x1.num x1.into x1.args ks]) (VF [Z5.mk x1.op x1.num x1.into x1.args ks]).symm 1 5 fun v12=>Yz 2 2 [] [(63,WW [Z5.mk x1.op x1.num x1.into x1.args ks])] (Z8 13 (dp 13 6 [] [] (Zy ((xs++(D1.map (Zz 14)++R1.map (Zz 15)))++[Z5.mk x1.op x1.num x1.into x1.args ks])) (Zy (xs++(D1.map (Zz 14)++R1.map (Zz 15)))) (Zy [Z5.mk x1.op x1.num x1.into x1.args ks]) v3 none 5 (Xu _) (Xu _) (U8 _) (by simp<;>omega) (by simp [WZ,Zy]) fun v13=>Zm 0 1 [14] (de (az (Z0 1 (ZG k (Z1 ?_)))))))))
  obtain ⟨hn1,hn2⟩:=hfS.not_pair (by assumption) hoS.1
  rw [Z9 (by rw [hn2];simp)] at hdt
  have hbj:=Io (xs:=x1.kids) (k:=j) om
  have hkt:=KT.eq hfS hn1 om XE
  have hq2:=hq1.kt hkt
  exact ZF ⟨k+1,((xs++(D1.map (Zz 14)++R1.map (Zz 15)))++[Z5.mk x1.op x1.num x1.into x1.args ks]),v13,[],u4,_,ob,(by rw [hdt];exact hq2),(by rw [htk];simp only [Xx];omega),(fun s hs=>by cases hs),rfl,rfl,rfl⟩ (wk [4,4,4,0] (fw (ZI k fl)))
 have htl2:=KU b.steps k
 have hxl2:=Zh.len
 refine ax 0 (aD 8 (Dd 4 8 [0,1,4,5] [(66,WW rn)] [1] (Z8 2 (dc 2 [] [1] [b1] (Px rn (hrn:=(fun s hs=>(YS s hs).elim fun a h=>⟨a,h.1⟩))) ?_))))
 rintro _ _ ⟨D2,R2,v14,rfl,rfl,YV⟩
 have hsr:=YV
 have hq1:=Zh.run YS hsr.2.1 hsr.2.2
 have hl1:=Zh.len
 have htl1:=KU b.steps k
 exact Yz 3 3 [] [(67,WW (D2.map (Zz 14)++R2.map (Zz 15)))] (Z8 3 (dp 3 4 [1] [b1] (Zy (xs++(D2.map (Zz 14)++R2.map (Zz 15)))) (Zy xs) (Zy (D2.map (Zz 14)++R2.map (Zz 15))) v none 5 (Xu _) (Xu _) (U8 _) (by simp<;>omega) (by simp [WZ,Zy]) fun v15=>Zm 1 2 [6] (Z8 7 (YP 7 2 [] [] b2 [YY (xs++(D2.map (Zz 14)++R2.map (Zz 15))) v15,.i b.result] (de (ZL (r3 [] [.agg [YY (xs++(D2.map (Zz 14)++R2.map (Zz 15))) v15,.i b.result]] [0] [(b2,b2)] ⟨(Z4.mk (xs++(D2.map (Zz 14)++R2.map (Zz 15))) b.result),rfl,rfl,(by have e:b.steps.take k=b.steps:=WM om;rw [e] at Zw hq1;exact (hq1.block ⟨hr1,hr2⟩).le om)⟩ (Zd.agg (.cons (Zd.forget _ _) (.cons (lr _) .nil))))))))))
theorem Z8n (ds:List Zf) (nf:Nat) (b:Z4) (mm:Nat) (hf:fB ds nf mm b:=by exact ob) (hop:Vz VJ b:=by exact ob) (hz:b.sz<=100000000:=by exact ob):Zj 179 [ZK b] [] (fun r h=>∃(y:Z4),r=ZK y/\h=[]/\KB ds nf mm y b.sz):=by
 have key:∀k:Nat,∀(b2:Z4) (m2:Nat),(fB ds nf m2 b2)->(Vz VJ b2)->(b2.sz<=100000000)->(b2.sz<k)->Zj 179 [ZK b2] [] (fun r h=>∃(y:Z4),r=ZK y/\h=[]/\KB ds nf m2 y b2.sz):=by
  intro k
  induction k with
  | zero=>intro b2 m2 h1 h2 h3 h9;omega
  | succ k ih=>intro b2 m2 h1 h2 h3 h9;exact Z8o ds nf b2 m2 h1 h2 h3 fun b3 m3 q1 q2 q3 q9=>ih b3 m3 q1 q2 q3 om
 exact key (b.sz+1) b mm hf hop hz om
theorem Z8p (n:Zp) (qz:Nat) (hn:FO n qz VJ:=by exact ob) (hqz:qz<=10000000:=by exact ob):Zj 126 [Yh n] [] (fun r h=>∃(n2:Zp),r=Yh n2/\h=[]/\FO n2 qz VJ):=by
 have hnl:=hn.fn.len
 have XM:=hn.fn.decls.ok
 have hok:=hn.fn.ok
 refine ZC 36 Tryz.func126 (ar (iA (Yx n) fun b1=>iA [nl,nl] fun b2=>ie (Zu 2 [1] (Zv [] (BS n.decls) (iL (Yv []) 0 5 fun v1=>Z0 1 (iA [nl,nl] fun b3=>?_))))))
 refine Zx 0 b3 [Ye n.decls,Wu [] v1] (ie (Yd (ab 0 (ZW (fun fz gz m F h=>∃(k:Nat) (rs:List ZH) (u:Value),(k<=n.routines.length)/\(rs.length=k)/\(∀r∈rs,RF n.decls n.routines.length qz VJ r)/\F=sF [1,2,3] fz [(4,.i k)]/\h=[.obj b3 [Ye n.decls,Wu rs u],Zk gz 2,Zk gz 3,.tail u 5]/\m=n.routines.length-k) _ _ _ ⟨0,[],v1,ob,ob,(fun r hr=>by cases hr),rfl,rfl,rfl⟩ (wk [0,1,1,0] (Y1 fl)) ?_))))
 rintro m F h ⟨k,rs,u,Yg,Zh,Zw,rfl,rfl,rfl⟩
 refine Yf 3 [2] (iw (V4 n.routines) (ZZ ((k:Int)<(n.routines.length:Int)) (fun Zb=>?_) (fun Zb=>?_)))
 ·refine ak (aq (ab 1 (aE 19 (ZQ 14 19 [0,1,2,3,4] [0,2] ?_))))
  obtain ⟨x1,Z3⟩:=Zt n.routines k om
  have hrf:=hn.rf (ZY Z3)
  have hrp:(x1).params.length<=3:=(TD.bd (f:=⟨(x1).params,(x1).result,default⟩) hrf.sig).1
  have hrl:=hrf.lent.1
  have hrz:=hrf.body.2
  refine dx 5 (Zi none (k:Int) 5 (Wf Z3)) (ZQ 9 13 [6,7,8,9] [2] (dx 10 (Zi none (k:Int) 5 (Wf Z3)) (Zm 6 8 [11,12] (Z8 13 (dc 13 [] [2,0] [b1,b3] (Z8n n.decls n.routines.length x1.body _ (hf:=hrf.body.1) (hop:=hrf.op)) ?_)))))
  rintro _ _ ⟨y1,rfl,rfl,Y9⟩
  have hkb0:=Y9
  have hkb:=hkb0.le (z2:=qz) hrz
  exact Z8 14 (Yu 14 [] [0] [b3] (DV x1 y1 (hp:=om) (hl:=om)) (Z8 15 (dL 15 [0] [b3] (Yv [ZH.mk x1.params x1.lent x1.result y1]) 1 5 fun v2=>Yz 3 3 [] [(32,Q3 [ZH.mk x1.params x1.lent x1.result y1])] (Z8 16 (dp 16 4 [] [] (Yv (rs++[ZH.mk x1.params x1.lent x1.result y1])) (Yv rs) (Yv [ZH.mk x1.params x1.lent x1.result y1]) u none 5 (U7 _) (U7 _) (Jw _) (by simp<;>omega) (by simp [A1,Yv]) fun v3=>Zm 1 2 [17] (Z8 18 (YP 18 2 [] [] b3 [Ye n.decls,Wu (rs++[ZH.mk x1.params x1.lent x1.result y1]) v3] (de (az (Z0 1 (ZG k (Z1 (ZF ⟨k+1,(rs++[ZH.mk x1.params x1.lent x1.result y1]),v3,ob,ob,(XJ Zw (hrf.with hkb.fb hkb.sz hkb.op)),rfl,rfl,rfl⟩ (wk [0,2,2,0] (ZI k fl)))))))))))))))
 exact ax 0 (Zu 1 [0] (Zx 1 b2 [Ye n.decls,Wu rs u] (ie (ZL (r3 [] [.agg [Ye n.decls,Wu rs u]] [0] [(b2,b2)] ⟨(Zp.mk n.decls rs),rfl,rfl,(FO.fin hn.fn om Zw).1⟩ (Zd.agg (.cons (lr _) (.cons (Zd.forget _ _) .nil))))))))
theorem RQ (b:Nat) (ga:Hd) (gb:Hd) (gc:Hd) (gd:Hd) (ge:Hd) (gf:Hd) (n:Zp) (s:Z5) (L:ZP) (ln:LI) (q:Int) (i:Nat) (kb0:Z4) (m:LI) (hn:Xe n:=by exact ob) (hk:XO n.decls L q:=by exact ob) (hf:Cc n L.vars s:=by exact ob) (hop:s.op=7∨s.op=8:=by exact ob) (hkb:s.kids[i]? = some kb0:=by exact ob) (harm:(Xy n.decls s.op s.num)[i]? = some m:=by exact ob) (hbt:0<=Xb n (L.vars++m) kb0:=by exact ob) (hb:L.vars.length+4*s.sz<=1000000000:=by exact ob) (hq:0<=q/\q+4*s.sz<=999999990:=by exact ob) (hln:ln.length<=4294967296:=by exact ob) (ih:∀(b2:Z4) (c:Nat) (ra:Hd) (rb:Hd) (rc:Hd) (rd:Hd) (re:Hd) (rf:Hd) (M:ZP) (mm:Nat) (p:Int),(b2.sz<s.sz)->(XO n.decls M p)->(0<=Xb n M.vars b2)->(mm<=M.vars.length)->(M.vars.length+4*b2.sz<=1000000000)->(0<=p/\p+4*b2.sz<=999999990)->Zj 170 [.p c 0,Yh n,ZK b2,.i mm] [.obj c [.h ra,.h rb,.h rc,.h rd,.h re,.h rf,Z6 ln],rV ra M.vars,rV rb M.own,rV rc M.par,rV rd M.con,rV re M.fst,rV rf M.tok] (fun r h=>(∃(wa:Hd) (wb:Hd) (wc:Hd) (wd:Hd) (we:Hd) (wf:Hd) (M':ZP),r=.b true/\h=[.obj c [.h wa,.h wb,.h wc,.h wd,.h we,.h wf,Z6 ln],rV wa M'.vars,rV wb M'.own,rV wc M'.par,rV wd M'.con,rV we M'.fst,rV wf M'.tok]/\Ul n ln M mm b2=some M')∨(r=.b false/\h=[]/\Ul n ln M mm b2=none))):Zj 259 [.p b 0,Yh n,YL s,.i i] [.obj b [.h ga,.h gb,.h gc,.h gd,.h ge,.h gf,Z6 ln],rV ga L.vars,rV gb L.own,rV gc L.par,rV gd L.con,rV ge L.fst,rV gf L.tok] (fun r h=>(∃(c:Nat) (wa:Hd) (wb:Hd) (wc:Hd) (wd:Hd) (we:Hd) (wf:Hd) (L':ZP),r=.tup [.p c 0,.b true]/\h=[.obj c [.h wa,.h wb,.h wc,.h wd,.h we,.h wf,Z6 ln],rV wa L'.vars,rV wb L'.own,rV wc L'.par,rV wd L'.con,rV we L'.fst,rV wf L'.tok,.obj b [.h ga,.h gb,.h gc,.h gd,.h ge,.h gf,Z6 ln],rV ga L.vars,rV gb L.own,rV gc L.par,rV gd L.con,rV ge L.fst,rV gf L.tok]/\Ul n ln (Q1 n.decls L s.op s.num s.args i) L.vars.length kb0=some L')∨(r=.tup [.any,.b false]/\h=[.obj b [.h ga,.h gb,.h gc,.h gd,.h ge,.h gf,Z6 ln],rV ga L.vars,rV gb L.own,rV gc L.par,rV gd L.con,rV ge L.fst,rV gf L.tok]/\Ul n ln (Q1 n.decls L s.op s.num s.args i) L.vars.length kb0=none)):=by
 obtain ⟨e1,e2,e3,e4,e5⟩:=hk.len
 have XM:=hn.decls
 have hkz:=Uc s
 have haz:=TS s
 have hK:=H4 hk hq.1 hf hop harm
 have hm3:=Ny XM harm
 have hkl:=(Xj.1 hkb).1
 have hks:=Ub hkb
 refine ZC 83 Tryz.func259 (ar (iA (Yx n) fun b1=>iA (Xw s) fun b2=>Z1 (Zu 4 [2] (Zl (Bb 3 ga L.vars) (Z1 (Yb 1 (ic [2,2,2,2,2,2,2] (Ze0 b ga gb gc gd ge gf L ln (hlk:=hk.len)) ?_)))))))
 rintro _ _ ⟨c1,wa1,wb1,wc1,wd1,we1,wf1,rfl,rfl⟩
 refine Z1 (Xc (U2 [14] (ac (s.op==8) Zq (fun Zb=>?_) (fun Zb=>?_))))
 ·obtain ⟨x,hxa⟩:=hf.one om
  have ha:s.args[0]? = some x:=by rw [hxa];rfl
  have hx:=hf.args x (by rw [hxa];simp)
  obtain ⟨cc,hcc,hmc⟩:=Z48 Zb harm
  have hal:=(Xj.1 ha).1
  have hcl:=(Xj.1 hcc).1
  have hm4:=hm3
  rw [hmc] at hm4
  refine Zu 4 [15,14] (ic [] (Ai n.decls s.num) ?_)
  rintro _ _ ⟨v1,rfl,rfl⟩
  refine Z0 1 (Zl (Zi (some v1) (i:Int) 1 (Y5 hcc)) (Z1 (Zu 3 [16] (Zv [] (KP n.decls cc) (Z1 (aD 11 (ZQ 5 11 [0,1,2,3,4,5] [1,15] (dx 6 (Zi none 0 1 (Y5 ha)) (Zm 2 4 [7,8] (dx 9 (Ui 5 wd1 L.con x x.toNat (hq:=rfl)) (Z8 10 (Bv 10 5 [] [] wd1 L.con x.toNat cc (de (aD 11 (ZQ 5 11 [0,1,2,3,4,5] [2,15] (dx 6 (Zi none 0 1 (Y5 ha)) (Zm 2 4 [7,8] (dx 9 (Ui 6 we1 L.fst x x.toNat (hq:=rfl)) (Z8 10 (Bv 10 6 [] [] we1 L.fst x.toNat (L.vars.length:Int) (de (ZJ (ab 0 (ZW (fun fz gz m F h=>∃(k:Nat) (L3:ZP) (ka:Hd) (kb:Hd) (kc:Hd) (kd:Hd) (ke:Hd) (kf:Hd),(k<=(Y2 n.decls cc).length)/\(TC L3)/\(L3.vars.length=L.vars.length+k)/\(Cv L3 x ((Y2 n.decls cc).drop k)=Cg n.decls L x cc)/\F=sF [3,5,6,10,11,13] fz [(14,.i k)]/\h=[.obj c1 [.h ka,.h kb,.h kc,.h kd,.h ke,.h kf,Z6 ln],Zk gz 8,Zk gz 9,Zk gz 10,Zk gz 11,Zk gz 12,Zk gz 13,Zk gz 14,Zk gz 15,Zk gz 16,rV ka L3.vars,rV kb L3.own,rV kc L3.par,rV kd L3.con,rV ke L3.fst,rV kf L3.tok]/\m=(Y2 n.decls cc).length-k) _ _ _ ⟨0,(ZP.mk L.vars L.own L.par (L.con.set x.toNat cc) (L.fst.set x.toNat (L.vars.length:Int)) L.tok),wa1,wb1,wc1,wd1,we1,wf1,ob,(TC.arm hk.len),ob,(by rw [Cg];rfl),rfl,rfl,rfl⟩ (wk [3,7,7,7,7,7,7,7,7,7,3,3,3,1,0,1] (Y1 fl) (e:=(rc (rc (rc (rc (rc (rc (rc (rc (rc (rc (rv (xs:=L.vars) ob (rv (xs:=L.own) ob (rv (xs:=L.par) ob (rv (xs:=(L.con.set x.toNat cc)) ob (rv (xs:=(L.fst.set x.toNat (L.vars.length:Int))) ob (rv (xs:=L.tok) ob rz)))))))))))))))))) ?_))))))))))))))))))))))))
  rintro m F h ⟨k,L3,ka,kb,kc,kd,ke,kf,Yg,Zh,Zw,YS,rfl,rfl,rfl⟩
  refine YU 2 (io (.i (((Y2 n.decls cc).length:Nat):Int)) (.i (((Z7 (Y2 n.decls cc)).length:Nat):Int)) (li (by rw [Yo])) (ZZ ((k:Int)<(((Y2 n.decls cc).length:Nat):Int)) (fun Ze=>?_) (fun Ze=>?_)))
  ·refine ak (aq (ab 1 (aE 10 (Zm 7 10 [0,1,2] ?_))))
   obtain ⟨x1,Z3⟩:=Zt (Y2 n.decls cc) k om
   refine dx 3 (Zi none (k:Int) 1 (Y5 Z3)) (ZQ 3 6 [4,5,6] [8] (dx 7 (Zi none 0 1 (Y5 ha)) (Zm 1 2 [8] (Z8 9 (dc 9 [0,9,9,9,9,9,9] [] [] (KL c1 ka kb kc kd ke kf L3 ln x1 0 x (hlk:=Zh)) ?_)))))
   rintro _ _ ⟨wa2,wb2,wc2,wd2,we2,wf2,rfl⟩
   exact de (az (Z0 1 (ZG k (Z1 (ZF ⟨k+1,(L3.grow x1 0 x),wa2,wb2,wc2,wd2,we2,wf2,ob,(TC.grow Zh),(by simp [ZP.grow];omega),(by rw [Y6 Z3,Cv] at YS;exact YS),rfl,rfl,rfl⟩ (wk [0,6,6,6,6,6,6,6,6,6,0,0,0,0,0,0] (ZI k fl)))))))
  have hE:Q1 n.decls L s.op s.num s.args i=L3:=by rw [Zd9 Zb ha hcc,<-YS,Xg om];rfl
  refine ax 0 (aD 12 (ZQ 6 12 [0,1,2,3,4,5] [9,8] (dx 6 (Zi none (i:Int) 2 (VS hkb)) (Zm 3 5 [7,8] (Z8 9 (dc 9 [0,9,9,9,9,9,9] [] [] (ih kb0 c1 ka kb kc kd ke kf L3 L.vars.length q ob (by rw [<-hE];exact hK.1) (by rw [<-hE,hK.2];exact hbt) (by rw [<-hE,hK.2];simp) (by rw [<-hE,hK.2,YF];omega) ob) ?_))))))
  rintro _ _ (⟨wa3,wb3,wc3,wd3,we3,wf3,M'1,rfl,rfl,Y9⟩|⟨rfl,rfl,Yp⟩)
  ·exact Zm 0 2 [10,11] (de (ZL (r2 [0,0,0,0,0,0,0,0,0,0,0,0,0,0] [.p c1 0,.b true] (.inl ⟨c1,wa3,wb3,wc3,wd3,we3,wf3,M'1,rfl,rfl,(by rw [hE];exact Y9)⟩) (lr _))))
  exact Zm 0 2 [10,11] (de (ZL (r2 [0,0,0,0,0,0,0] [.p c1 0,.b false] (.inr ⟨rfl,rfl,(by rw [hE];exact Yp)⟩) (Zd.tup (.cons (Zd.any _) (.cons (lr _) .nil))))))
 have hE:=Zda (ds:=n.decls) (L:=L) (num:=s.num) (args:=s.args) (i:=i) Zb
 refine ak (aD 12 (ZQ 6 12 [0,1,2,3,4,5] [15,14] (dx 6 (Zi none (i:Int) 2 (VS hkb)) (Zm 3 5 [7,8] (Z8 9 (dc 9 [0,0,0,0,0,0,0] [] [] (ih kb0 c1 wa1 wb1 wc1 wd1 we1 wf1 L L.vars.length q ob (by rw [<-hE];exact hK.1) (by rw [<-hE,hK.2];exact hbt) (by rw [<-hE,hK.2];simp) (by rw [<-hE,hK.2,YF];omega) ob) ?_))))))
 rintro _ _ (⟨wa4,wb4,wc4,wd4,we4,wf4,M'2,rfl,rfl,YV⟩|⟨rfl,rfl,X6⟩)
 ·exact Zm 0 2 [10,11] (de (ZL (r2 [0,0,0,0,0,0,0,0,0,0,0,0,0,0] [.p c1 0,.b true] (.inl ⟨c1,wa4,wb4,wc4,wd4,we4,wf4,M'2,rfl,rfl,(by rw [hE];exact YV)⟩) (lr _))))
 exact Zm 0 2 [10,11] (de (ZL (r2 [0,0,0,0,0,0,0] [.p c1 0,.b false] (.inr ⟨rfl,rfl,(by rw [hE];exact X6)⟩) (Zd.tup (.cons (Zd.any _) (.cons (lr _) .nil))))))
theorem Zdz (b:Nat) (ga:Hd) (gb:Hd) (gc:Hd) (gd:Hd) (ge:Hd) (gf:Hd) (n:Zp) (s:Z5) (L:ZP) (ln:LI) (q:Int) (hn:Xe n:=by exact ob) (hk:XO n.decls L q:=by exact ob) (hf:Cc n L.vars s:=by exact ob) (hop:s.op=7∨s.op=8:=by exact ob) (hb:L.vars.length+4*s.sz<=1000000000:=by exact ob) (hq:0<=q/\q+4*s.sz<=999999990:=by exact ob) (hln:ln.length<=4294967296:=by exact ob) (ih:∀(b2:Z4) (c:Nat) (ra:Hd) (rb:Hd) (rc:Hd) (rd:Hd) (re:Hd) (rf:Hd) (M:ZP) (mm:Nat) (p:Int),(b2.sz<s.sz)->(XO n.decls M p)->(0<=Xb n M.vars b2)->(mm<=M.vars.length)->(M.vars.length+4*b2.sz<=1000000000)->(0<=p/\p+4*b2.sz<=999999990)->Zj 170 [.p c 0,Yh n,ZK b2,.i mm] [.obj c [.h ra,.h rb,.h rc,.h rd,.h re,.h rf,Z6 ln],rV ra M.vars,rV rb M.own,rV rc M.par,rV rd M.con,rV re M.fst,rV rf M.tok] (fun r h=>(∃(wa:Hd) (wb:Hd) (wc:Hd) (wd:Hd) (we:Hd) (wf:Hd) (M':ZP),r=.b true/\h=[.obj c [.h wa,.h wb,.h wc,.h wd,.h we,.h wf,Z6 ln],rV wa M'.vars,rV wb M'.own,rV wc M'.par,rV wd M'.con,rV we M'.fst,rV wf M'.tok]/\Ul n ln M mm b2=some M')∨(r=.b false/\h=[]/\Ul n ln M mm b2=none))):Zj 209 [.p b 0,Yh n,YL s] [.obj b [.h ga,.h gb,.h gc,.h gd,.h ge,.h gf,Z6 ln],rV ga L.vars,rV gb L.own,rV gc L.par,rV gd L.con,rV ge L.fst,rV gf L.tok] (fun r h=>(∃(wa:Hd) (wb:Hd) (wc:Hd) (wd:Hd) (we:Hd) (wf:Hd) (L':ZP),r=.b true/\h=[.obj b [.h wa,.h wb,.h wc,.h wd,.h we,.h wf,Z6 ln],rV wa L'.vars,rV wb L'.own,rV wc L'.par,rV wd L'.con,rV we L'.fst,rV wf L'.tok]/\Cj n ln L s=some L')∨(r=.b false/\h=[]/\Cj n ln L s=none)):=by
 obtain ⟨e1,e2,e3,e4,e5⟩:=hk.len
 have XM:=hn.decls
 have hkz:=Uc s
 have haz:=TS s
 obtain ⟨hk1,hk2,hk3⟩:=hf.kids hop
 obtain ⟨kd,hkd⟩:=Zt s.kids 0 om
 obtain ⟨m0,hm0⟩:=Zt (Xy n.decls s.op s.num) 0 om
 obtain ⟨x,hxa⟩:=hf.one om
 have ha:s.args[0]? = some x:=by rw [hxa];rfl
 have hx:=hf.args x (by rw [hxa];simp)
 have hgx:=AP ha
 have hal:=(Xj.1 ha).1
 refine ZC 88 Tryz.func209 (ar (iA (Yx n) fun b1=>iA (Xw s) fun b2=>Z1 (Xc (Xt [0,4,5] [(23,.b ((s.op==8)&&(!UO L ln x)))] (fun gz=>[Zk gz 2,Zk gz 3,Zk gz 4,Zk gz 5,Zk gz 6,Zk gz 7,Zk gz 8,Zk gz 0,Zk gz 1]) ?_ ?_))))
 ·refine ZO 4 [0] (ib (b:=(s.op==8)) 15 (fun Zc=>?_) (fun Zc=>?_))
  ·exact ZO 3 [0] (Zl (Zi none 0 1 (Y5 ha)) (Z0 1 (Zv [2,2,2,2,2,2,2] (Ha b ga gb gc gd ge gf L ln x (hlk:=hk.len) (hd:=hk.down)) (Z1 (ZE 9 (Zs (!UO L ln x) Zc fl))))))
  exact Z1 (wk [2,2,2,2,2,2,2,0,0] (Zs false Zc fl))
 refine ac ((s.op==8)&&(!UO L ln x)) (p:=(s.op=8)/\(¬(UO L ln x=true))) (YA Zq (Yq Iff.rfl)) (fun Zb=>?_) (fun Zb=>?_)
 ·exact ar (Zr (r1 [] (.inr ⟨rfl,rfl,(by rw [Cj,Zg (by rw [hgx];exact Zb)])⟩)))
 have hgo:=Z4z (n:=n) (ln:=ln) (L:=L) (s:=s) (by rw [hgx];exact Zb) hkd
 refine ak (Zu 3 [8,7] (ic [0,0,0,0,0,0,0] (RQ b ga gb gc gd ge gf n s L ln q 0 kd m0 (hkb:=hkd) (harm:=hm0) (hbt:=(hk3 0 kd m0 hkd hm0)) (ih:=ob)) ?_))
 rintro _ _ (⟨c1,wa1,wb1,wc1,wd1,we1,wf1,L'1,rfl,rfl,YV⟩|⟨rfl,rfl,X6⟩)
 ·have hone:=YV
  obtain ⟨l1,l2⟩:=Rw hn hk hq.1 hf hop hkd hm0 (hk3 0 kd m0 hkd hm0) hone
  refine Z1 (Yd (V3 (ak (Yd (ab 0 (ZW (fun fz gz m F h=>∃(k:Nat),(1<=k/\k<=s.kids.length)/\(JB n ln L s.op s.num s.args L'1 (s.kids.drop k) k=JB n ln L s.op s.num s.args L'1 (s.kids.drop 1) 1)/\F=sF [0,4,5,7] fz [(9,.i k)]/\h=gz/\m=s.kids.length-k) _ _ _ ⟨1,ob,ob,rfl,rfl,rfl⟩ (ZE 16 (fc (x:=.i 1) li fl)) ?_))))))
  rintro m F h ⟨k,Yg,Zh,rfl,rfl,rfl⟩
  refine Yf 3 [14] (iw (Vp s.kids) (ZZ ((k:Int)<(s.kids.length:Int)) (fun Ze=>?_) (fun Ze=>?_)))
  ·obtain ⟨ke,hke⟩:=Zt s.kids k om
   obtain ⟨mk,hmk⟩:=Zt (Xy n.decls s.op s.num) k om
   have hcs:=Zdf (n:=n) (ln:=ln) (L:=L) (op:=s.op) (num:=s.num) (args:=s.args) (one:=L'1) hke
   refine ak (aq (ab 1 (Zu 4 [15,14] (ic [7,7,7,7,7,7,7] (RQ b ga gb gc gd ge gf n s L ln q k ke mk (hkb:=hke) (harm:=hmk) (hbt:=(hk3 k ke mk hke hmk)) (ih:=ob)) ?_))))
   rintro _ _ (⟨c2,wa2,wb2,wc2,wd2,we2,wf2,L'2,rfl,rfl,Xq⟩|⟨rfl,rfl,W7⟩)
   ·have htwo:=Xq
    obtain ⟨l3,l4⟩:=Rw hn hk hq.1 hf hop hke hmk (hk3 k ke mk hke hmk) htwo
    refine Z1 (aD 26 (ZQ 15 26 [0,1,2,3,4,5,6,7,8,9,10] [14,0] (Z8 11 (JV 11 [16,2] [] [] [rV wb1 L'1.own,rV wb2 L'2.own] (Z1p L'1.own L'2.own) FX (gL (v:=wb1) 0 (gL (v:=wb2) 1 gN)) (Jc (Jc Ab)) ?_))))
    rintro _ _ ⟨rfl,rfl⟩
    refine AB [0,4,5,7,9] [(73,.b ((!(decide (L'1.own=L'2.own)))||(!(decide (L'1.tok=L'2.tok)))))] (fun gz=>gz) ?_ ?_
    ·refine Zm 11 14 [12,13,14] (db (b:=(!(decide (L'1.own=L'2.own)))) 62 (fun ZA=>?_) (fun ZA=>?_))
     ·exact Zm 0 11 [15,16,17,18,19,20,21,22,23,24,25] (de (ZE 23 (Zs true ZA fl)))
     refine ZQ 3 11 [15,16,17,18,19,20,21,22] [15,2] (Z8 23 (JV 23 [20,7] [] [] [rV wf1 L'1.tok,rV wf2 L'2.tok] (Z1p L'1.tok L'2.tok) FX (gL (v:=wf1) 0 (gL (v:=wf2) 1 gN)) (Jc (Jc Ab)) ?_))
     rintro _ _ ⟨rfl,rfl⟩
     exact Zm 0 2 [24,25] (de (wk [2,2,2,2,2,2,2,1,1,1,1,1,1,1,1,1,1,1,1,1,0,0,0] (Zs (!(decide (L'1.tok=L'2.tok))) ZA fl)))
    refine ac ((!(decide (L'1.own=L'2.own)))||(!(decide (L'1.tok=L'2.tok)))) (p:=(¬(L'1.own=L'2.own))∨(¬(L'1.tok=L'2.tok))) (Yj (Yq dq) (Yq dq)) (fun ZB=>?_) (fun ZB=>?_)
    ·exact ar (Zr (r1 [] (.inr ⟨rfl,rfl,(by rw [hgo,hone];exact S5 (by rw [<-Zh,hcs,htwo];exact Zho ZB))⟩)))
    exact ak (az (Z0 1 (ZG k (Z1 (ZF ⟨k+1,ob,(by rw [hcs,htwo,Zhp ZB] at Zh;exact Zh),rfl,rfl,rfl⟩ (wk [15,15,0,14,14,14,14,7,7,7,7,7,7,7,7,7] (ZI k fl)))))))
   have htwo:=W7
   exact Z1 (aD 26 (Zm 0 26 [0,1,2,3,4,5,6,7,8,9,10,11,12,13,14,15,16,17,18,19,20,21,22,23,24,25] (de (V9 (ar (Zr (r1 [] (.inr ⟨rfl,rfl,(by rw [hgo,hone];exact S5 (by rw [<-Zh,hcs,htwo];rfl))⟩))))))))
  have hE:JB n ln L s.op s.num s.args L'1 (s.kids.drop 1) 1=true:=by rw [<-Zh,Xg om,JB]
  exact ax 0 (Zu 7 [0] (Zx 7 b [.h ga,.h wb1,.h gc,.h gd,.h ge,.h gf,Z6 ln] (ie (Zu 7 [1] (Zx 0 b [.h ga,.h wb1,.h gc,.h gd,.h ge,.h wf1,Z6 ln] (ie (ar (Zr (r1 [0,7,2,7,7,7,5] (.inl ⟨ga,wb1,gc,gd,ge,wf1,(ZP.mk L.vars L'1.own L.par L.con L.fst L'1.tok),rfl,rfl,(by rw [hgo,hone];exact Zek hE)⟩) (eq:=(rc (rv (xs:=L.vars) ob (rv (xs:=L'1.own) ob (rv (xs:=L.par) ob (rv (xs:=L.con) ob (rv (xs:=L.fst) ob (rv (xs:=L'1.tok) ob rz)))))))))))))))))
 have hone:=X6
 exact Z1 (Yd (V9 (ar (Zr (r1 [] (.inr ⟨rfl,rfl,(by rw [hgo,hone];rfl)⟩))))))
theorem RR (b:Nat) (ga:Hd) (gb:Hd) (gc:Hd) (gd:Hd) (ge:Hd) (gf:Hd) (n:Zp) (s:Z5) (L:ZP) (ln:LI) (q:Int) (hn:Xe n:=by exact ob) (hk:XO n.decls L q:=by exact ob) (ht:0<=Ym n L.vars s:=by exact ob) (hb:L.vars.length+4*s.sz<=1000000000:=by exact ob) (hq:0<=q/\q+4*s.sz<=999999990:=by exact ob) (hln:ln.length<=4294967296:=by exact ob) (ih:∀(b2:Z4) (c:Nat) (ra:Hd) (rb:Hd) (rc:Hd) (rd:Hd) (re:Hd) (rf:Hd) (M:ZP) (mm:Nat) (p:Int),(b2.sz<s.sz)->(XO n.decls M p)->(0<=Xb n M.vars b2)->(mm<=M.vars.length)->(M.vars.length+4*b2.sz<=1000000000)->(0<=p/\p+4*b2.sz<=999999990)->Zj 170 [.p c 0,Yh n,ZK b2,.i mm] [.obj c [.h ra,.h rb,.h rc,.h rd,.h re,.h rf,Z6 ln],rV ra M.vars,rV rb M.own,rV rc M.par,rV rd M.con,rV re M.fst,rV rf M.tok] (fun r h=>(∃(wa:Hd) (wb:Hd) (wc:Hd) (wd:Hd) (we:Hd) (wf:Hd) (M':ZP),r=.b true/\h=[.obj c [.h wa,.h wb,.h wc,.h wd,.h we,.h wf,Z6 ln],rV wa M'.vars,rV wb M'.own,rV wc M'.par,rV wd M'.con,rV we M'.fst,rV wf M'.tok]/\Ul n ln M mm b2=some M')∨(r=.b false/\h=[]/\Ul n ln M mm b2=none))):Zj 151 [.p b 0,Yh n,YL s] [.obj b [.h ga,.h gb,.h gc,.h gd,.h ge,.h gf,Z6 ln],rV ga L.vars,rV gb L.own,rV gc L.par,rV gd L.con,rV ge L.fst,rV gf L.tok] (fun r h=>(∃(wa:Hd) (wb:Hd) (wc:Hd) (wd:Hd) (we:Hd) (wf:Hd) (L':ZP),r=.b true/\h=[.obj b [.h wa,.h wb,.h wc,.h wd,.h we,.h wf,Z6 ln],rV wa L'.vars,rV wb L'.own,rV wc L'.par,rV wd L'.con,rV we L'.fst,rV wf L'.tok]/\QY n ln L s=some L')∨(r=.b false/\h=[]/\QY n ln L s=none)):=by
 obtain ⟨e1,e2,e3,e4,e5⟩:=hk.len
 have XM:=hn.decls
 have hkz:=Uc s
 have haz:=TS s
 have hf:=MR ht
 refine ZC 89 Tryz.func151 (ar (iA (Yx n) fun b1=>iA (Xw s) fun b2=>Z1 (aD 8 (ZQ 2 8 [0,1,2,3,4,5] [1,2,0] (Z8 6 (JV 6 [3] [] [] [rV ga L.vars] (MN n L.vars s ob ob) FX (gS (gL (v:=ga) 0 (gS gN))) (Jc Ab) ?_))))))
 rintro _ _ ⟨rfl,rfl⟩
 refine Zm 0 1 [7] (de (ZJ (Xc (U2 [1] (ab 0 (ar (YJ (s.op==14) Zq (fun Zb=>?_) (fun Zb=>?_))))))))
 ·obtain ⟨x,hxa⟩:=hf.one om
  have ha:s.args[0]? = some x:=by rw [hxa];rfl
  have hx:=hf.args x (by rw [hxa];simp)
  have hgx:=AP ha
  have hal:=(Xj.1 ha).1
  obtain ⟨xo,hxo⟩:=Zt L.own x.toNat om
  have hgo:=TY hxo
  have hob:=hk.bd xo (ZY hxo)
  have hon:=hk.nn xo (ZY hxo)
  refine Zu 3 [1] (Zl (Zi none 0 1 (Y5 ha)) (Z0 1 (Zv [3,0,2,2,2,2,2] (Ha b ga gb gc gd ge gf L ln x (hlk:=hk.len) (hd:=hk.down)) (Z1 (aE 21 (ZQ 15 21 [0,1,2,3,4,5] [0,7] (dx 6 (Zi none 0 1 (Y5 ha)) (ZQ 7 14 [7,8,9,10,11,12,13] [0,7] (dx 14 (Zi none 0 1 (Y5 ha)) (Zm 5 6 [15] (dx 16 (Ui 2 gb L.own x x.toNat (hq:=rfl)) (U5 17 (QJ 2 gb L.own x.toNat xo hxo) (da 18 ((xo+1)) ((xo)+(1)) (dx 19 (Ui 2 gb L.own x x.toNat (hq:=rfl)) (Z8 20 (Bv 20 2 [] [] gb L.own x.toNat (xo+1) (de (Xc (YJ (!UO L ln x) (p:=¬(UO L ln x=true)) (Yq Iff.rfl) (fun Ze=>?_) (fun Ze=>?_))))))))))))))))))))
  ·have hP:=(SB (n:=n) (ln:=ln) (L:=L) Zb hgx).trans (Z6x Ze)
   exact ar (Zr (r1 [] (.inr ⟨rfl,rfl,(by rw [Tx,hP];first|rfl|exact To (by assumption)|exact Tp (by assumption) (by assumption)|exact Tq (by assumption))⟩)))
  have hP:=(SB (n:=n) (ln:=ln) (L:=L) Zb hgx).trans (Z6y Ze hgo)
  obtain ⟨kx,hxv⟩:=Ff hn hk hq.1 hf hP
  refine ak (Yf 2 [7] (Zv [] (Jh s.op) (Xt [0,5,7] [(80,.b (Wc s.op&&((Ym n L.vars s) != 0)))] (fun gz=>gz) ?_ ?_)))
  ·refine Z0 1 (ib (b:=Wc s.op) 77 (fun Zc=>?_) (fun Zc=>?_))
   ·exact Z1 (ZE 9 (Zs ((Ym n L.vars s) != 0) Zc fl))
   exact Z1 (ZE 9 (Zs false Zc fl))
  refine ac (Wc s.op&&((Ym n L.vars s) != 0)) (p:=(Wc s.op=true)/\((Ym n L.vars s)≠0)) (YA Iff.rfl Yc) (fun ZB=>?_) (fun ZB=>?_)
  ·refine az (Z0 2 (ic [1,1,0,0,0,0,0] (KL b ga gb gc gd ge gf (ZP.mk L.vars (L.own.set x.toNat (xo+1)) L.par L.con L.fst L.tok) ln (Ym n L.vars s) 1 (-1) (hlb:=(by rw [hxv];omega)) (hlk:=kx.len)) ?_))
   rintro _ _ ⟨wa1,wb1,wc1,wd1,we1,wf1,rfl⟩
   exact ie (ar (Zr (r1 [0,0,0,0,0,0,0] (.inl ⟨wa1,wb1,wc1,wd1,we1,wf1,((ZP.mk L.vars (L.own.set x.toNat (xo+1)) L.par L.con L.fst L.tok).grow (Ym n L.vars s) 1 (-1)),rfl,rfl,(by rw [Tx,hP];first|rfl|exact To (by assumption)|exact Tp (by assumption) (by assumption)|exact Tq (by assumption))⟩))))
  refine Zu 2 [7] (Zv [] (Jh s.op) (ie (ac (Wc s.op) Iff.rfl (fun Yk=>?_) (fun Yk=>?_))))
  ·refine az (Z0 1 (ic [1,1,0,0,0,0,0] (KL b ga gb gc gd ge gf (ZP.mk L.vars (L.own.set x.toNat (xo+1)) L.par L.con L.fst L.tok) ln 0 0 (-1) (hlb:=(by rw [hxv];omega)) (hlk:=kx.len)) ?_))
   rintro _ _ ⟨wa2,wb2,wc2,wd2,we2,wf2,rfl⟩
   exact ie (ar (Zr (r1 [0,0,0,0,0,0,0] (.inl ⟨wa2,wb2,wc2,wd2,we2,wf2,((ZP.mk L.vars (L.own.set x.toNat (xo+1)) L.par L.con L.fst L.tok).grow 0 0 (-1)),rfl,rfl,(by rw [Tx,hP];first|rfl|exact To (by assumption)|exact Tp (by assumption) (by assumption)|exact Tq (by assumption))⟩))))
  exact ak (ar (Zr (r1 [1,1,0,0,0,0,0] (.inl ⟨ga,gb,gc,gd,ge,gf,(ZP.mk L.vars (L.own.set x.toNat (xo+1)) L.par L.con L.fst L.tok),rfl,rfl,(by rw [Tx,hP];first|rfl|exact To (by assumption)|exact Tp (by assumption) (by assumption)|exact Tq (by assumption))⟩) (eq:=(rc (rv (xs:=L.vars) ob (rv (xs:=(L.own.set x.toNat (xo+1))) ob (rv (xs:=L.par) ob (rv (xs:=L.con) ob (rv (xs:=L.fst) ob (rv (xs:=L.tok) ob rz)))))))))))
 refine ar (YJ (s.op==15) Zq (fun Xo=>?_) (fun Xo=>?_))
 ·obtain ⟨x,hxa⟩:=hf.one om
  have ha:s.args[0]? = some x:=by rw [hxa];rfl
  have hx:=hf.args x (by rw [hxa];simp)
  have hgx:=AP ha
  have hal:=(Xj.1 ha).1
  refine az (ZO 3 [1] (Zl (Zi none 0 1 (Y5 ha)) (Z0 1 (ic [3,0,2,2,2,2,2] (Hb b ga gb gc gd ge gf L ln x (hlk:=hk.len) (hq:=(fun y hy=>⟨hk.nn y hy,by have:=hk.bd y hy;omega⟩))) ?_))))
  rintro _ _ (⟨wa3,wb3,wc3,wd3,we3,wf3,L'1,rfl,rfl,YV⟩|⟨rfl,rfl,X6⟩)
  ·have hP:=(SD (n:=n) (ln:=ln) (L:=L) Xo hgx).trans (YV)
   obtain ⟨kx,hxv⟩:=Ff hn hk hq.1 hf hP
   refine Z1 (Yd (V3 (ak (Yf 2 [7] (Zv [] (Jh s.op) (Xt [0,5,7] [(80,.b (Wc s.op&&((Ym n L.vars s) != 0)))] (fun gz=>gz) ?_ ?_))))))
   ·refine Z0 1 (ib (b:=Wc s.op) 77 (fun ZA=>?_) (fun ZA=>?_))
    ·exact Z1 (ZE 9 (Zs ((Ym n L.vars s) != 0) ZA fl))
    exact Z1 (ZE 9 (Zs false ZA fl))
   refine ac (Wc s.op&&((Ym n L.vars s) != 0)) (p:=(Wc s.op=true)/\((Ym n L.vars s)≠0)) (YA Iff.rfl Yc) (fun Xh=>?_) (fun Xh=>?_)
   ·refine az (Z0 2 (ic [0,0,0,0,0,0,0] (KL b wa3 wb3 wc3 wd3 we3 wf3 L'1 ln (Ym n L.vars s) 1 (-1) (hlb:=(by rw [hxv];omega)) (hlk:=kx.len)) ?_))
    rintro _ _ ⟨wa4,wb4,wc4,wd4,we4,wf4,rfl⟩
    exact ie (ar (Zr (r1 [0,0,0,0,0,0,0] (.inl ⟨wa4,wb4,wc4,wd4,we4,wf4,(L'1.grow (Ym n L.vars s) 1 (-1)),rfl,rfl,(by rw [Tx,hP];first|rfl|exact To (by assumption)|exact Tp (by assumption) (by assumption)|exact Tq (by assumption))⟩))))
   refine Zu 2 [7] (Zv [] (Jh s.op) (ie (ac (Wc s.op) Iff.rfl (fun VU=>?_) (fun VU=>?_))))
   ·refine az (Z0 1 (ic [0,0,0,0,0,0,0] (KL b wa3 wb3 wc3 wd3 we3 wf3 L'1 ln 0 0 (-1) (hlb:=(by rw [hxv];omega)) (hlk:=kx.len)) ?_))
    rintro _ _ ⟨wa5,wb5,wc5,wd5,we5,wf5,rfl⟩
    exact ie (ar (Zr (r1 [0,0,0,0,0,0,0] (.inl ⟨wa5,wb5,wc5,wd5,we5,wf5,(L'1.grow 0 0 (-1)),rfl,rfl,(by rw [Tx,hP];first|rfl|exact To (by assumption)|exact Tp (by assumption) (by assumption)|exact Tq (by assumption))⟩))))
   exact ak (ar (Zr (r1 [0,0,0,0,0,0,0] (.inl ⟨wa3,wb3,wc3,wd3,we3,wf3,L'1,rfl,rfl,(by rw [Tx,hP];first|rfl|exact To (by assumption)|exact Tp (by assumption) (by assumption)|exact Tq (by assumption))⟩))))
  have hP:=(SD (n:=n) (ln:=ln) (L:=L) Xo hgx).trans (X6)
  exact Z1 (Yd (V9 (ar (Zr (r1 [] (.inr ⟨rfl,rfl,(by rw [Tx,hP];first|rfl|exact To (by assumption)|exact Tp (by assumption) (by assumption)|exact Tq (by assumption))⟩))))))
 refine Yd (W5 (fun fz gz F h=>F=sF [0,4,5,7,17] fz [(58,.b ((s.op==16)||(s.op==17)))]/\h=gz) ?_ ?_)
 ·refine ac (s.op==16) Zq (fun VK=>?_) (fun VK=>?_)
  ·exact ak (ZV ⟨rfl,rfl⟩ (ZE 9 (fc (x:=.b (s.op==16)) (lb (by first|rfl|(rw [Zg VK])|(rw [Z9 VK])|(simp [VK];done)|(rw [XA];simp [VK];done)|omega)) fl)))
  exact T9 (ZV ⟨rfl,rfl⟩ (ZE 9 (fc (x:=.b (s.op==17)) (lb (by first|rfl|(rw [Zg VK])|(rw [Z9 VK])|(simp [VK];done)|(rw [XA];simp [VK];done)|omega)) fl)))
 rintro F h ⟨rfl,rfl⟩
 refine ac ((s.op==16)||(s.op==17)) (p:=(s.op=16)∨(s.op=17)) (Yj Zq Zq) (fun Up=>?_) (fun Up=>?_)
 ·obtain ⟨x,hxa⟩:=hf.one om
  have ha:s.args[0]? = some x:=by rw [hxa];rfl
  have hx:=hf.args x (by rw [hxa];simp)
  have hgx:=AP ha
  have hal:=(Xj.1 ha).1
  refine az (ZO 3 [2,1] (ic [3,0,2,2,2,2,2] (Ze2 b ga gb gc gd ge gf n s L ln q x) ?_))
  rintro _ _ (⟨wa6,wb6,wc6,wd6,we6,wf6,L'2,rfl,rfl,WJ⟩|⟨rfl,rfl,Vl⟩)
  ·have hP:=(SF (n:=n) (ln:=ln) (L:=L) Up hgx).trans (WJ)
   obtain ⟨kx,hxv⟩:=Ff hn hk hq.1 hf hP
   refine Z1 (Yd (V3 (ak (Yf 2 [7] (Zv [] (Jh s.op) (Xt [0,5,7] [(80,.b (Wc s.op&&((Ym n L.vars s) != 0)))] (fun gz=>gz) ?_ ?_))))))
   ·refine Z0 1 (ib (b:=Wc s.op) 77 (fun Yt=>?_) (fun Yt=>?_))
    ·exact Z1 (ZE 9 (Zs ((Ym n L.vars s) != 0) Yt fl))
    exact Z1 (ZE 9 (Zs false Yt fl))
   refine ac (Wc s.op&&((Ym n L.vars s) != 0)) (p:=(Wc s.op=true)/\((Ym n L.vars s)≠0)) (YA Iff.rfl Yc) (fun TG=>?_) (fun TG=>?_)
   ·refine az (Z0 2 (ic [0,0,0,0,0,0,0] (KL b wa6 wb6 wc6 wd6 we6 wf6 L'2 ln (Ym n L.vars s) 1 (-1) (hlb:=(by rw [hxv];omega)) (hlk:=kx.len)) ?_))
    rintro _ _ ⟨wa7,wb7,wc7,wd7,we7,wf7,rfl⟩
    exact ie (ar (Zr (r1 [0,0,0,0,0,0,0] (.inl ⟨wa7,wb7,wc7,wd7,we7,wf7,(L'2.grow (Ym n L.vars s) 1 (-1)),rfl,rfl,(by rw [Tx,hP];first|rfl|exact To (by assumption)|exact Tp (by assumption) (by assumption)|exact Tq (by assumption))⟩))))
   refine Zu 2 [7] (Zv [] (Jh s.op) (ie (ac (Wc s.op) Iff.rfl (fun Jy=>?_) (fun Jy=>?_))))
   ·refine az (Z0 1 (ic [0,0,0,0,0,0,0] (KL b wa6 wb6 wc6 wd6 we6 wf6 L'2 ln 0 0 (-1) (hlb:=(by rw [hxv];omega)) (hlk:=kx.len)) ?_))
    rintro _ _ ⟨wa8,wb8,wc8,wd8,we8,wf8,rfl⟩
    exact ie (ar (Zr (r1 [0,0,0,0,0,0,0] (.inl ⟨wa8,wb8,wc8,wd8,we8,wf8,(L'2.grow 0 0 (-1)),rfl,rfl,(by rw [Tx,hP];first|rfl|exact To (by assumption)|exact Tp (by assumption) (by assumption)|exact Tq (by assumption))⟩))))
   exact ak (ar (Zr (r1 [0,0,0,0,0,0,0] (.inl ⟨wa6,wb6,wc6,wd6,we6,wf6,L'2,rfl,rfl,(by rw [Tx,hP];first|rfl|exact To (by assumption)|exact Tp (by assumption) (by assumption)|exact Tq (by assumption))⟩))))
  have hP:=(SF (n:=n) (ln:=ln) (L:=L) Up hgx).trans (Vl)
  exact Z1 (Yd (V9 (ar (Zr (r1 [] (.inr ⟨rfl,rfl,(by rw [Tx,hP];first|rfl|exact To (by assumption)|exact Tp (by assumption) (by assumption)|exact Tq (by assumption))⟩))))))
 refine Yd (W5 (fun fz gz F h=>F=sF [0,4,5,7] fz [(65,.b ((s.op==7)||(s.op==8)))]/\h=gz) ?_ ?_)
 ·refine ac (s.op==7) Zq (fun Qc=>?_) (fun Qc=>?_)
  ·exact ak (ZV ⟨rfl,rfl⟩ (ZE 9 (fc (x:=.b (s.op==7)) (lb (by first|rfl|(rw [Zg Qc])|(rw [Z9 Qc])|(simp [Qc];done)|(rw [XA];simp [Qc];done)|omega)) fl)))
  exact T9 (ZV ⟨rfl,rfl⟩ (ZE 9 (fc (x:=.b (s.op==8)) (lb (by first|rfl|(rw [Zg Qc])|(rw [Z9 Qc])|(simp [Qc];done)|(rw [XA];simp [Qc];done)|omega)) fl)))
 rintro F h ⟨rfl,rfl⟩
 refine ac ((s.op==7)||(s.op==8)) (p:=(s.op=7)∨(s.op=8)) (Yj Zq Zq) (fun J7=>?_) (fun J7=>?_)
 ·refine az (ZO 3 [2,1] (ic [3,0,2,2,2,2,2] (Zdz b ga gb gc gd ge gf n s L ln q (ih:=ob)) ?_))
  rintro _ _ (⟨wa9,wb9,wc9,wd9,we9,wf9,L'3,rfl,rfl,Tb⟩|⟨rfl,rfl,UU⟩)
  ·have hP:=(SG (n:=n) (ln:=ln) (L:=L) J7).trans (Tb)
   obtain ⟨kx,hxv⟩:=Ff hn hk hq.1 hf hP
   refine Z1 (Yd (V3 (ak (Yf 2 [7] (Zv [] (Jh s.op) (Xt [0,5,7] [(80,.b (Wc s.op&&((Ym n L.vars s) != 0)))] (fun gz=>gz) ?_ ?_))))))
   ·refine Z0 1 (ib (b:=Wc s.op) 77 (fun X8=>?_) (fun X8=>?_))
    ·exact Z1 (ZE 9 (Zs ((Ym n L.vars s) != 0) X8 fl))
    exact Z1 (ZE 9 (Zs false X8 fl))
   refine ac (Wc s.op&&((Ym n L.vars s) != 0)) (p:=(Wc s.op=true)/\((Ym n L.vars s)≠0)) (YA Iff.rfl Yc) (fun Cy=>?_) (fun Cy=>?_)
   ·refine az (Z0 2 (ic [0,0,0,0,0,0,0] (KL b wa9 wb9 wc9 wd9 we9 wf9 L'3 ln (Ym n L.vars s) 1 (-1) (hlb:=(by rw [hxv];omega)) (hlk:=kx.len)) ?_))
    rintro _ _ ⟨wa10,wb10,wc10,wd10,we10,wf10,rfl⟩
    exact ie (ar (Zr (r1 [0,0,0,0,0,0,0] (.inl ⟨wa10,wb10,wc10,wd10,we10,wf10,(L'3.grow (Ym n L.vars s) 1 (-1)),rfl,rfl,(by rw [Tx,hP];first|rfl|exact To (by assumption)|exact Tp (by assumption) (by assumption)|exact Tq (by assumption))⟩))))
   refine Zu 2 [7] (Zv [] (Jh s.op) (ie (ac (Wc s.op) Iff.rfl (fun Lr=>?_) (fun Lr=>?_))))
   ·refine az (Z0 1 (ic [0,0,0,0,0,0,0] (KL b wa9 wb9 wc9 wd9 we9 wf9 L'3 ln 0 0 (-1) (hlb:=(by rw [hxv];omega)) (hlk:=kx.len)) ?_))
    rintro _ _ ⟨wa11,wb11,wc11,wd11,we11,wf11,rfl⟩
    exact ie (ar (Zr (r1 [0,0,0,0,0,0,0] (.inl ⟨wa11,wb11,wc11,wd11,we11,wf11,(L'3.grow 0 0 (-1)),rfl,rfl,(by rw [Tx,hP];first|rfl|exact To (by assumption)|exact Tp (by assumption) (by assumption)|exact Tq (by assumption))⟩))))
   exact ak (ar (Zr (r1 [0,0,0,0,0,0,0] (.inl ⟨wa9,wb9,wc9,wd9,we9,wf9,L'3,rfl,rfl,(by rw [Tx,hP];first|rfl|exact To (by assumption)|exact Tp (by assumption) (by assumption)|exact Tq (by assumption))⟩))))
  have hP:=(SG (n:=n) (ln:=ln) (L:=L) J7).trans (UU)
  exact Z1 (Yd (V9 (ar (Zr (r1 [] (.inr ⟨rfl,rfl,(by rw [Tx,hP];first|rfl|exact To (by assumption)|exact Tp (by assumption) (by assumption)|exact Tq (by assumption))⟩))))))
 refine az (ZO 3 [2,1] (ic [3,0,2,2,2,2,2] (Ze1 b ga gb gc gd ge gf n s L ln q (hnum:=hf.num) (hargs:=hf.args) (hinto:=(fun q=>(hf.into om).2))) ?_))
 rintro _ _ (⟨wa12,wb12,wc12,wd12,we12,wf12,L'4,rfl,rfl,J9⟩|⟨rfl,rfl,KJ⟩)
 ·have hP:=(SH (n:=n) (ln:=ln) (L:=L) Zb Xo Up J7).trans (J9)
  obtain ⟨kx,hxv⟩:=Ff hn hk hq.1 hf hP
  refine Z1 (Yd (V3 (ak (Yf 2 [7] (Zv [] (Jh s.op) (Xt [0,5,7] [(80,.b (Wc s.op&&((Ym n L.vars s) != 0)))] (fun gz=>gz) ?_ ?_))))))
  ·refine Z0 1 (ib (b:=Wc s.op) 77 (fun W4=>?_) (fun W4=>?_))
   ·exact Z1 (ZE 9 (Zs ((Ym n L.vars s) != 0) W4 fl))
   exact Z1 (ZE 9 (Zs false W4 fl))
  refine ac (Wc s.op&&((Ym n L.vars s) != 0)) (p:=(Wc s.op=true)/\((Ym n L.vars s)≠0)) (YA Iff.rfl Yc) (fun Ls=>?_) (fun Ls=>?_)
  ·refine az (Z0 2 (ic [0,0,0,0,0,0,0] (KL b wa12 wb12 wc12 wd12 we12 wf12 L'4 ln (Ym n L.vars s) 1 (-1) (hlb:=(by rw [hxv];omega)) (hlk:=kx.len)) ?_))
   rintro _ _ ⟨wa13,wb13,wc13,wd13,we13,wf13,rfl⟩
   exact ie (ar (Zr (r1 [0,0,0,0,0,0,0] (.inl ⟨wa13,wb13,wc13,wd13,we13,wf13,(L'4.grow (Ym n L.vars s) 1 (-1)),rfl,rfl,(by rw [Tx,hP];first|rfl|exact To (by assumption)|exact Tp (by assumption) (by assumption)|exact Tq (by assumption))⟩))))
  refine Zu 2 [7] (Zv [] (Jh s.op) (ie (ac (Wc s.op) Iff.rfl (fun Jz=>?_) (fun Jz=>?_))))
  ·refine az (Z0 1 (ic [0,0,0,0,0,0,0] (KL b wa12 wb12 wc12 wd12 we12 wf12 L'4 ln 0 0 (-1) (hlb:=(by rw [hxv];omega)) (hlk:=kx.len)) ?_))
   rintro _ _ ⟨wa14,wb14,wc14,wd14,we14,wf14,rfl⟩
   exact ie (ar (Zr (r1 [0,0,0,0,0,0,0] (.inl ⟨wa14,wb14,wc14,wd14,we14,wf14,(L'4.grow 0 0 (-1)),rfl,rfl,(by rw [Tx,hP];first|rfl|exact To (by assumption)|exact Tp (by assumption) (by assumption)|exact Tq (by assumption))⟩))))
  exact ak (ar (Zr (r1 [0,0,0,0,0,0,0] (.inl ⟨wa12,wb12,wc12,wd12,we12,wf12,L'4,rfl,rfl,(by rw [Tx,hP];first|rfl|exact To (by assumption)|exact Tp (by assumption) (by assumption)|exact Tq (by assumption))⟩))))
 have hP:=(SH (n:=n) (ln:=ln) (L:=L) Zb Xo Up J7).trans (KJ)
 exact Z1 (Yd (V9 (ar (Zr (r1 [] (.inr ⟨rfl,rfl,(by rw [Tx,hP];first|rfl|exact To (by assumption)|exact Tp (by assumption) (by assumption)|exact Tq (by assumption))⟩))))))
theorem Zdx (c:Nat) (ga:Hd) (gb:Hd) (gc:Hd) (gd:Hd) (ge:Hd) (gf:Hd) (n:Zp) (b:Z4) (L:ZP) (ln:LI) (q:Int) (mm:Nat) (hn:Xe n) (hk:XO n.decls L q) (ht:0<=Xb n L.vars b) (hm:mm<=L.vars.length) (hb:L.vars.length+4*b.sz<=1000000000) (hq:0<=q/\q+4*b.sz<=999999990) (hln:ln.length<=4294967296) (ih:∀(s2:Z5) (c:Nat) (ra:Hd) (rb:Hd) (rc:Hd) (rd:Hd) (re:Hd) (rf:Hd) (M:ZP) (p:Int),(s2.sz<b.sz)->(XO n.decls M p)->(0<=Ym n M.vars s2)->(M.vars.length+4*s2.sz<=1000000000)->(0<=p/\p+4*s2.sz<=999999990)->Zj 151 [.p c 0,Yh n,YL s2] [.obj c [.h ra,.h rb,.h rc,.h rd,.h re,.h rf,Z6 ln],rV ra M.vars,rV rb M.own,rV rc M.par,rV rd M.con,rV re M.fst,rV rf M.tok] (fun r h=>(∃(wa:Hd) (wb:Hd) (wc:Hd) (wd:Hd) (we:Hd) (wf:Hd) (M':ZP),r=.b true/\h=[.obj c [.h wa,.h wb,.h wc,.h wd,.h we,.h wf,Z6 ln],rV wa M'.vars,rV wb M'.own,rV wc M'.par,rV wd M'.con,rV we M'.fst,rV wf M'.tok]/\QY n ln M s2=some M')∨(r=.b false/\h=[]/\QY n ln M s2=none))):Zj 170 [.p c 0,Yh n,ZK b,.i mm] [.obj c [.h ga,.h gb,.h gc,.h gd,.h ge,.h gf,Z6 ln],rV ga L.vars,rV gb L.own,rV gc L.par,rV gd L.con,rV ge L.fst,rV gf L.tok] (fun r h=>(∃(wa:Hd) (wb:Hd) (wc:Hd) (wd:Hd) (we:Hd) (wf:Hd) (L':ZP),r=.b true/\h=[.obj c [.h wa,.h wb,.h wc,.h wd,.h we,.h wf,Z6 ln],rV wa L'.vars,rV wb L'.own,rV wc L'.par,rV wd L'.con,rV we L'.fst,rV wf L'.tok]/\Ul n ln L mm b=some L')∨(r=.b false/\h=[]/\Ul n ln L mm b=none)):=by
 have hbz:=b.sz_eq
 obtain ⟨vs,rt,hvs,hres,hrt⟩:=Im ht
 have hri:=Av hres
 have Xn:=V7 b
 refine ZC 45 Tryz.func170 (ar (iA (Yx n) fun b1=>iA (X9 b) fun b2=>?_))
 refine Z1 (Yd (ab 0 (ZW (fun fz gz m F h=>∃(k:Nat) (q2:Int) (L2:ZP) (ka:Hd) (kb:Hd) (kc:Hd) (kd:Hd) (ke:Hd) (kf:Hd),(k<=b.steps.length)/\(XO n.decls L2 q2)/\(0<=q2/\q2+4*YG (b.steps.drop k)<=999999990)/\(L2.vars.length+4*YG (b.steps.drop k)<=1000000000)/\(WA n (b.steps.drop k) L2.vars=some vs)/\(JF n ln L2 (b.steps.drop k)=JF n ln L b.steps)/\(L.vars.length<=L2.vars.length)/\F=sF [0,3,5,6] fz [(9,.i k)]/\h=[Zk gz 0,Zk gz 1,.obj c [.h ka,.h kb,.h kc,.h kd,.h ke,.h kf,Z6 ln],rV ka L2.vars,rV kb L2.own,rV kc L2.par,rV kd L2.con,rV ke L2.fst,rV kf L2.tok]/\m=b.steps.length-k) _ _ _ ⟨0,q,L,ga,gb,gc,gd,ge,gf,ob,hk,(by rw [JK];omega),(by rw [JK];omega),hvs,rfl,om,rfl,rfl,rfl⟩ (ZE 9 (Y1 fl)) ?_)))
 rintro m F h ⟨k,q2,L2,ka,kb,kc,kd,ke,kf,Yg,Zh,Zw,YS,WE,Aw,Zly,rfl,rfl,rfl⟩
 refine Yf 3 [0] (iw (V5 b.steps) (ZZ ((k:Int)<(b.steps.length:Int)) (fun Zb=>?_) (fun Zb=>?_)))
 ·obtain ⟨s1,hs1⟩:=Zt b.steps k om
  have hss:=TO hs1
  have hdr:=Y6 hs1
  have hz:YG (b.steps.drop k)=s1.sz+YG (b.steps.drop (k+1)):=by rw [hdr,YG]
  rw [hdr] at WE Aw
  obtain ⟨g1,g2⟩:=MS WE
  refine ak (aq (ab 1 (aD 9 (ZQ 4 9 [0,1,2,3,4] [1,0] (dx 5 (Zi none (k:Int) 5 (W6 hs1)) (Zm 2 3 [6] (Z8 7 (dc 7 [2,2,2,2,2,2,2] [] [] (ih s1 c ka kb kc kd ke kf L2 q2 ob Zh g1 om om) ?_))))))))
  rintro _ _ (⟨wa1,wb1,wc1,wd1,we1,wf1,M'1,rfl,rfl,Y9⟩|⟨rfl,rfl,Yp⟩)
  ·have hP:=Y9
   have kx:=Z24 hn Zh Zw.1 g1 hP
   exact Zm 0 1 [8] (de (V3 (ak (az (Z0 1 (ZG k (Z1 (ZF ⟨k+1,(q2+4*s1.sz),M'1,wa1,wb1,wc1,wd1,we1,wf1,ob,kx.1,om,(by rw [kx.2];have:=Z10 n L2.vars s1;omega),(by rw [kx.2];exact g2),(by rw [<-Aw,JF,hP];rfl),(by rw [kx.2];have:=Z10 n L2.vars s1;omega),rfl,rfl,rfl⟩ (wk [7,7,0,0,0,0,0,0,0] (ZI k fl))))))))))
  have hP:=Yp
  exact Zm 0 1 [8] (de (V9 (ar (Zr (r1 [] (.inr ⟨rfl,rfl,(by rw [Il,<-Aw,JF,hP];rfl)⟩))))))
 rw [Xg om] at WE Aw
 have hvv:L2.vars=vs:=by rw [WA] at WE;exact Qs WE
 have hB:Ul n ln L mm b=A3 mm b.result L2:=by rw [Il,<-Aw,JF];rfl
 obtain ⟨xr,hxr⟩:=Zt L2.vars b.result.toNat (by rw [hvv];omega)
 have hgr:=TY hxr
 have hrl:0<=b.result/\b.result<L2.vars.length:=by rw [hvv];omega
 rw [WA] at WE
 refine ax 0 (aq (aD 16 (ZQ 10 16 [0,1,2,3,4,5] [2,0] (dx 6 (Ui 3 ka L2.vars b.result b.result.toNat (hq:=rfl)) (U5 7 (QJ 3 ka L2.vars b.result.toNat xr hxr) (Zm 6 8 [8,9] (db (b:=(xr != 0)) 35 (fun Zc=>?_) (fun Zc=>?_))))))))
 ·have YV:xr≠0:=(Yc).1 Zc
  refine ZQ 3 6 [10,11,12] [0] (Z8 13 (dc 13 [2,2,2,2,2,2,2] [] [] (Hb c ka kb kc kd ke kf L2 ln b.result (hlk:=Zh.len) (hq:=(fun y hy=>⟨Zh.nn y hy,by have:=Zh.bd y hy;omega⟩))) ?_))
  rintro _ _ (⟨wa2,wb2,wc2,wd2,we2,wf2,L'1,rfl,rfl,X6⟩|⟨rfl,rfl,Xq⟩)
  ·have hE:=hB.trans (Z7l hgr (by assumption) X6)
   have kx:=Zh.take X6
   have hxv:L'1.vars.length=L2.vars.length:=by rw [(JG X6).2.1]
   refine Zm 0 2 [14,15] (de (V3 (ak (Yb 2 (ic [0,0,0,0,0,0,0] (RP c wa2 wb2 wc2 wd2 we2 wf2 L'1 ln mm (hlk:=(by first|exact kx.len|exact Zh.len)) (hlb:=om) (hm:=om)) ?_)))))
   rintro _ _ (⟨wa3,wb3,wc3,wd3,we3,wf3,L'2,rfl,rfl,W7⟩|⟨rfl,rfl,WJ⟩)
   ·exact Zr (r1 [0,0,0,0,0,0,0] (.inl ⟨wa3,wb3,wc3,wd3,we3,wf3,L'2,rfl,rfl,(by first|exact hE|(rw [hE];exact W7)|(rw [hB,Er hgr (by assumption)];exact W7))⟩))
   exact Zr (r1 [] (.inr ⟨rfl,rfl,(by first|exact hE|(rw [hE];exact WJ)|(rw [hB,Er hgr (by assumption)];exact WJ))⟩))
  have hE:=hB.trans (Z7k hgr (by assumption) Xq)
  exact Zm 0 2 [14,15] (de (V9 (ar (Zr (r1 [] (.inr ⟨rfl,rfl,(by first|exact hE|(rw [hE];exact Xq)|(rw [hB,Er hgr (by assumption)];exact Xq))⟩))))))
 have Vl:¬(xr≠0):=Ya Yc Zc
 refine Zm 0 6 [10,11,12,13,14,15] (de (V3 (ak (Yb 2 (ic [2,2,2,2,2,2,2] (RP c ka kb kc kd ke kf L2 ln mm (hlk:=(by first|exact kx.len|exact Zh.len)) (hlb:=om) (hm:=om)) ?_)))))
 rintro _ _ (⟨wa4,wb4,wc4,wd4,we4,wf4,L'3,rfl,rfl,VL⟩|⟨rfl,rfl,Ta⟩)
 ·exact Zr (r1 [0,0,0,0,0,0,0] (.inl ⟨wa4,wb4,wc4,wd4,we4,wf4,L'3,rfl,rfl,(by first|exact hE|(rw [hE];exact VL)|(rw [hB,Er hgr (by assumption)];exact VL))⟩))
 exact Zr (r1 [] (.inr ⟨rfl,rfl,(by first|exact hE|(rw [hE];exact Ta)|(rw [hB,Er hgr (by assumption)];exact Ta))⟩))
theorem Zdy (n:Zp) (ln:LI) (hn:Xe n) (hln:ln.length<=4294967296) (m:Nat):∀(b2:Z4) (c:Nat) (ra:Hd) (rb:Hd) (rc:Hd) (rd:Hd) (re:Hd) (rf:Hd) (M:ZP) (mm:Nat) (p:Int),(b2.sz<m+1)->(XO n.decls M p)->(0<=Xb n M.vars b2)->(mm<=M.vars.length)->(M.vars.length+4*b2.sz<=1000000000)->(0<=p/\p+4*b2.sz<=999999990)->Zj 170 [.p c 0,Yh n,ZK b2,.i mm] [.obj c [.h ra,.h rb,.h rc,.h rd,.h re,.h rf,Z6 ln],rV ra M.vars,rV rb M.own,rV rc M.par,rV rd M.con,rV re M.fst,rV rf M.tok] (fun r h=>(∃(wa:Hd) (wb:Hd) (wc:Hd) (wd:Hd) (we:Hd) (wf:Hd) (M':ZP),r=.b true/\h=[.obj c [.h wa,.h wb,.h wc,.h wd,.h we,.h wf,Z6 ln],rV wa M'.vars,rV wb M'.own,rV wc M'.par,rV wd M'.con,rV we M'.fst,rV wf M'.tok]/\Ul n ln M mm b2=some M')∨(r=.b false/\h=[]/\Ul n ln M mm b2=none)):=by
 induction m with
 | zero=>intro b c ga gb gc gd ge gf L mm q h;have:=b.sz_pos;omega
 | succ m ih=>
  intro b c ga gb gc gd ge gf L mm q h1 hk ht hm hb hp
  exact Zdx c ga gb gc gd ge gf n b L ln q mm hn hk ht hm hb hp hln fun s c ga gb gc gd ge gf L q h2 hk ht hb hp=>RR c ga gb gc gd ge gf n s L ln q hn hk ht hb hp hln
   fun b2 c ga gb gc gd ge gf L mm q h3 hk ht hm hb hp=>ih b2 c ga gb gc gd ge gf L mm q om hk ht hm hb hp
theorem Ze4 (n:Zp) (ln:LI) (hn:Xe n) (hln:ln.length<=4294967296) (m:Nat):∀(s2:Z5) (c:Nat) (ra:Hd) (rb:Hd) (rc:Hd) (rd:Hd) (re:Hd) (rf:Hd) (M:ZP) (p:Int),(s2.sz<m+1)->(XO n.decls M p)->(0<=Ym n M.vars s2)->(M.vars.length+4*s2.sz<=1000000000)->(0<=p/\p+4*s2.sz<=999999990)->Zj 151 [.p c 0,Yh n,YL s2] [.obj c [.h ra,.h rb,.h rc,.h rd,.h re,.h rf,Z6 ln],rV ra M.vars,rV rb M.own,rV rc M.par,rV rd M.con,rV re M.fst,rV rf M.tok] (fun r h=>(∃(wa:Hd) (wb:Hd) (wc:Hd) (wd:Hd) (we:Hd) (wf:Hd) (M':ZP),r=.b true/\h=[.obj c [.h wa,.h wb,.h wc,.h wd,.h we,.h wf,Z6 ln],rV wa M'.vars,rV wb M'.own,rV wc M'.par,rV wd M'.con,rV we M'.fst,rV wf M'.tok]/\QY n ln M s2=some M')∨(r=.b false/\h=[]/\QY n ln M s2=none)):=by
 intro s c ga gb gc gd ge gf L q h2 hk ht hb hp
 exact RR c ga gb gc gd ge gf n s L ln q hn hk ht hb hp hln fun b2 c ga gb gc gd ge gf L mm q h3 hk ht hm hb hp=>Zdy n ln hn hln m b2 c ga gb gc gd ge gf L mm q om hk ht hm hb hp
theorem Ze3 (c:Nat) (ra:Hd) (rb:Hd) (rc:Hd) (rd:Hd) (re:Hd) (rf:Hd) (n:Zp) (s2:Z5) (M:ZP) (ln:LI) (p:Int) (hn:Xe n) (hln:ln.length<=4294967296) (hk:XO n.decls M p) (ht:0<=Ym n M.vars s2) (hb:M.vars.length+4*s2.sz<=1000000000) (hp:0<=p/\p+4*s2.sz<=999999990):Zj 151 [.p c 0,Yh n,YL s2] [.obj c [.h ra,.h rb,.h rc,.h rd,.h re,.h rf,Z6 ln],rV ra M.vars,rV rb M.own,rV rc M.par,rV rd M.con,rV re M.fst,rV rf M.tok] (fun r h=>(∃(wa:Hd) (wb:Hd) (wc:Hd) (wd:Hd) (we:Hd) (wf:Hd) (M':ZP),r=.b true/\h=[.obj c [.h wa,.h wb,.h wc,.h wd,.h we,.h wf,Z6 ln],rV wa M'.vars,rV wb M'.own,rV wc M'.par,rV wd M'.con,rV we M'.fst,rV wf M'.tok]/\QY n ln M s2=some M')∨(r=.b false/\h=[]/\QY n ln M s2=none)):=Ze4 n ln hn hln s2.sz s2 c ra rb rc rd re rf M p om hk ht hb hp
theorem Ziz (rt:ZH) (hp:rt.params.length<=1000000:=by exact ob) (hl:rt.lent.length<=4294967296:=by exact ob):Zj 150 [UN rt] [] (fun r h=>∃(c:Nat) (wa:Hd) (wb:Hd) (wc:Hd) (wd:Hd) (we:Hd) (wf:Hd),r=.p c 0/\h=[.obj c [.h wa,.h wb,.h wc,.h wd,.h we,.h wf,Z6 rt.lent],rV wa ((Jf rt).vars),rV wb ((Jf rt).own),rV wc ((Jf rt).par),rV wd ((Jf rt).con),rV we ((Jf rt).fst),rV wf ((Jf rt).tok)]):=by
 refine ZC 45 Tryz.func150 (ar (iA (U0 rt) fun b1=>Z1 (Zu 2 [0] (ic [] (Uh rt.lent) ?_))))
 rintro _ _ ⟨v1,rfl,rfl⟩
 refine ZT 1 [(8,.agg [nl,nl,nl,nl,nl,nl,Z6 rt.lent])] (iA [nl,nl,nl,nl,nl,nl,Z6 rt.lent] fun b2=>?_)
 refine XV (MZ 0 b2 [nl,nl,nl,nl,nl,nl,Z6 rt.lent] [.h hN,.h hN,.h hN,.h hN,.h hN,.h hN,Z6 rt.lent] (.cons (Zd.hd (v:=hN)) (.cons (Zd.hd (v:=hN)) (.cons (Zd.hd (v:=hN)) (.cons (Zd.hd (v:=hN)) (.cons (Zd.hd (v:=hN)) (.cons (Zd.hd (v:=hN)) (.cons (lr _) .nil)))))))) (XV (CS) (XV (CS) (XV (CS) (XV (CS) (XV (CS) (XV (CS) (Z1 (Yd (ab 0 (ZW (fun fz gz m F h=>∃(k:Nat) (L2:ZP) (ka:Hd) (kb:Hd) (kc:Hd) (kd:Hd) (ke:Hd) (kf:Hd),(k<=rt.params.length)/\(TC L2)/\(L2.vars.length=k)/\(B6 rt.lent (rt.params.drop k) k L2=Jf rt)/\F=sF [1,3] fz [(4,.i k)]/\h=[.obj b2 [.h ka,.h kb,.h kc,.h kd,.h ke,.h kf,Z6 rt.lent],Zk gz 8,rV ka L2.vars,rV kb L2.own,rV kc L2.par,rV kd L2.con,rV ke L2.fst,rV kf L2.tok]/\m=rt.params.length-k) _ _ _ ⟨0,(ZP.mk [] [] [] [] [] []),hN,hN,hN,hN,hN,hN,ob,⟨rfl,rfl,rfl,rfl,rfl⟩,rfl,rfl,rfl,rfl,rfl⟩ (wk [6,7,0,0,0,0,0,0] (Y1 fl) (e:=(rc (rc (rv (xs:=[]) ob (rv (xs:=[]) ob (rv (xs:=[]) ob (rv (xs:=[]) ob (rv (xs:=[]) ob (rv (xs:=[]) ob rz)))))))))) ?_))))))))))
 rintro m F h ⟨k,L2,ka,kb,kc,kd,ke,kf,Yg,Zh,Zw,YS,rfl,rfl,rfl⟩
 refine Yf 3 [1] (iw (Yo rt.params) (ZZ ((k:Int)<(rt.params.length:Int)) (fun Zb=>?_) (fun Zb=>?_)))
 ·refine ak (aq (ab 1 (Zu 3 [1] ?_)))
  obtain ⟨x1,Z3⟩:=Zt rt.params k om
  refine Zl (Zi none (k:Int) 1 (Y5 Z3)) (Xt [1,3,4] [(29,.b ((x1 != 0)&&(!(decide ((k:Int)∈rt.lent)))))] (fun gz=>gz) ?_ ?_)
  ·refine Z0 3 (ib (b:=(x1 != 0)) 23 (fun Zc=>?_) (fun Zc=>?_))
   ·exact ZO 3 [1] (Zv [] (UY rt.lent (k:Int)) (Z1 (ZE 8 (Zs (!(decide ((k:Int)∈rt.lent))) Zc fl))))
   exact Z1 (ZE 8 (Zs false Zc fl))
  refine ac ((x1 != 0)&&(!(decide ((k:Int)∈rt.lent)))) (p:=(x1≠0)/\(¬((k:Int)∈rt.lent))) (YA Yc (Yq dq)) (fun Ze=>?_) (fun Ze=>?_)
  ·refine az (ZO 4 [1] (Zl (Zi none (k:Int) 1 (Y5 Z3)) (Z0 1 (ic [0,1,1,1,1,1,1] (KL b2 ka kb kc kd ke kf L2 rt.lent x1 1 (-1) (hlk:=Zh)) ?_))))
   rintro _ _ ⟨wa1,wb1,wc1,wd1,we1,wf1,rfl⟩
   exact ie (az (Z0 1 (ZG k (Z1 (ZF ⟨k+1,(L2.grow x1 1 (-1)),wa1,wb1,wc1,wd1,we1,wf1,ob,(TC.grow Zh),(by simp [ZP.grow];omega),(by rw [Y6 Z3,B6] at YS;first|(rw [Zg Ze] at YS;exact YS)|(rw [Z9 Ze] at YS;exact YS)),rfl,rfl,rfl⟩ (wk [0,6,0,0,0,0,0,0] (ZI k fl)))))))
  refine az (ZO 4 [1] (Zl (Zi none (k:Int) 1 (Y5 Z3)) (Z0 1 (ic [0,1,1,1,1,1,1] (KL b2 ka kb kc kd ke kf L2 rt.lent x1 0 (-1) (hlk:=Zh)) ?_))))
  rintro _ _ ⟨wa2,wb2,wc2,wd2,we2,wf2,rfl⟩
  exact ie (az (Z0 1 (ZG k (Z1 (ZF ⟨k+1,(L2.grow x1 0 (-1)),wa2,wb2,wc2,wd2,we2,wf2,ob,(TC.grow Zh),(by simp [ZP.grow];omega),(by rw [Y6 Z3,B6] at YS;first|(rw [Zg Ze] at YS;exact YS)|(rw [Z9 Ze] at YS;exact YS)),rfl,rfl,rfl⟩ (wk [0,6,0,0,0,0,0,0] (ZI k fl)))))))
 refine ax 0 (ZJ ?_)
 have hNl:L2=Jf rt:=by rw [<-YS,Xg om];rfl
 exact ZL (r1 [0,1,1,1,1,1,1] ⟨b2,ka,kb,kc,kd,ke,kf,rfl,rfl⟩ (eq:=(rc (rv (xs:=L2.vars) (by rw [hNl]) (rv (xs:=L2.own) (by rw [hNl]) (rv (xs:=L2.par) (by rw [hNl]) (rv (xs:=L2.con) (by rw [hNl]) (rv (xs:=L2.fst) (by rw [hNl]) (rv (xs:=L2.tok) (by rw [hNl]) rz)))))))))
end Go.Abs
