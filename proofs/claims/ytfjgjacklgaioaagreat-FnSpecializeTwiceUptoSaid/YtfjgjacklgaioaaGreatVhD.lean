/-
  A part of the proofs of several laws (see the last file): no condition.
-/
import Derived.Test.YtfjgjacklgaioaaGreatVhC
set_option linter.all false
set_option linter.unusedVariables false
set_option linter.unusedSimpArgs false
set_option linter.unusedSectionVars false
set_option maxRecDepth 10000
set_option maxHeartbeats 4000000
namespace Go.Abs
open Go.Proofs
theorem Pd (rd:Nat) (bs:LI) (p:Nat) (g:Wg) (gb:Nat) (rs:List Func) (vs:LI) (t:Int) (b:Nat) (ZO:∀z∈bs,0<=z/\z<=255) (hp:p+40000<=1000000000:=by exact ob) (hg:GP g:=by exact ob) (Wz:g.funcs <+: rs:=by exact ob) (hv:vs.length+3*b<=900:=by exact ob) (hb:b<=20:=by exact ob):Zk 241 [.p rd 0,.agg (WD g gb),Z4 vs,.i t,.i b] [YC rd bs p,XY gb rs] (fun r h=>∃(e:Z1) (p2:Nat),r=Y5 e/\h=[YC rd bs p2,XY gb rs]/\GE g vs.length 30 e/\p<=p2/\p2<=p+40000):=by
 have Di:=FC hb
 refine ZG 34 Tryz.func241 (ar (iA (WD g gb) fun b1=>iA [.i 0,.i 0,nl] fun b2=>ie (Zv 5 [1] (ic [2,2] (Kt rd bs p g gb rs vs t b (ZO:=ob)) ?_))))
 rintro _ _ ⟨e1,p21,rfl,rfl,ZY⟩
 have Xr:=ZY.1
 refine iA [.i 0,.i 0,nl] fun b3=>?_
 refine ZH 0 b3 (X3 e1) (ie (aq (ab 0 (Y2 (fun fz gz m F h=>∃(bq:Nat) (eQ:Z1) (pq:Nat),(GE g vs.length (bS bq) eQ)/\(bq<=b)/\(p<=pq/\pq+1900*bq<=p+1900*(b+1))/\F=sF [0,2,3,6,10,11] fz [(4,.i bq)]/\h=[.obj b3 (X3 eQ),YC rd bs pq,Ze gz 2,Ze gz 3,Ze gz 4]/\m=bq+1) _ _ _ ⟨b,e1,p21,Xr,ob,ob,rfl,rfl,rfl⟩ (ZF 5 fl) ?_))))
 rintro m F h ⟨bq,eQ,pq,Yg,Zj,Zw,rfl,rfl,rfl⟩
 refine Yk 1 [0] (ic [] (Pj eQ (hz:=(by have h1:=Yg.2;have h2:=(FC (b:=bq) om).1;omega))) ?_)
 rintro _ _ ⟨w1,rfl,rfl,Yd⟩
 have Et:=Yd
 have hq20:=FC (b:=bq) om
 have hq21:=FC (b:=bq / 2) om
 have Xu:=Yg.2
 refine Xw [0,2,3,4,6,10,11] [(24,.b ((decide (w1<0))&&(decide ((bq:Int)>2))))] (fun gz=>gz) ?_ ?_
 ·refine Z2 2 (ib (b:=(decide (w1<0))) 21 (fun Zb=>?_) (fun Zb=>?_))
  ·exact Z0 (ZF 5 (Zt (decide ((bq:Int)>2)) Zb fl))
  exact Z0 (ZF 5 (Zt false Zb fl))
 refine ac ((decide (w1<0))&&(decide ((bq:Int)>2))) (p:=(w1<0)/\((bq:Int)>2)) (YJ dq dq) (fun Za=>?_) (fun Za=>?_)
 ·refine ak (ab 1 (Y0 1 (Zr (Cv bq 2 om om) (Z0 (az (ZL 5 [4] (ic [1,1] (Kt rd bs pq g gb rs vs t (bq / 2) (ZO:=ob)) ?_)))))))
  rintro _ _ ⟨e2,p22,rfl,rfl,Xk⟩
  have Xr:=Xk.1
  exact ZH 2 b3 (X3 e2) (ie (ZK ⟨(bq / 2),e2,p22,Xr,ob,ob,rfl,rfl,rfl⟩ (ZF 5 (fc (x:=.i (bq / 2:Nat)) li fl))))
 exact ax 0 (Zv 1 [0] (ZH 3 b2 (X3 eQ) (ie (ZC (r3 [2,2] [Y5 eQ] [0] [(b2,b2)] ⟨eQ,pq,rfl,rfl,⟨⟨Yg.1,by omega⟩,by omega⟩⟩ (lr _))))))
theorem Z9n (rd:Nat) (bs:LI) (p:Nat) (t:Int) (ZO:∀z∈bs,0<=z/\z<=255) (hp:p+14<=1000000000:=by exact ob):Zk 274 [.p rd 0,.i t] [YC rd bs p] (fun r h=>∃(e:Z1) (p2:Nat),r=Y5 e/\h=[YC rd bs p2]/\(∀g:Wg,SE g 9 e)/\p<=p2/\p2<=p+14):=by
 refine ZG 45 Tryz.func274 (ar (iA [.i 0,.i 0,nl] fun b1=>ie (ar (iL (Yu []) 0 3 fun v1=>ZT 0 [(10,XH [])] (Zx [] (W6 6 0 []) (iA [.i 0,.i 0,nl] fun b2=>ZH 0 b2 (X3 (Z1.mk 6 0 [])) (ie (X9 (YD (t==3) Zq (fun Za=>?_) (fun Za=>?_))))))))))
 ·refine ar (iL (Yu []) 0 3 fun v2=>ZT 0 [(14,XH [])] (Zx [] (W6 6 2 []) (iA [.i 0,.i 0,nl] fun b3=>?_)))
  refine ZH 0 b3 (X3 (Z1.mk 6 2 [])) (ie (aD 9 (ZI 6 9 [0,1,4] [0,0] (Jm (fun fz gz F h=>∃(k1:Int) (b4:Nat),(Pk 9 k1)/\F=sF [0,4,6] fz [(7,.p b4 0)]/\h=[.obj b4 (X3 (Z1.mk 6 3 [Z1.mk 6 2 [],Z1.mk 0 k1 [],Z1.mk 6 2 []])),.obj rd [Un bs,.i (p+1:Nat)],Ze gz 0,Ze gz 1,Ze gz 2,Ze gz 3,Ze gz 4]) ?_ ?_))))
  ·refine VJ 2 7 ?_ ?_
   ·refine dc 2 [5] [0,0] [b3,b3] (WE rd bs p 9 (ZO:=ob)) ?_
    rintro _ _ ⟨k1,rfl,rfl,ZY⟩
    have qhp1:=ZY.lt om
    refine VJ 3 7 ?_ ?_
    ·refine Yz 3 [] [1,1] [b3,b3] (AQ k1) (VJ 5 7 ?_ ?_)
     ·refine WQ 5 [] [] [Y5 (Z1.mk 6 2 []),Y5 (Z1.mk 0 k1 []),Y5 (Z1.mk 6 2 [])] (Yu [Z1.mk 6 2 [],Z1.mk 0 k1 [],Z1.mk 6 2 []]) (XX [Z1.mk 6 2 [],Z1.mk 0 k1 [],Z1.mk 6 2 []]).symm 3 3 fun v3=>YA 3 3 [] [(21,XH [Z1.mk 6 2 [],Z1.mk 0 k1 [],Z1.mk 6 2 []])] (VJ 6 7 ?_ ?_)
      ·exact Yz 6 [] [] [] (W6 6 3 [Z1.mk 6 2 [],Z1.mk 0 k1 [],Z1.mk 6 2 []]) (Z9 7 (dA 7 [] [] [.i 0,.i 0,nl] fun b4=>Z9 8 (YO 8 0 [] [] b4 (X3 (Z1.mk 6 3 [Z1.mk 6 2 [],Z1.mk 0 k1 [],Z1.mk 6 2 []])) (de (ZU ⟨k1,b4,(by assumption),rfl,rfl⟩ (wk [0,1,1,1,1,1,1] fl))))))
      exact dA 7 [] [] [.i 0,.i 0,nl] fun b5=>Z9 6 (Yz 6 [] [] [] (W6 6 3 [Z1.mk 6 2 [],Z1.mk 0 k1 [],Z1.mk 6 2 []]) (Z9 8 (YO 8 0 [] [] b5 (X3 (Z1.mk 6 3 [Z1.mk 6 2 [],Z1.mk 0 k1 [],Z1.mk 6 2 []])) (de (ZU ⟨k1,b5,(by assumption),rfl,rfl⟩ (wk [0,1,1,1,1,1,1] fl))))))
     exact dA 7 [1,1] [b3,b3] [.i 0,.i 0,nl] fun b6=>Z9 5 (WQ 5 [] [] [Y5 (Z1.mk 6 2 []),Y5 (Z1.mk 0 k1 []),Y5 (Z1.mk 6 2 [])] (Yu [Z1.mk 6 2 [],Z1.mk 0 k1 [],Z1.mk 6 2 []]) (XX [Z1.mk 6 2 [],Z1.mk 0 k1 [],Z1.mk 6 2 []]).symm 3 3 fun v4=>YA 2 2 [] [(21,XH [Z1.mk 6 2 [],Z1.mk 0 k1 [],Z1.mk 6 2 []])] (Z9 6 (Yz 6 [] [] [] (W6 6 3 [Z1.mk 6 2 [],Z1.mk 0 k1 [],Z1.mk 6 2 []]) (Z9 8 (YO 8 1 [] [] b6 (X3 (Z1.mk 6 3 [Z1.mk 6 2 [],Z1.mk 0 k1 [],Z1.mk 6 2 []])) (de (ZU ⟨k1,b6,(by assumption),rfl,rfl⟩ (wk [0,1,1,1,1,1,1] fl))))))))
    exact dA 7 [1,1] [b3,b3] [.i 0,.i 0,nl] fun b7=>Z9 3 (Yz 3 [] [2,2] [b3,b3] (AQ k1) (Z9 5 (WQ 5 [] [] [Y5 (Z1.mk 6 2 []),Y5 (Z1.mk 0 k1 []),Y5 (Z1.mk 6 2 [])] (Yu [Z1.mk 6 2 [],Z1.mk 0 k1 [],Z1.mk 6 2 []]) (XX [Z1.mk 6 2 [],Z1.mk 0 k1 [],Z1.mk 6 2 []]).symm 3 3 fun v5=>YA 2 2 [] [(21,XH [Z1.mk 6 2 [],Z1.mk 0 k1 [],Z1.mk 6 2 []])] (Z9 6 (Yz 6 [] [] [] (W6 6 3 [Z1.mk 6 2 [],Z1.mk 0 k1 [],Z1.mk 6 2 []]) (Z9 8 (YO 8 1 [] [] b7 (X3 (Z1.mk 6 3 [Z1.mk 6 2 [],Z1.mk 0 k1 [],Z1.mk 6 2 []])) (de (ZU ⟨k1,b7,(by assumption),rfl,rfl⟩ (wk [0,1,1,1,1,1,1] fl))))))))))
   refine dA 7 [0,0] [b3,b3] [.i 0,.i 0,nl] fun b8=>Z9 2 (dc 2 [6] [1,1] [b3,b3] (WE rd bs p 9 (ZO:=ob)) ?_)
   rintro _ _ ⟨k2,rfl,rfl,Yd⟩
   have qhp2:=Yd.lt om
   exact Z9 3 (Yz 3 [] [2,2] [b3,b3] (AQ k2) (Z9 5 (WQ 5 [] [] [Y5 (Z1.mk 6 2 []),Y5 (Z1.mk 0 k2 []),Y5 (Z1.mk 6 2 [])] (Yu [Z1.mk 6 2 [],Z1.mk 0 k2 [],Z1.mk 6 2 []]) (XX [Z1.mk 6 2 [],Z1.mk 0 k2 [],Z1.mk 6 2 []]).symm 3 3 fun v6=>YA 2 2 [] [(21,XH [Z1.mk 6 2 [],Z1.mk 0 k2 [],Z1.mk 6 2 []])] (Z9 6 (Yz 6 [] [] [] (W6 6 3 [Z1.mk 6 2 [],Z1.mk 0 k2 [],Z1.mk 6 2 []]) (Z9 8 (YO 8 2 [] [] b8 (X3 (Z1.mk 6 3 [Z1.mk 6 2 [],Z1.mk 0 k2 [],Z1.mk 6 2 []])) (de (ZU ⟨k2,b8,(by assumption),rfl,rfl⟩ (wk [0,1,1,1,1,1,1] fl))))))))))
  rintro F h ⟨k1,b4,ZY,rfl,rfl⟩
  have qhp1:=ZY.lt om
  refine aD 8 (ZI 5 8 [0,1,4] [0,2] (Z9 2 (dc 2 [1] [1,0] [b3,b4] (WE rd bs (p+1) 9 (ZO:=ob)) ?_)))
  rintro _ _ ⟨k3,rfl,rfl,YI⟩
  have qhp3:=YI.lt om
  exact Z9 3 (Yz 3 [] [2,1] [b3,b4] (AQ k3) (Z9 5 (WQ 5 [] [] [Y5 (Z1.mk 6 3 [Z1.mk 6 2 [],Z1.mk 0 k1 [],Z1.mk 6 2 []]),Y5 (Z1.mk 0 k3 []),Y5 (Z1.mk 6 2 [])] (Yu [Z1.mk 6 3 [Z1.mk 6 2 [],Z1.mk 0 k1 [],Z1.mk 6 2 []],Z1.mk 0 k3 [],Z1.mk 6 2 []]) (XX [Z1.mk 6 3 [Z1.mk 6 2 [],Z1.mk 0 k1 [],Z1.mk 6 2 []],Z1.mk 0 k3 [],Z1.mk 6 2 []]).symm 3 3 fun v7=>YA 2 2 [] [(28,XH [Z1.mk 6 3 [Z1.mk 6 2 [],Z1.mk 0 k1 [],Z1.mk 6 2 []],Z1.mk 0 k3 [],Z1.mk 6 2 []])] (Z9 6 (Yz 6 [] [] [] (W6 6 3 [Z1.mk 6 3 [Z1.mk 6 2 [],Z1.mk 0 k1 [],Z1.mk 6 2 []],Z1.mk 0 k3 [],Z1.mk 6 2 []]) (Z9 7 (YO 7 7 [] [] b1 (X3 (Z1.mk 6 3 [Z1.mk 6 3 [Z1.mk 6 2 [],Z1.mk 0 k1 [],Z1.mk 6 2 []],Z1.mk 0 k3 [],Z1.mk 6 2 []])) (de (ZC (r3 [2] [Y5 (Z1.mk 6 3 [Z1.mk 6 3 [Z1.mk 6 2 [],Z1.mk 0 k1 [],Z1.mk 6 2 []],Z1.mk 0 k3 [],Z1.mk 6 2 []])] [0] [(b1,b1)] ⟨(Z1.mk 6 3 [Z1.mk 6 3 [Z1.mk 6 2 [],Z1.mk 0 k1 [],Z1.mk 6 2 []],Z1.mk 0 k3 [],Z1.mk 6 2 []]),(p+1)+1,rfl,rfl,⟨fun g=>SE.three (s1:=4) (s2:=1) (s3:=1) om om (SE.three (s1:=1) (s2:=1) (s3:=1) om om (SE.nil om om om) (SE.int om om) (SE.nil om om om) om) (SE.int om om) (SE.nil om om om) om,by omega⟩⟩ (lr _)))))))))))
 refine ak (Zv 1 [0] (iA [.i 0,.i 0,nl] fun b9=>ZH 0 b9 (X3 (Z1.mk 6 0 [])) (ie (YP 1 (ic [4] (WE rd bs p 3 (ZO:=ob)) ?_)))))
 rintro _ _ ⟨k4,rfl,rfl,YS⟩
 have qhp4:=YS.lt om
 refine ia ((1+k4)) ((1)+(k4)) (Z0 (ab 0 (Y2 (fun fz gz m F h=>∃(j:Int) (eQ:Z1) (pq:Nat),(0<=j/\j<=3)/\(∀g:Wg,SE g (7-2*j.toNat) eQ)/\(p+1<=pq/\pq+4*j.toNat<=p+13)/\F=sF [0,4,8] fz [(9,.i j)]/\h=[YC rd bs pq,.obj b9 (X3 eQ),Ze gz 4]/\m=j.toNat) _ _ _ ⟨(1+k4),(Z1.mk 6 0 []),p+1,ob,(fun g=>SE.nil om om om),ob,rfl,rfl,rfl⟩ (wk [0,0,2] fl) ?_)))
 rintro m F h ⟨j,eQ,pq,Yg,Zj,Zw,rfl,rfl,rfl⟩
 refine X9 (Y7 (j>0) (fun Zg=>?_) (fun Zg=>?_))
 ·refine ak (aq (ab 1 (aE 7 (ZI 5 7 [0,3] [1] (Z9 1 (dc 1 [0] [0] [b9] (Pm rd bs pq (ZO:=ob)) ?_))))))
  rintro _ _ ⟨z1,rfl,rfl,Xk⟩
  have hz:=Xk
  exact Z9 2 (Yz 2 [] [1] [b9] (AQ z1) (Z9 4 (WQ 4 [] [] [Y5 (Z1.mk 0 z1 []),Y5 eQ] (Yu [Z1.mk 0 z1 [],eQ]) (XX [Z1.mk 0 z1 [],eQ]).symm 2 3 fun v8=>YA 2 2 [] [(42,XH [Z1.mk 0 z1 [],eQ])] (Z9 5 (Yz 5 [] [] [] (W6 6 1 [Z1.mk 0 z1 [],eQ]) (Z9 6 (YO 6 2 [] [] b9 (X3 (Z1.mk 6 1 [Z1.mk 0 z1 [],eQ])) (de (az (Z2 1 (ia ((j-1)) ((j)-(1)) (Z0 (ZK ⟨(j-1),(Z1.mk 6 1 [Z1.mk 0 z1 [],eQ]),pq+4,ob,(fun g=>SE.two om om (SE.int (q:=1) om om) (Zj g) om),ob,rfl,rfl,rfl⟩ (wk [2,0,1] fl))))))))))))))
 exact ax 0 (Zv 1 [1] (ZH 2 b1 (X3 eQ) (ie (ZC (r3 [1] [Y5 eQ] [0] [(b1,b1)] ⟨eQ,pq,rfl,rfl,⟨fun g=>(⟨(Zj g).1,by have:=(Zj g).2;omega⟩:SE g 9 _),by omega⟩⟩ (lr _))))))
theorem Z9q (rd:Nat) (bs:LI) (p:Nat) (g:Wg) (gb:Nat) (rs:List Func) (ZO:∀z∈bs,0<=z/\z<=255) (hp:p+1600<=1000000000:=by exact ob) (hg:GP g:=by exact ob) (Wz:g.funcs <+: rs:=by exact ob):Zk 237 [.p rd 0,.agg (WD g gb)] [YC rd bs p,XY gb rs] (fun r h=>∃(e:Z1) (p2:Nat),r=Y5 e/\h=[YC rd bs p2,XY gb rs]/\GE g 0 200 e/\p<=p2/\p2<=p+1600):=by
 have hbv:=DY
 refine ZG 27 Tryz.func237 (ar (iA (WD g gb) fun b1=>iA [.i 0,.i 0,nl] fun b2=>ie (Y0 1 (iL (Z8 [1,1,3]) 3 1 fun v1=>ZT 0 [(8,Z4 [1,1,3])] (ic [3] (Um rd bs p [1,1,3] (ZO:=ob)) ?_)))))
 rintro _ _ ⟨z1,rfl,rfl,ZY⟩
 have hz:=BF (a:=1) (b:=3) ZY (by decide)
 refine Z0 (Zv 3 [3] (iL (Z8 [z1]) 1 1 fun v2=>ZT 0 [(13,Z4 [z1])] (ic [1,4] (Kt rd bs (p+1) g gb rs [z1] 0 16 (ZO:=ob) (hv:=(by simp))) ?_)))
 rintro _ _ ⟨e1,p21,rfl,rfl,Yd⟩
 have Xr:=Yd.1
 have Ku:=Yd.2
 rw [hbv.2.2.2.1] at Xr
 refine iA [.i 0,.i 0,nl] fun b3=>ZH 0 b3 (X3 e1) (ie (YP 1 (ic [1] (WE rd bs p21 3 (ZO:=ob)) ?_)))
 rintro _ _ ⟨k1,rfl,rfl,YI⟩
 have qhp3:=YI.lt om
 refine Z0 (Wm (fun fz gz F h=>∃(eQ:Z1),(GE g 1 151 eQ)/\F=sF [0,4,5,6] fz []/\h=[Ze gz 0,.obj b3 (X3 eQ),Ze gz 2,Ze gz 5]) ?_ ?_)
 ·refine ac (k1==0) Zq (fun Za=>?_) (fun Za=>?_)
  ·exact az (ZL 1 [1] (TH [Y5 e1] (Yu [e1]) (XX [e1]).symm 1 3 fun v3=>ZT 0 [(19,XH [e1])] (Zx [] (W6 5 0 [e1]) (ZH 2 b3 (X3 (Z1.mk 5 0 [e1])) (ie (ZU ⟨(Z1.mk 5 0 [e1]),(GE.one om om Xr om),rfl,rfl⟩ (wk [2,0,1,3] fl)))))))
  exact ak (ZU ⟨e1,(GE.le Xr om),rfl,rfl⟩ (wk [0,0,0,2] fl))
 rintro F h ⟨eQ,AY,rfl,rfl⟩
 refine aD 7 (ZI 4 7 [0,1,3] [1] (Z9 2 (dc 2 [0] [0] [b3] (Z9n rd bs (p21+1) z1 (ZO:=ob)) ?_)))
 rintro _ _ ⟨e2,p22,rfl,rfl,YS⟩
 have hli:=YS.1
 exact Z9 4 (WQ 4 [] [] [Y5 e2,Y5 eQ] (Yu [e2,eQ]) (XX [e2,eQ]).symm 2 3 fun v4=>YA 2 2 [] [(25,XH [e2,eQ])] (Z9 5 (Yz 5 [] [] [] (W6 13 0 [e2,eQ]) (Z9 6 (YO 6 4 [] [] b2 (X3 (Z1.mk 13 0 [e2,eQ])) (de (ZC (r3 [2,3] [Y5 (Z1.mk 13 0 [e2,eQ])] [0] [(b2,b2)] ⟨(Z1.mk 13 0 [e2,eQ]),p22,rfl,rfl,⟨GE.letS ((hli g).ge (X5 _)) AY om,by omega⟩⟩ (lr _)))))))))
theorem Z9x (rd:Nat) (bs:LI) (p:Nat) (g:Wg) (gb:Nat) (rs:List Func) (f:Func) (i:Int) (w:Int) (ZO:∀z∈bs,0<=z/\z<=255) (hp:p+1000<=1000000000:=by exact ob) (hg:GP g:=by exact ob) (Wz:g.funcs <+: rs:=by exact ob) (hi:0<=i:=by exact ob) (hf:g.funcs[i.toNat]? = some f:=by exact ob) (hw:0<=w/\w<f.params.length:=by exact ob):Zk 238 [.p rd 0,.agg (WD g gb),.i i,.i w] [YC rd bs p,XY gb rs] (fun r h=>∃(e:Z1) (p2:Nat),r=Y5 e/\h=[YC rd bs p2,XY gb rs]/\GE g f.params.length 200 e/\p<=p2/\p2<=p+1000):=by
 obtain ⟨hil,_⟩:=Xs.1 hf
 have hgl:=hg.len
 have hso:=(hg.sigs f (Y3 hf)).bd
 have hbv:=DY
 refine ZG 136 Tryz.func238 (ar (iA (WD g gb) fun b1=>iA [.i 0,.i 0,nl] fun b2=>ie (Zv 3 [1] (Zr (Wt gb g.funcs.length 4 i.toNat 5 i) (Z2 1 (Vi (Vz 3 gb 4 4 5 (i.toNat * 5+0) (Zh (Xy rs)) [Z4 f.params] 31 (Z4 f.params) (UY Wz hf 0 rfl (Vl rfl))) (Z0 (Y0 1 (iw (Ya f.params) (Z0 (Y0 1 (iL (Z8 [0,1]) 2 1 fun v1=>ZT 0 [(26,Z4 [0,1])] (ic [] (KF f.params [0,1]) ?_)))))))))))))
 rintro _ _ ⟨v2,rfl,rfl⟩
 refine Z0 (ar (iL (Yu []) 0 3 fun v3=>?_))
 refine Z0 (Yn (ab 0 (Y2 (fun fz gz m F h=>∃(k:Nat) (ys:List Z1) (u:Value) (pq:Nat),(k<=f.params.length)/\(ys.length=k)/\(∀e∈ys,GE g (f.params.length+2) 3 e)/\(p<=pq/\pq<=p+k)/\F=sF [0,2,3,5,8,9,10] fz [(11,Z4 (f.params++[0,1])),(12,Kb ys u),(13,.i k)]/\h=[Ze gz 3,Ze gz 4,YC rd bs pq,Ze gz 6,.tail u 3]/\m=f.params.length-k) _ _ _ ⟨0,[],v3,p,ob,ob,(fun e he=>by cases he),ob,rfl,rfl,rfl⟩ (wk [3,3,3,3,0] (fc (x:=ZQ (f.params++[0,1]) v2) (Zd.forget _ _) (fr (Yb fl)))) ?_)))
 rintro m F h ⟨k,ys,u,pq,Yg,Zj,Zw,Yy,rfl,rfl,rfl⟩
 refine X9 (Y7 ((k:Int)<(f.params.length:Int)) (fun Za=>?_) (fun Za=>?_))
 ·refine ak (aq (ab 1 (ar (YD ((k:Int)==w) Zq (fun Zg=>?_) (fun Zg=>?_)))))
  ·exact az (Z2 2 (ia (((f.params.length+1:Nat):Int)) (((f.params.length:Int))+(1)) (Zx [] (QM ((f.params.length+1:Nat):Int)) (TH [Y5 (Z1.mk 12 ((f.params.length+1:Nat):Int) [])] (Yu [(Z1.mk 12 ((f.params.length+1:Nat):Int) [])]) (XX [(Z1.mk 12 ((f.params.length+1:Nat):Int) [])]).symm 1 3 fun v4=>ZT 0 [(41,XH [(Z1.mk 12 ((f.params.length+1:Nat):Int) [])])] (ip 5 (Yu (ys++[(Z1.mk 12 ((f.params.length+1:Nat):Int) [])])) (Yu ys) (Yu [(Z1.mk 12 ((f.params.length+1:Nat):Int) [])]) u none 3 (TD _) (TD _) (Ai _) (by simp<;>omega) (by simp [Ah,Yu]) fun v5=>Z0 (az (Z2 1 (ZJ k (Z0 (ZK ⟨k+1,(ys++[(Z1.mk 12 ((f.params.length+1:Nat):Int) [])]),v5,pq,ob,ob,(XU Zw (GE.var om om om)),ob,rfl,rfl,rfl⟩ (wk [2,2,2,2,0] (fw (ZM k fl)))))))))))))
  refine aq (Wm (fun fz gz F h=>∃(wb:Bool) (p5:Nat),(pq<=p5/\p5<=pq+1)/\F=sF [0,2,3,5,8,9,10,11,12,13] fz [(52,.b wb)]/\h=[Ze gz 0,Ze gz 1,YC rd bs p5,Ze gz 3,Ze gz 4]) ?_ ?_)
  ·refine az (Z2 2 ?_)
   obtain ⟨x1,Z3⟩:=Zu f.params k om
   refine Zr (Zm none (k:Int) 1 (Y1 Z3)) (Z2 3 (ib (b:=(x1==0)) 48 (fun Zb=>?_) (fun Zb=>?_)))
   ·refine Z2 1 (ic [2] (WE rd bs pq 2 (ZO:=ob)) ?_)
    rintro _ _ ⟨k1,rfl,rfl,Yd⟩
    have qhp2:=Yd.lt om
    exact Z0 (ZU ⟨(k1==0),pq+1,om,rfl,rfl⟩ (wk [1,1,0,0,0] fl))
   exact Z0 (ZU ⟨false,pq,ob,rfl,rfl⟩ (ZF 5 fl))
  rintro F h ⟨wb,p5,kR10_0,rfl,rfl⟩
  refine ac wb Iff.rfl (fun ZE=>?_) (fun ZE=>?_)
  ·exact az (Z2 2 (Zx [] (QM (k:Int)) (Z2 1 (Zx [] (QM (f.params.length:Int)) (TH [Y5 (Z1.mk 12 (k:Int) []),Y5 (Z1.mk 12 (f.params.length:Int) [])] (Yu [(Z1.mk 12 (k:Int) []),(Z1.mk 12 (f.params.length:Int) [])]) (XX [(Z1.mk 12 (k:Int) []),(Z1.mk 12 (f.params.length:Int) [])]).symm 2 3 fun v6=>ZT 0 [(58,XH [(Z1.mk 12 (k:Int) []),(Z1.mk 12 (f.params.length:Int) [])])] (Zx [] (W6 1 0 [(Z1.mk 12 (k:Int) []),(Z1.mk 12 (f.params.length:Int) [])]) (TH [Y5 (Z1.mk 1 0 [(Z1.mk 12 (k:Int) []),(Z1.mk 12 (f.params.length:Int) [])])] (Yu [(Z1.mk 1 0 [(Z1.mk 12 (k:Int) []),(Z1.mk 12 (f.params.length:Int) [])])]) (XX [(Z1.mk 1 0 [(Z1.mk 12 (k:Int) []),(Z1.mk 12 (f.params.length:Int) [])])]).symm 1 3 fun v7=>ZT 0 [(60,XH [(Z1.mk 1 0 [(Z1.mk 12 (k:Int) []),(Z1.mk 12 (f.params.length:Int) [])])])] (ip 6 (Yu (ys++[(Z1.mk 1 0 [(Z1.mk 12 (k:Int) []),(Z1.mk 12 (f.params.length:Int) [])])])) (Yu ys) (Yu [(Z1.mk 1 0 [(Z1.mk 12 (k:Int) []),(Z1.mk 12 (f.params.length:Int) [])])]) u none 3 (TD _) (TD _) (Ai _) (by simp<;>omega) (by simp [Ah,Yu]) fun v8=>Z0 (az (Z2 1 (ZJ k (Z0 (ZK ⟨k+1,(ys++[(Z1.mk 1 0 [(Z1.mk 12 (k:Int) []),(Z1.mk 12 (f.params.length:Int) [])])]),v8,p5,ob,ob,(XU Zw (GE.two (s1:=1) (s2:=1) om om (GE.var om om om) (GE.var om om om) om)),ob,rfl,rfl,rfl⟩ (wk [3,3,3,3,0] (fw (ZM k fl))))))))))))))))
  exact az (Z2 2 (Zx [] (QM (k:Int)) (TH [Y5 (Z1.mk 12 (k:Int) [])] (Yu [(Z1.mk 12 (k:Int) [])]) (XX [(Z1.mk 12 (k:Int) [])]).symm 1 3 fun v9=>ZT 0 [(65,XH [(Z1.mk 12 (k:Int) [])])] (ip 5 (Yu (ys++[(Z1.mk 12 (k:Int) [])])) (Yu ys) (Yu [(Z1.mk 12 (k:Int) [])]) u none 3 (TD _) (TD _) (Ai _) (by simp<;>omega) (by simp [Ah,Yu]) fun v10=>Z0 (az (Z2 1 (ZJ k (Z0 (ZK ⟨k+1,(ys++[(Z1.mk 12 (k:Int) [])]),v10,p5,ob,ob,(XU Zw (GE.var om om om)),ob,rfl,rfl,rfl⟩ (wk [2,2,2,2,0] (fw (ZM k fl))))))))))))
 refine ax 0 (ar (ZT 2 [(68,XH ys)] (Zx [] (W6 9 i ys) (iA [.i 0,.i 0,nl] fun b3=>ZH 0 b3 (X3 (Z1.mk 9 i ys)) (ie (Zv 1 [0] (iA [.i 0,.i 0,nl] fun b4=>?_)))))))
 refine ZH 0 b4 (X3 (Z1.mk 9 i ys)) (ie (aq (aq (Wm (fun fz gz F h=>∃(wb:Bool) (p5:Nat),(pq<=p5/\p5<=pq+1)/\F=sF [0,2,3,5,8,9,10,11,14,15] fz [(82,.b wb)]/\h=[Ze gz 0,Ze gz 1,Ze gz 2,Ze gz 3,YC rd bs p5,Ze gz 5]) ?_ ?_))))
 ·refine az (ZL 3 [3] (Zr (Wt gb g.funcs.length 4 i.toNat 5 i) (Z2 1 (Vi (Vz 5 gb 4 4 5 (i.toNat * 5+1) (Zh (Xy rs)) [.i f.result] 3 (.i f.result) (UY Wz hf 1 rfl (Vl rfl))) (Z2 2 (ib (b:=(f.result==1)) 78 (fun ZA=>?_) (fun ZA=>?_)))))))
  ·refine Z2 1 (ic [4] (WE rd bs pq 5 (ZO:=ob)) ?_)
   rintro _ _ ⟨k2,rfl,rfl,Xk⟩
   have qhp5:=Xk.lt om
   exact Z0 (ZU ⟨(decide (k2>0)),pq+1,ob,rfl,rfl⟩ (wk [1,1,1,1,0,0] fl))
  exact Z0 (ZU ⟨false,pq,ob,rfl,rfl⟩ (ZF 6 fl))
 rintro F h ⟨wb,p5,kR15_0,rfl,rfl⟩
 refine Wm (fun fz gz F h=>∃(eQ:Z1) (p6:Nat),(GE g (f.params.length+2) 41 eQ)/\(p5<=p6/\p6<=p5+302)/\F=sF [0,2,3,5,8,9,15] fz []/\h=[.obj b4 (X3 eQ),Ze gz 2,Ze gz 3,YC rd bs p6,Ze gz 5]) ?_ ?_
 ·refine ac wb Iff.rfl (fun Yi=>?_) (fun Yi=>?_)
  ·refine Zv 3 [3] (ic [4,4] (Kt rd bs p5 g gb rs (f.params++[0,1]) 0 4 (ZO:=ob) (hv:=(by first|omega|(simp only [Ys,YZ,XL];omega)))) ?_)
   rintro _ _ ⟨e1,p21,rfl,rfl,Wy⟩
   have Xr:=Wy.1
   have Ku:=Wy.2
   try rw [Ys] at Xr
   rw [hbv.2.1] at Xr
   refine iA [.i 0,.i 0,nl] fun b5=>?_
   refine ZH 0 b5 (X3 e1) (ie (aq (aq (Wm (fun fz gz F h=>∃(wc:Bool),(True)/\F=sF [0,2,3,5,8,9,10,14,15,16] fz [(94,.b wc)]/\h=gz) ?_ ?_))))
   ·refine az (Z2 3 (ib (b:=(decide ((f.params.length:Int)>1))) 89 (fun Yp=>?_) (fun Yp=>?_)))
    ·refine Z2 1 ?_
     obtain ⟨x2,Zs⟩:=Zu f.params 0 om
     exact Zr (Zm none 0 1 (Y1 Zs)) (Z0 (ZU ⟨(x2==2),ob,rfl,rfl⟩ (ZF 7 fl)))
    exact Z0 (ZU ⟨false,ob,rfl,rfl⟩ (ZF 7 fl))
   rintro F h ⟨wc,kR17_0,rfl,rfl⟩
   refine Wm (fun fz gz F h=>∃(eA:Z1),(GE g (f.params.length+2) 30 eA)/\F=sF [0,2,3,5,8,9,14,15,16] fz []/\h=[.obj b5 (X3 eA),Ze gz 1,Ze gz 2,Ze gz 3,Ze gz 4,Ze gz 5,Ze gz 6]) ?_ ?_
   ·refine ac wc Iff.rfl (fun Xg=>?_) (fun Xg=>?_)
    ·exact az (Zx [] (QM 0) (Z2 1 (Zx [] (QM (f.params.length:Int)) (TH [Y5 (Z1.mk 12 0 []),Y5 (Z1.mk 12 (f.params.length:Int) [])] (Yu [Z1.mk 12 0 [],(Z1.mk 12 (f.params.length:Int) [])]) (XX [Z1.mk 12 0 [],(Z1.mk 12 (f.params.length:Int) [])]).symm 2 3 fun v11=>ZT 0 [(98,XH [Z1.mk 12 0 [],(Z1.mk 12 (f.params.length:Int) [])])] (Zx [] (W6 11 0 [Z1.mk 12 0 [],(Z1.mk 12 (f.params.length:Int) [])]) (ZH 1 b5 (X3 (Z1.mk 11 0 [Z1.mk 12 0 [],(Z1.mk 12 (f.params.length:Int) [])])) (ie (ZU ⟨(Z1.mk 11 0 [Z1.mk 12 0 [],(Z1.mk 12 (f.params.length:Int) [])]),(GE.two (s1:=1) (s2:=1) om om (GE.var om om om) (GE.var om om om) om),rfl,rfl⟩ (wk [0,1,1,1,1,1,1] fl)))))))))
    exact ak (ZU ⟨e1,Xr,rfl,rfl⟩ (ZF 7 fl))
   rintro F h ⟨eA,Zci,rfl,rfl⟩
   exact az (ZL 2 [0,4] (TH [Y5 eA,Y5 (Z1.mk 9 i ys)] (Yu [eA,Z1.mk 9 i ys]) (XX [eA,Z1.mk 9 i ys]).symm 2 3 fun v12=>ZT 0 [(102,XH [eA,Z1.mk 9 i ys])] (Zx [] (W6 6 1 [eA,Z1.mk 9 i ys]) (ZH 4 b4 (X3 (Z1.mk 6 1 [eA,Z1.mk 9 i ys])) (ie (ZU ⟨(Z1.mk 6 1 [eA,Z1.mk 9 i ys]),p21,(GE.two (s1:=30) (s2:=10) om om Zci (GE.node (L:=f.params.length) (s:=3) (q:=10) om (fun _=>by omega) om Zw om om om) om),ob,rfl,rfl⟩ (wk [0,5,5,2,2] fl)))))))
  refine Zv 3 [3] (Zr (Wt gb g.funcs.length 4 i.toNat 5 i) (Z2 1 (Vi (Vz 5 gb 4 4 5 (i.toNat * 5+1) (Zh (Xy rs)) [.i f.result] 3 (.i f.result) (UY Wz hf 1 rfl (Vl rfl))) (YD (f.result==0) Zq (fun Xm=>?_) (fun Xm=>?_)))))
  ·refine aE 11 (ZI 6 11 [0,3,4,5,7] [3,1] (Z9 1 (dL 1 [1,3] [b3,b1] (Z8 [1,2]) 2 1 fun v13=>YA 5 5 [] [(112,Z4 [1,2])] (Z9 2 (dc 2 [5] [1,3] [b3,b1] (Um rd bs p5 [1,2] (ZO:=ob)) ?_)))))
   rintro _ _ ⟨z1,rfl,rfl,T2⟩
   have hz:=BF (a:=1) (b:=2) T2 (by decide)
   refine Z9 6 (dc 6 [0,5] [1] [b3] (Kt rd bs (p5+1) g gb rs (f.params++[0,1]) 0 4 (ZO:=ob) (hv:=(by first|omega|(simp only [Ys,YZ,XL];omega)))) ?_)
   rintro _ _ ⟨e2,p22,rfl,rfl,Tj⟩
   have Xr:=Tj.1
   have Ku:=Tj.2
   try rw [Ys] at Xr
   rw [hbv.2.1] at Xr
   exact Z9 8 (WQ 8 [] [] [Y5 e2,Y5 (Z1.mk 9 i ys)] (Yu [e2,Z1.mk 9 i ys]) (XX [e2,Z1.mk 9 i ys]).symm 2 3 fun v14=>YA 2 2 [] [(119,XH [e2,Z1.mk 9 i ys])] (Z9 9 (Yz 9 [] [] [] (W6 z1 0 [e2,Z1.mk 9 i ys]) (Z9 10 (YO 10 4 [] [] b4 (X3 (Z1.mk z1 0 [e2,Z1.mk 9 i ys])) (de (ZU ⟨(Z1.mk z1 0 [e2,Z1.mk 9 i ys]),p22,(GE.two (s1:=30) (s2:=10) om om Xr (GE.node (L:=f.params.length) (s:=3) (q:=10) om (fun _=>by omega) om Zw om om om) om),ob,rfl,rfl⟩ (wk [0,5,5,1,1] fl))))))))
  exact ak (ZU ⟨(Z1.mk 9 i ys),p5,(GE.le (GE.node (L:=f.params.length) (s:=3) (q:=10) om (fun _=>by omega) om Zw om om om) om),ob,rfl,rfl⟩ (wk [0,1,1,1,1] fl))
 rintro F h ⟨eQ,p6,Ew,Zlh,rfl,rfl⟩
 refine aD 16 (ZI 9 16 [0,2,3,4,5,6,7] [2,2] (dx 8 (Wt gb g.funcs.length 4 i.toNat 5 i) (Zi 7 8 [9] (Ui 10 (Vz 4 gb 4 4 5 (i.toNat * 5+1) (Zh (Xy rs)) [.i f.result] 3 (.i f.result) (UY Wz hf 1 rfl (Vl rfl))) (ZI 5 6 [12] [0] (Z9 1 (Yz 1 [] [0,4,2,2] [b4,gb,b1,b1] (QM w) (Z9 11 (dc 11 [3,3] [0] [b4] (Kt rd bs p6 g gb rs f.params f.result 4 (ZO:=ob) (hv:=(by first|omega|(simp only [Ys,YZ,XL];omega)))) ?_)))))))))
 rintro _ _ ⟨e3,p23,rfl,rfl,Tk⟩
 have Xr:=Tk.1
 have Ku:=Tk.2
 try rw [Ys] at Xr
 rw [hbv.2.1] at Xr
 exact Z9 13 (WQ 13 [] [] [Y5 (Z1.mk 12 w []),Y5 e3,Y5 eQ] (Yu [Z1.mk 12 w [],e3,eQ]) (XX [Z1.mk 12 w [],e3,eQ]).symm 3 3 fun v15=>YA 2 2 [] [(134,XH [Z1.mk 12 w [],e3,eQ])] (Z9 14 (Yz 14 [] [] [] (W6 8 1 [Z1.mk 12 w [],e3,eQ]) (Z9 15 (YO 15 4 [] [] b2 (X3 (Z1.mk 8 1 [Z1.mk 12 w [],e3,eQ])) (de (ZC (r3 [2,2] [Y5 (Z1.mk 8 1 [Z1.mk 12 w [],e3,eQ])] [0] [(b2,b2)] ⟨(Z1.mk 8 1 [Z1.mk 12 w [],e3,eQ]),p23,rfl,rfl,⟨GE.matchL hg (s1:=1) (s2:=30) (s3:=41) (GE.var om om om) Xr Ew om,by omega⟩⟩ (lr _)))))))))
theorem Z9y (rd:Nat) (bs:LI) (p:Nat) (g:Wg) (gb:Nat) (rs:List Func) (f:Func) (i:Int) (ZO:∀z∈bs,0<=z/\z<=255) (hp:p+1000<=1000000000:=by exact ob) (hg:GP g:=by exact ob) (Wz:g.funcs <+: rs:=by exact ob) (hi:0<=i:=by exact ob) (hf:g.funcs[i.toNat]? = some f:=by exact ob) (h0:0<f.params.length:=by exact ob):Zk 239 [.p rd 0,.agg (WD g gb),.i i] [YC rd bs p,XY gb rs] (fun r h=>∃(e:Z1) (p2:Nat),r=Y5 e/\h=[YC rd bs p2,XY gb rs]/\GE g f.params.length 200 e/\p<=p2/\p2<=p+1000):=by
 obtain ⟨hil,_⟩:=Xs.1 hf
 have hgl:=hg.len
 have hso:=(hg.sigs f (Y3 hf)).bd
 have hbv:=DY
 refine ZG 96 Tryz.func239 (ar (iA (WD g gb) fun b1=>iA [.i 0,.i 0,nl] fun b2=>ie (Zv 3 [1] (Zr (Wt gb g.funcs.length 4 i.toNat 5 i) (Z2 1 (Vi (Vz 3 gb 4 4 5 (i.toNat * 5+0) (Zh (Xy rs)) [Z4 f.params] 31 (Z4 f.params) (UY Wz hf 0 rfl (Vl rfl))) (Z0 (Y0 1 (iw (Ya f.params) (Z0 (Y0 1 (Zx [] (QM (f.params.length:Int)) (TH [Y5 (Z1.mk 12 (f.params.length:Int) [])] (Yu [(Z1.mk 12 (f.params.length:Int) [])]) (XX [(Z1.mk 12 (f.params.length:Int) [])]).symm 1 3 fun v1=>Z0 (Y0 1 (ia (((f.params.length+2:Nat):Int)) (((f.params.length:Int))+(2)) (Zx [] (QM ((f.params.length+2:Nat):Int)) (TH [Y5 (Z1.mk 12 ((f.params.length+2:Nat):Int) [])] (Yu [(Z1.mk 12 ((f.params.length+2:Nat):Int) [])]) (XX [(Z1.mk 12 ((f.params.length+2:Nat):Int) [])]).symm 1 3 fun v2=>?_)))))))))))))))))
 refine Z0 (Yn (ab 0 (Y2 (fun fz gz m F h=>∃(k:Nat) (ys:List Z1) (u:Value) (zs:List Z1) (w:Value),(1<=k/\k<=f.params.length)/\(ys.length=k)/\(zs.length=k)/\(∀e∈ys,GE g (f.params.length+3) 1 e)/\(∀e∈zs,GE g (f.params.length+3) 1 e)/\F=sF [0,2,4,6,7,8] fz [(9,Kb ys u),(10,Kb zs w),(11,.i k)]/\h=[Ze gz 2,Ze gz 3,Ze gz 4,Ze gz 5,.tail u 3,.tail w 3]/\m=f.params.length-k) _ _ _ ⟨1,[(Z1.mk 12 (f.params.length:Int) [])],v1,[(Z1.mk 12 ((f.params.length+2:Nat):Int) [])],v2,ob,ob,ob,(I2 (GE.var om om om)),(I2 (GE.var om om om)),rfl,rfl,rfl⟩ (wk [2,2,2,2,1,0] (fw (fc (x:=.i 1) li fl))) ?_)))
 rintro m F h ⟨k,ys,u,zs,w,Yg,Zj,Zw,Yy,XW,rfl,rfl,rfl⟩
 refine X9 (Y7 ((k:Int)<(f.params.length:Int)) (fun Za=>?_) (fun Za=>?_))
 ·exact ak (aq (ab 1 (Y0 2 (Zx [] (QM (k:Int)) (TH [Y5 (Z1.mk 12 (k:Int) [])] (Yu [(Z1.mk 12 (k:Int) [])]) (XX [(Z1.mk 12 (k:Int) [])]).symm 1 3 fun v3=>ZT 0 [(38,XH [(Z1.mk 12 (k:Int) [])])] (ip 5 (Yu (ys++[(Z1.mk 12 (k:Int) [])])) (Yu ys) (Yu [(Z1.mk 12 (k:Int) [])]) u none 3 (TD _) (TD _) (Ai _) (by simp<;>omega) (by simp [Ah,Yu]) fun v4=>Z0 (az (Z2 2 (Zx [] (QM (k:Int)) (TH [Y5 (Z1.mk 12 (k:Int) [])] (Yu [(Z1.mk 12 (k:Int) [])]) (XX [(Z1.mk 12 (k:Int) [])]).symm 1 3 fun v5=>ZT 0 [(43,XH [(Z1.mk 12 (k:Int) [])])] (ip 7 (Yu (zs++[(Z1.mk 12 (k:Int) [])])) (Yu zs) (Yu [(Z1.mk 12 (k:Int) [])]) w none 3 (TD _) (TD _) (Ai _) (by simp<;>omega) (by simp [Ah,Yu]) fun v6=>Z0 (az (Z2 1 (ZJ k (Z0 (ZK ⟨k+1,(ys++[(Z1.mk 12 (k:Int) [])]),v4,(zs++[(Z1.mk 12 (k:Int) [])]),v6,ob,ob,ob,(XU Yy (GE.var om om om)),(XU XW (GE.var om om om)),rfl,rfl,rfl⟩ (wk [4,4,4,4,2,0] (fw (ZM k fl)))))))))))))))))))
 refine ax 0 (ar (ZT 2 [(46,XH ys)] (Zx [] (W6 9 i ys) (iA [.i 0,.i 0,nl] fun b3=>ZH 0 b3 (X3 (Z1.mk 9 i ys)) (ie (ar (ZT 2 [(49,XH zs)] (Zx [] (W6 9 i zs) (iA [.i 0,.i 0,nl] fun b4=>?_)))))))))
 refine ZH 0 b4 (X3 (Z1.mk 9 i zs)) (ie (aD 14 (ZI 9 14 [0,1,2,3,7] [1,3,0] (Jm (fun fz gz F h=>∃(e1:Z1) (p21:Nat) (b5:Nat),(GE g (f.params++[3,0,3]).length (bS 4) e1/\p<=p21/\p21<=p+bC 4)/\F=sF [0,2,4,6,7,8,12] fz [(14,.p b5 0)]/\h=[.obj b5 (X3 (Z1.mk 1 0 [Z1.mk 9 i ys,Z1.mk 1 0 [e1,Z1.mk 9 i zs]])),YC rd bs p21,Ze gz 5,Ze gz 0,Ze gz 1,Ze gz 2,Ze gz 3,Ze gz 6,Ze gz 7]) ?_ ?_))))
 ·refine VJ 4 12 ?_ ?_
  ·refine dL 4 [0,3,1] [b4,b1,b3] (Z8 [3,0,3]) 3 1 fun v7=>YA 8 8 [] [(55,Z4 [3,0,3])] (VJ 5 12 ?_ ?_)
   ·refine dc 5 [] [0,3,1] [b4,b1,b3] (KF f.params [3,0,3]) ?_
    rintro _ _ ⟨v8,rfl,rfl⟩
    refine YA 7 7 [] [(56,Z4 (f.params++[3,0,3]))] (VJ 6 12 ?_ ?_)
    ·refine dc 6 [6,6] [0,1] [b4,b3] (Kt rd bs p g gb rs (f.params++[3,0,3]) 0 4 (ZO:=ob) (hv:=(by first|omega|(simp only [Ys,YZ,XL];omega)))) ?_
     rintro _ _ ⟨e1,p21,rfl,rfl,ZY⟩
     have Xr:=ZY.1
     have Ku:=ZY.2
     try rw [Ys] at Xr
     rw [hbv.2.1] at Xr
     refine VJ 8 12 ?_ ?_
     ·refine WQ 8 [3] [b3] [Y5 e1,Y5 (Z1.mk 9 i zs)] (Yu [e1,Z1.mk 9 i zs]) (XX [e1,Z1.mk 9 i zs]).symm 2 3 fun v9=>YA 5 5 [] [(59,XH [e1,Z1.mk 9 i zs])] (VJ 9 12 ?_ ?_)
      ·refine Yz 9 [] [3] [b3] (W6 1 0 [e1,Z1.mk 9 i zs]) (VJ 10 12 ?_ ?_)
       ·refine WQ 10 [] [] [Y5 (Z1.mk 9 i ys),Y5 (Z1.mk 1 0 [e1,Z1.mk 9 i zs])] (Yu [Z1.mk 9 i ys,Z1.mk 1 0 [e1,Z1.mk 9 i zs]]) (XX [Z1.mk 9 i ys,Z1.mk 1 0 [e1,Z1.mk 9 i zs]]).symm 2 3 fun v10=>YA 3 3 [] [(61,XH [Z1.mk 9 i ys,Z1.mk 1 0 [e1,Z1.mk 9 i zs]])] (VJ 11 12 ?_ ?_)
        ·exact Yz 11 [] [] [] (W6 1 0 [Z1.mk 9 i ys,Z1.mk 1 0 [e1,Z1.mk 9 i zs]]) (Z9 12 (dA 12 [] [] [.i 0,.i 0,nl] fun b5=>Z9 13 (YO 13 0 [] [] b5 (X3 (Z1.mk 1 0 [Z1.mk 9 i ys,Z1.mk 1 0 [e1,Z1.mk 9 i zs]])) (de (ZU ⟨e1,p21,b5,(by assumption),rfl,rfl⟩ (wk [0,2,2,4,4,4,4,4,4] fl))))))
        exact dA 12 [] [] [.i 0,.i 0,nl] fun b6=>Z9 11 (Yz 11 [] [] [] (W6 1 0 [Z1.mk 9 i ys,Z1.mk 1 0 [e1,Z1.mk 9 i zs]]) (Z9 13 (YO 13 0 [] [] b6 (X3 (Z1.mk 1 0 [Z1.mk 9 i ys,Z1.mk 1 0 [e1,Z1.mk 9 i zs]])) (de (ZU ⟨e1,p21,b6,(by assumption),rfl,rfl⟩ (wk [0,2,2,4,4,4,4,4,4] fl))))))
       exact dA 12 [3] [b3] [.i 0,.i 0,nl] fun b7=>Z9 10 (WQ 10 [] [] [Y5 (Z1.mk 9 i ys),Y5 (Z1.mk 1 0 [e1,Z1.mk 9 i zs])] (Yu [Z1.mk 9 i ys,Z1.mk 1 0 [e1,Z1.mk 9 i zs]]) (XX [Z1.mk 9 i ys,Z1.mk 1 0 [e1,Z1.mk 9 i zs]]).symm 2 3 fun v11=>YA 2 2 [] [(61,XH [Z1.mk 9 i ys,Z1.mk 1 0 [e1,Z1.mk 9 i zs]])] (Z9 11 (Yz 11 [] [] [] (W6 1 0 [Z1.mk 9 i ys,Z1.mk 1 0 [e1,Z1.mk 9 i zs]]) (Z9 13 (YO 13 1 [] [] b7 (X3 (Z1.mk 1 0 [Z1.mk 9 i ys,Z1.mk 1 0 [e1,Z1.mk 9 i zs]])) (de (ZU ⟨e1,p21,b7,(by assumption),rfl,rfl⟩ (wk [0,2,2,4,4,4,4,4,4] fl))))))))
      exact dA 12 [3] [b3] [.i 0,.i 0,nl] fun b8=>Z9 9 (Yz 9 [] [4] [b3] (W6 1 0 [e1,Z1.mk 9 i zs]) (Z9 10 (WQ 10 [] [] [Y5 (Z1.mk 9 i ys),Y5 (Z1.mk 1 0 [e1,Z1.mk 9 i zs])] (Yu [Z1.mk 9 i ys,Z1.mk 1 0 [e1,Z1.mk 9 i zs]]) (XX [Z1.mk 9 i ys,Z1.mk 1 0 [e1,Z1.mk 9 i zs]]).symm 2 3 fun v12=>YA 2 2 [] [(61,XH [Z1.mk 9 i ys,Z1.mk 1 0 [e1,Z1.mk 9 i zs]])] (Z9 11 (Yz 11 [] [] [] (W6 1 0 [Z1.mk 9 i ys,Z1.mk 1 0 [e1,Z1.mk 9 i zs]]) (Z9 13 (YO 13 1 [] [] b8 (X3 (Z1.mk 1 0 [Z1.mk 9 i ys,Z1.mk 1 0 [e1,Z1.mk 9 i zs]])) (de (ZU ⟨e1,p21,b8,(by assumption),rfl,rfl⟩ (wk [0,2,2,4,4,4,4,4,4] fl))))))))))
     exact dA 12 [2,3] [b4,b3] [.i 0,.i 0,nl] fun b9=>Z9 8 (WQ 8 [4] [b3] [Y5 e1,Y5 (Z1.mk 9 i zs)] (Yu [e1,Z1.mk 9 i zs]) (XX [e1,Z1.mk 9 i zs]).symm 2 3 fun v13=>YA 4 4 [] [(59,XH [e1,Z1.mk 9 i zs])] (Z9 9 (Yz 9 [] [4] [b3] (W6 1 0 [e1,Z1.mk 9 i zs]) (Z9 10 (WQ 10 [] [] [Y5 (Z1.mk 9 i ys),Y5 (Z1.mk 1 0 [e1,Z1.mk 9 i zs])] (Yu [Z1.mk 9 i ys,Z1.mk 1 0 [e1,Z1.mk 9 i zs]]) (XX [Z1.mk 9 i ys,Z1.mk 1 0 [e1,Z1.mk 9 i zs]]).symm 2 3 fun v14=>YA 2 2 [] [(61,XH [Z1.mk 9 i ys,Z1.mk 1 0 [e1,Z1.mk 9 i zs]])] (Z9 11 (Yz 11 [] [] [] (W6 1 0 [Z1.mk 9 i ys,Z1.mk 1 0 [e1,Z1.mk 9 i zs]]) (Z9 13 (YO 13 2 [] [] b9 (X3 (Z1.mk 1 0 [Z1.mk 9 i ys,Z1.mk 1 0 [e1,Z1.mk 9 i zs]])) (de (ZU ⟨e1,p21,b9,(by assumption),rfl,rfl⟩ (wk [0,2,2,4,4,4,4,4,4] fl))))))))))))
    refine dA 12 [0,3,1] [b4,b1,b3] [.i 0,.i 0,nl] fun b10=>Z9 6 (dc 6 [7,7] [1,2] [b4,b3] (Kt rd bs p g gb rs (f.params++[3,0,3]) 0 4 (ZO:=ob) (hv:=(by first|omega|(simp only [Ys,YZ,XL];omega)))) ?_)
    rintro _ _ ⟨e2,p22,rfl,rfl,Yd⟩
    have Xr:=Yd.1
    have Ku:=Yd.2
    try rw [Ys] at Xr
    rw [hbv.2.1] at Xr
    exact Z9 8 (WQ 8 [4] [b3] [Y5 e2,Y5 (Z1.mk 9 i zs)] (Yu [e2,Z1.mk 9 i zs]) (XX [e2,Z1.mk 9 i zs]).symm 2 3 fun v15=>YA 4 4 [] [(59,XH [e2,Z1.mk 9 i zs])] (Z9 9 (Yz 9 [] [4] [b3] (W6 1 0 [e2,Z1.mk 9 i zs]) (Z9 10 (WQ 10 [] [] [Y5 (Z1.mk 9 i ys),Y5 (Z1.mk 1 0 [e2,Z1.mk 9 i zs])] (Yu [Z1.mk 9 i ys,Z1.mk 1 0 [e2,Z1.mk 9 i zs]]) (XX [Z1.mk 9 i ys,Z1.mk 1 0 [e2,Z1.mk 9 i zs]]).symm 2 3 fun v16=>YA 2 2 [] [(61,XH [Z1.mk 9 i ys,Z1.mk 1 0 [e2,Z1.mk 9 i zs]])] (Z9 11 (Yz 11 [] [] [] (W6 1 0 [Z1.mk 9 i ys,Z1.mk 1 0 [e2,Z1.mk 9 i zs]]) (Z9 13 (YO 13 4 [] [] b10 (X3 (Z1.mk 1 0 [Z1.mk 9 i ys,Z1.mk 1 0 [e2,Z1.mk 9 i zs]])) (de (ZU ⟨e2,p22,b10,(by assumption),rfl,rfl⟩ (wk [0,2,2,4,4,4,4,4,4] fl))))))))))))
   refine dA 12 [0,3,1] [b4,b1,b3] [.i 0,.i 0,nl] fun b11=>Z9 5 (dc 5 [] [1,4,2] [b4,b1,b3] (KF f.params [3,0,3]) ?_)
   rintro _ _ ⟨v17,rfl,rfl⟩
   refine YA 6 6 [] [(56,Z4 (f.params++[3,0,3]))] (Z9 6 (dc 6 [7,7] [1,2] [b4,b3] (Kt rd bs p g gb rs (f.params++[3,0,3]) 0 4 (ZO:=ob) (hv:=(by first|omega|(simp only [Ys,YZ,XL];omega)))) ?_))
   rintro _ _ ⟨e3,p23,rfl,rfl,YI⟩
   have Xr:=YI.1
   have Ku:=YI.2
   try rw [Ys] at Xr
   rw [hbv.2.1] at Xr
   exact Z9 8 (WQ 8 [4] [b3] [Y5 e3,Y5 (Z1.mk 9 i zs)] (Yu [e3,Z1.mk 9 i zs]) (XX [e3,Z1.mk 9 i zs]).symm 2 3 fun v18=>YA 4 4 [] [(59,XH [e3,Z1.mk 9 i zs])] (Z9 9 (Yz 9 [] [4] [b3] (W6 1 0 [e3,Z1.mk 9 i zs]) (Z9 10 (WQ 10 [] [] [Y5 (Z1.mk 9 i ys),Y5 (Z1.mk 1 0 [e3,Z1.mk 9 i zs])] (Yu [Z1.mk 9 i ys,Z1.mk 1 0 [e3,Z1.mk 9 i zs]]) (XX [Z1.mk 9 i ys,Z1.mk 1 0 [e3,Z1.mk 9 i zs]]).symm 2 3 fun v19=>YA 2 2 [] [(61,XH [Z1.mk 9 i ys,Z1.mk 1 0 [e3,Z1.mk 9 i zs]])] (Z9 11 (Yz 11 [] [] [] (W6 1 0 [Z1.mk 9 i ys,Z1.mk 1 0 [e3,Z1.mk 9 i zs]]) (Z9 13 (YO 13 5 [] [] b11 (X3 (Z1.mk 1 0 [Z1.mk 9 i ys,Z1.mk 1 0 [e3,Z1.mk 9 i zs]])) (de (ZU ⟨e3,p23,b11,(by assumption),rfl,rfl⟩ (wk [0,2,2,4,4,4,4,4,4] fl))))))))))))
  refine dA 12 [0,3,1] [b4,b1,b3] [.i 0,.i 0,nl] fun b12=>Z9 4 (dL 4 [1,4,2] [b4,b1,b3] (Z8 [3,0,3]) 3 1 fun v20=>YA 7 7 [] [(55,Z4 [3,0,3])] (Z9 5 (dc 5 [] [1,4,2] [b4,b1,b3] (KF f.params [3,0,3]) ?_)))
  rintro _ _ ⟨v21,rfl,rfl⟩
  refine YA 6 6 [] [(56,Z4 (f.params++[3,0,3]))] (Z9 6 (dc 6 [7,7] [1,2] [b4,b3] (Kt rd bs p g gb rs (f.params++[3,0,3]) 0 4 (ZO:=ob) (hv:=(by first|omega|(simp only [Ys,YZ,XL];omega)))) ?_))
  rintro _ _ ⟨e4,p24,rfl,rfl,YS⟩
  have Xr:=YS.1
  have Ku:=YS.2
  try rw [Ys] at Xr
  rw [hbv.2.1] at Xr
  exact Z9 8 (WQ 8 [4] [b3] [Y5 e4,Y5 (Z1.mk 9 i zs)] (Yu [e4,Z1.mk 9 i zs]) (XX [e4,Z1.mk 9 i zs]).symm 2 3 fun v22=>YA 4 4 [] [(59,XH [e4,Z1.mk 9 i zs])] (Z9 9 (Yz 9 [] [4] [b3] (W6 1 0 [e4,Z1.mk 9 i zs]) (Z9 10 (WQ 10 [] [] [Y5 (Z1.mk 9 i ys),Y5 (Z1.mk 1 0 [e4,Z1.mk 9 i zs])] (Yu [Z1.mk 9 i ys,Z1.mk 1 0 [e4,Z1.mk 9 i zs]]) (XX [Z1.mk 9 i ys,Z1.mk 1 0 [e4,Z1.mk 9 i zs]]).symm 2 3 fun v23=>YA 2 2 [] [(61,XH [Z1.mk 9 i ys,Z1.mk 1 0 [e4,Z1.mk 9 i zs]])] (Z9 11 (Yz 11 [] [] [] (W6 1 0 [Z1.mk 9 i ys,Z1.mk 1 0 [e4,Z1.mk 9 i zs]]) (Z9 13 (YO 13 6 [] [] b12 (X3 (Z1.mk 1 0 [Z1.mk 9 i ys,Z1.mk 1 0 [e4,Z1.mk 9 i zs]])) (de (ZU ⟨e4,p24,b12,(by assumption),rfl,rfl⟩ (wk [0,2,2,4,4,4,4,4,4] fl))))))))))))
 rintro F h ⟨e1,p21,b5,ZY,rfl,rfl⟩
 have Xr:=ZY.1
 have Ku:=ZY.2
 try rw [Ys] at Xr
 rw [hbv.2.1] at Xr
 refine Yk 3 [6] (Zr (Wt gb g.funcs.length 4 i.toNat 5 i) (Z2 1 (Vi (Vz 2 gb 4 4 5 (i.toNat * 5+1) (Zh (Xy rs)) [.i f.result] 3 (.i f.result) (UY Wz hf 1 rfl (Vl rfl))) (Z0 (Wm (fun fz gz F h=>∃(eQ:Z1) (p6:Nat),(GE g (f.params.length+3) 52 eQ)/\(p<=p6/\p6<=p+650)/\F=sF [0,2,4,6,7,14] fz []/\h=[.obj b5 (X3 eQ),YC rd bs p6,Ze gz 2,Ze gz 5,Ze gz 6]) ?_ ?_)))))
 ·refine ac (f.result==3) Zq (fun Zg=>?_) (fun Zg=>?_)
  ·refine aE 13 (ZI 8 13 [0,1,2,3,7] [4,6] (da 8 (((f.params.length+2:Nat):Int)) (((f.params.length:Int))+(2)) (Z9 4 (dL 4 [6,4] [b1,b3] (Z8 [3,0,3]) 3 1 fun v24=>YA 6 6 [] [(74,Z4 [3,0,3])] (Z9 5 (dc 5 [] [6,4] [b1,b3] (KF f.params [3,0,3]) ?_))))))
   rintro _ _ ⟨v25,rfl,rfl⟩
   refine YA 5 5 [] [(75,Z4 (f.params++[3,0,3]))] (Z9 6 (dc 6 [3,3] [2] [b3] (Kt rd bs p21 g gb rs (f.params++[3,0,3]) 0 4 (ZO:=ob) (hv:=(by first|omega|(simp only [Ys,YZ,XL];omega)))) ?_))
   rintro _ _ ⟨e5,p25,rfl,rfl,Xk⟩
   have Xr:=Xk.1
   have Ku:=Xk.2
   try rw [Ys] at Xr
   rw [hbv.2.1] at Xr
   exact Z9 9 (Yz 9 [] [4] [b3] (QM ((f.params.length+2:Nat):Int)) (Z9 10 (WQ 10 [] [] [Y5 (Z1.mk 9 i ys),Y5 e5,Y5 (Z1.mk 12 ((f.params.length+2:Nat):Int) [])] (Yu [Z1.mk 9 i ys,e5,(Z1.mk 12 ((f.params.length+2:Nat):Int) [])]) (XX [Z1.mk 9 i ys,e5,(Z1.mk 12 ((f.params.length+2:Nat):Int) [])]).symm 3 3 fun v26=>YA 2 2 [] [(80,XH [Z1.mk 9 i ys,e5,(Z1.mk 12 ((f.params.length+2:Nat):Int) [])])] (Z9 11 (Yz 11 [] [] [] (W6 6 3 [Z1.mk 9 i ys,e5,(Z1.mk 12 ((f.params.length+2:Nat):Int) [])]) (Z9 12 (YO 12 5 [] [] b5 (X3 (Z1.mk 6 3 [Z1.mk 9 i ys,e5,(Z1.mk 12 ((f.params.length+2:Nat):Int) [])])) (de (ZU ⟨(Z1.mk 6 3 [Z1.mk 9 i ys,e5,(Z1.mk 12 ((f.params.length+2:Nat):Int) [])]),p25,(GE.three (s1:=10) (s2:=30) (s3:=1) om om (GE.node (L:=f.params.length) (s:=1) (q:=10) om (fun _=>by omega) om Yy om om om) Xr (GE.var om om om) om),ob,rfl,rfl⟩ (wk [0,1,1,5,5] fl))))))))))
  exact ak (ZU ⟨(Z1.mk 1 0 [Z1.mk 9 i ys,Z1.mk 1 0 [e1,Z1.mk 9 i zs]]),p21,(GE.two (s1:=10) (s2:=41) om om (GE.node (L:=f.params.length) (s:=1) (q:=10) om (fun _=>by omega) om Yy om om om) (GE.two (s1:=30) (s2:=10) om om Xr (GE.node (L:=f.params.length) (s:=1) (q:=10) om (fun _=>by omega) om XW om om om) om) om),ob,rfl,rfl⟩ (wk [0,0,0,2,2] fl))
 rintro F h ⟨eQ,p6,Kx,GM,rfl,rfl⟩
 refine aD 15 (ZI 9 15 [1,2,3,4,5,6] [4,4] (dx 7 (Wt gb g.funcs.length 4 i.toNat 5 i) (Zi 7 8 [8] (Ui 9 (Vz 2 gb 4 4 5 (i.toNat * 5+1) (Zh (Xy rs)) [.i f.result] 3 (.i f.result) (UY Wz hf 1 rfl (Vl rfl))) (ZI 5 6 [11] [0] (Z9 0 (Yz 0 [] [0,2,4,4] [b5,gb,b1,b1] (QM 0) (Z9 10 (dc 10 [1,1] [0] [b5] (Kt rd bs p6 g gb rs f.params f.result 4 (ZO:=ob) (hv:=(by first|omega|(simp only [Ys,YZ,XL];omega)))) ?_)))))))))
 rintro _ _ ⟨e6,p26,rfl,rfl,XZ⟩
 have Xr:=XZ.1
 have Ku:=XZ.2
 try rw [Ys] at Xr
 rw [hbv.2.1] at Xr
 exact Z9 12 (WQ 12 [] [] [Y5 (Z1.mk 12 0 []),Y5 e6,Y5 eQ] (Yu [Z1.mk 12 0 [],e6,eQ]) (XX [Z1.mk 12 0 [],e6,eQ]).symm 3 3 fun v27=>YA 2 2 [] [(94,XH [Z1.mk 12 0 [],e6,eQ])] (Z9 13 (Yz 13 [] [] [] (W6 8 3 [Z1.mk 12 0 [],e6,eQ]) (Z9 14 (YO 14 4 [] [] b2 (X3 (Z1.mk 8 3 [Z1.mk 12 0 [],e6,eQ])) (de (ZC (r3 [2,2] [Y5 (Z1.mk 8 3 [Z1.mk 12 0 [],e6,eQ])] [0] [(b2,b2)] ⟨(Z1.mk 8 3 [Z1.mk 12 0 [],e6,eQ]),p26,rfl,rfl,⟨GE.matchT hg (s1:=1) (s2:=30) (s3:=52) (GE.var om om om) Xr Kx om,by omega⟩⟩ (lr _)))))))))
theorem Z95 (rd:Nat) (bs:LI) (p:Nat) (g:Wg) (gb:Nat) (rs:List Func) (f:Func) (i:Int) (ZO:∀z∈bs,0<=z/\z<=255) (hp:p+1000<=1000000000:=by exact ob) (hg:GP g:=by exact ob) (Wz:g.funcs <+: rs:=by exact ob) (hi:0<=i:=by exact ob) (hf:g.funcs[i.toNat]? = some f:=by exact ob) (h0:0<f.params.length:=by exact ob):Zk 240 [.p rd 0,.agg (WD g gb),.i i] [YC rd bs p,XY gb rs] (fun r h=>∃(e:Z1) (p2:Nat),r=Y5 e/\h=[YC rd bs p2,XY gb rs]/\GE g f.params.length 200 e/\p<=p2/\p2<=p+1000):=by
 obtain ⟨hil,_⟩:=Xs.1 hf
 have hgl:=hg.len
 have hso:=(hg.sigs f (Y3 hf)).bd
 have hbv:=DY
 refine ZG 75 Tryz.func240 (ar (iA (WD g gb) fun b1=>iA [.i 0,.i 0,nl] fun b2=>ie (Zv 3 [1] (Zr (Wt gb g.funcs.length 4 i.toNat 5 i) (Z2 1 (Vi (Vz 3 gb 4 4 5 (i.toNat * 5+0) (Zh (Xy rs)) [Z4 f.params] 31 (Z4 f.params) (UY Wz hf 0 rfl (Vl rfl))) (Z0 (ar (Zx [] (QM 0) (Zx [] (AQ 1) (TH [Y5 (Z1.mk 12 0 []),Y5 (Z1.mk 0 1 [])] (Yu [Z1.mk 12 0 [],Z1.mk 0 1 []]) (XX [Z1.mk 12 0 [],Z1.mk 0 1 []]).symm 2 3 fun v1=>ZT 0 [(20,XH [Z1.mk 12 0 [],Z1.mk 0 1 []])] (Zx [] (W6 2 0 [Z1.mk 12 0 [],Z1.mk 0 1 []]) (TH [Y5 (Z1.mk 2 0 [Z1.mk 12 0 [],Z1.mk 0 1 []])] (Yu [Z1.mk 2 0 [Z1.mk 12 0 [],Z1.mk 0 1 []]]) (XX [Z1.mk 2 0 [Z1.mk 12 0 [],Z1.mk 0 1 []]]).symm 1 3 fun v2=>?_)))))))))))))
 refine Z0 (Yn (ab 0 (Y2 (fun fz gz m F h=>∃(k:Nat) (ys:List Z1) (u:Value) (pq:Nat),(1<=k/\k<=f.params.length)/\(ys.length=k)/\(∀e∈ys,GE g f.params.length 4 e)/\(p<=pq/\pq<=p+30*k)/\F=sF [0,2,4,6,7] fz [(8,Kb ys u),(9,.i k)]/\h=[Ze gz 2,Ze gz 3,YC rd bs pq,Ze gz 5,.tail u 3]/\m=f.params.length-k) _ _ _ ⟨1,[Z1.mk 2 0 [Z1.mk 12 0 [],Z1.mk 0 1 []]],v2,p,ob,ob,(I2 (GE.two (s1:=1) (s2:=1) om om (GE.var om om om) (GE.int om om) om)),ob,rfl,rfl,rfl⟩ (wk [2,2,2,2,0] (fr (fc (x:=.i 1) li fl))) ?_)))
 rintro m F h ⟨k,ys,u,pq,Yg,Zj,Zw,Yy,rfl,rfl,rfl⟩
 refine YP 2 (iw (Ya f.params) (Y7 ((k:Int)<(f.params.length:Int)) (fun Za=>?_) (fun Za=>?_)))
 ·refine ak (aq (ab 1 (aE 12 (ZI 6 12 [0,1,2,3,4,5] [1] ?_))))
  obtain ⟨x1,Z3⟩:=Zu f.params k om
  refine dx 6 (Zm none (k:Int) 1 (Y1 Z3)) (Zi 4 5 [7] (Z9 8 (dc 8 [2,2] [] [] (De rd bs pq g gb rs f.params x1 (ZO:=ob)) ?_)))
  rintro _ _ ⟨e1,p21,rfl,rfl,ZY⟩
  have hle:=ZY.1
  exact Z9 9 (WQ 9 [] [] [Y5 e1] (Yu [e1]) (XX [e1]).symm 1 3 fun v3=>YA 2 2 [] [(38,XH [e1])] (Z9 10 (dp 10 5 [] [] (Yu (ys++[e1])) (Yu ys) (Yu [e1]) u none 3 (TD _) (TD _) (Ai _) (by simp<;>omega) (by simp [Ah,Yu]) fun v4=>Zi 0 1 [11] (de (az (Z2 1 (ZJ k (Z0 (ZK ⟨k+1,(ys++[e1]),v4,p21,ob,ob,(XU Zw hle),ob,rfl,rfl,rfl⟩ (wk [4,4,2,2,0] (fr (ZM k fl))))))))))))
 refine ax 0 (ar (ZT 2 [(41,XH ys)] (Zx [] (W6 9 i ys) (iA [.i 0,.i 0,nl] fun b3=>?_))))
 refine ZH 0 b3 (X3 (Z1.mk 9 i ys)) (ie (Yk 3 [2] (Zr (Wt gb g.funcs.length 4 i.toNat 5 i) (Z2 1 (Vi (Vz 4 gb 4 4 5 (i.toNat * 5+1) (Zh (Xy rs)) [.i f.result] 3 (.i f.result) (UY Wz hf 1 rfl (Vl rfl))) (Z0 (Wm (fun fz gz F h=>∃(eQ:Z1) (p6:Nat),(GE g f.params.length 34 eQ)/\(p<=p6/\p6<=p+350)/\F=sF [0,2,4,6,7,10] fz []/\h=[.obj b3 (X3 eQ),Ze gz 1,Ze gz 2,YC rd bs p6,Ze gz 4]) ?_ ?_)))))))
 ·refine ac (f.result==1) Zq (fun Zg=>?_) (fun Zg=>?_)
  ·refine aE 8 (ZI 4 8 [0,1,2,4] [2,0] (Z9 3 (dc 3 [3,3] [0] [b3] (Kt rd bs pq g gb rs f.params 0 3 (ZO:=ob)) ?_)))
   rintro _ _ ⟨e2,p22,rfl,rfl,Yd⟩
   have Xr:=Yd.1
   have Ku:=Yd.2
   try rw [Ys] at Xr
   first|rw [hbv.2.1] at Xr|rw [hbv.1] at Xr
   exact Z9 5 (WQ 5 [] [] [Y5 e2,Y5 (Z1.mk 9 i ys)] (Yu [e2,Z1.mk 9 i ys]) (XX [e2,Z1.mk 9 i ys]).symm 2 3 fun v5=>YA 2 2 [] [(55,XH [e2,Z1.mk 9 i ys])] (Z9 6 (Yz 6 [] [] [] (W6 6 1 [e2,Z1.mk 9 i ys]) (Z9 7 (YO 7 3 [] [] b3 (X3 (Z1.mk 6 1 [e2,Z1.mk 9 i ys])) (de (ZU ⟨(Z1.mk 6 1 [e2,Z1.mk 9 i ys]),p22,(GE.two (s1:=20) (s2:=13) om om Xr (GE.node (L:=f.params.length) (s:=4) (q:=13) om (fun _=>by omega) om Zw om om om) om),ob,rfl,rfl⟩ (wk [0,3,3,1,1] fl))))))))
  exact ak (ZU ⟨(Z1.mk 9 i ys),pq,(GE.le (GE.node (L:=f.params.length) (s:=4) (q:=13) om (fun _=>by omega) om Zw om om om) om),ob,rfl,rfl⟩ (ZF 5 fl))
 rintro F h ⟨eQ,p6,Kx,GM,rfl,rfl⟩
 refine ar (Zx [] (AQ 0) (Zx [] (QM 0) (TH [Y5 (Z1.mk 0 0 []),Y5 (Z1.mk 12 0 [])] (Yu [Z1.mk 0 0 [],Z1.mk 12 0 []]) (XX [Z1.mk 0 0 [],Z1.mk 12 0 []]).symm 2 3 fun v6=>ZT 0 [(59,XH [Z1.mk 0 0 [],Z1.mk 12 0 []])] (Zx [] (W6 4 0 [Z1.mk 0 0 [],Z1.mk 12 0 []]) (iA [.i 0,.i 0,nl] fun b4=>ZH 0 b4 (X3 (Z1.mk 4 0 [Z1.mk 0 0 [],Z1.mk 12 0 []])) (ie (aD 15 (ZI 7 15 [0,1,2,3,4,5,6,7] [0,2,4,4] (dx 8 (Wt gb g.funcs.length 4 i.toNat 5 i) (Zi 5 6 [9] (Ui 10 (Vz 6 gb 4 4 5 (i.toNat * 5+1) (Zh (Xy rs)) [.i f.result] 3 (.i f.result) (UY Wz hf 1 rfl (Vl rfl))) (Z9 11 (dc 11 [5,5] [1,0] [b3,b4] (Kt rd bs p6 g gb rs f.params f.result 4 (ZO:=ob)) ?_)))))))))))))
 rintro _ _ ⟨e3,p23,rfl,rfl,YI⟩
 have Xr:=YI.1
 have Ku:=YI.2
 try rw [Ys] at Xr
 first|rw [hbv.2.1] at Xr|rw [hbv.1] at Xr
 exact Z9 12 (WQ 12 [] [] [Y5 (Z1.mk 4 0 [Z1.mk 0 0 [],Z1.mk 12 0 []]),Y5 eQ,Y5 e3] (Yu [Z1.mk 4 0 [Z1.mk 0 0 [],Z1.mk 12 0 []],eQ,e3]) (XX [Z1.mk 4 0 [Z1.mk 0 0 [],Z1.mk 12 0 []],eQ,e3]).symm 3 3 fun v7=>YA 2 2 [] [(73,XH [Z1.mk 4 0 [Z1.mk 0 0 [],Z1.mk 12 0 []],eQ,e3])] (Z9 13 (Yz 13 [] [] [] (W6 7 0 [Z1.mk 4 0 [Z1.mk 0 0 [],Z1.mk 12 0 []],eQ,e3]) (Z9 14 (YO 14 6 [] [] b2 (X3 (Z1.mk 7 0 [Z1.mk 4 0 [Z1.mk 0 0 [],Z1.mk 12 0 []],eQ,e3])) (de (ZC (r3 [2,2] [Y5 (Z1.mk 7 0 [Z1.mk 4 0 [Z1.mk 0 0 [],Z1.mk 12 0 []],eQ,e3])] [0] [(b2,b2)] ⟨(Z1.mk 7 0 [Z1.mk 4 0 [Z1.mk 0 0 [],Z1.mk 12 0 []],eQ,e3]),p23,rfl,rfl,⟨GE.three (s1:=3) (s2:=34) (s3:=30) om om (GE.two (s1:=1) (s2:=1) om om (GE.int om om) (GE.var om om om) om) Kx Xr om,by omega⟩⟩ (lr _)))))))))
theorem Za1 (xs:LI) (t:Int) (hl:xs.length<=1000:=by exact ob):Zk 235 [Z4 xs,.i t] [] (fun r h=>∃(w:Int),r=.i w/\h=[]/\-1<=w/\w<xs.length):=by
 refine ZG 19 Tryz.func235 (Zy (Yn (ab 0 (Y2 (fun fz gz m F h=>∃(k:Nat),(k<=xs.length)/\F=sF [0,1] fz [(5,.i k)]/\h=gz/\m=xs.length-k) _ _ _ ⟨0,ob,rfl,rfl,rfl⟩ (wk [] (Yb fl)) ?_))))
 rintro m F h ⟨k,Yg,rfl,rfl,rfl⟩
 refine YP 2 (iw (Ya xs) (Y7 ((k:Int)<(xs.length:Int)) (fun Za=>?_) (fun Za=>?_)))
 ·refine ak (aq (ab 1 (Y0 2 ?_)))
  obtain ⟨x1,Z3⟩:=Zu xs k om
  refine Zr (Zm none (k:Int) 1 (Y1 Z3)) (YD (x1==t) Zq (fun Zg=>?_) (fun Zg=>?_))
  ·exact ar (Zp (r1 [] ⟨(k:Int),rfl,rfl,ob⟩))
  exact ak (az (Z2 1 (ZJ k (Z0 (ZK ⟨k+1,ob,rfl,rfl,rfl⟩ (wk [] (ZM k fl)))))))
 exact ax 0 (ar (Zp (r1 [] ⟨(-1),rfl,rfl,ob⟩)))
theorem Z8q (rd:Nat) (bs:LI) (p:Nat) (g:Wg) (gb:Nat) (rs:List Func) (f:Func) (i:Int) (ZO:∀z∈bs,0<=z/\z<=255) (hp:p+90000<=1000000000) (hg:GP g) (Wz:g.funcs <+: rs) (hi:0<=i) (hf:g.funcs[i.toNat]? = some f) (h0:i=0->f.params.length=0):Zk 200 [.p rd 0,.agg (WD g gb),.i i] [YC rd bs p,XY gb rs] (fun r h=>∃(e:Z1) (p2:Nat),r=Y5 e/\h=[YC rd bs p2,XY gb rs]/\GE g f.params.length 30 e/\p<=p2/\p2<=p+90000):=by
 obtain ⟨hil,_⟩:=Xs.1 hf
 have hgl:=hg.len
 have hso:=(hg.sigs f (Y3 hf)).bd
 have hbv:=DY
 refine ZG 121 Tryz.func200 (ar (iA (WD g gb) fun b1=>iA [.i 0,.i 0,nl] fun b2=>ie (Zv 3 [1] (Zr (Wt gb g.funcs.length 4 i.toNat 5 i) (Z2 1 (Vi (Vz 3 gb 4 4 5 (i.toNat * 5+0) (Zh (Xy rs)) [Z4 f.params] 31 (Z4 f.params) (UY Wz hf 0 rfl (Vl rfl))) (Z0 (Zv 3 [1] (Zr (Wt gb g.funcs.length 4 i.toNat 5 i) (Z2 1 (Vi (Vz 3 gb 4 4 5 (i.toNat * 5+1) (Zh (Xy rs)) [.i f.result] 3 (.i f.result) (UY Wz hf 1 rfl (Vl rfl))) (Z0 (Y0 1 (ic [] (Za1 f.params 1) ?_))))))))))))))
 rintro _ _ ⟨w1,rfl,rfl,ZY⟩
 have hpl:=ZY
 refine Z0 (ar (Zx [] (AQ 0) (iA [.i 0,.i 0,nl] fun b3=>ZH 0 b3 (X3 (Z1.mk 0 0 [])) (ie (Y0 1 (ic [3] (WE rd bs p 4 (ZO:=ob)) ?_))))))
 rintro _ _ ⟨k1,rfl,rfl,Yd⟩
 have qhp2:=Yd.lt om
 refine Z0 (aq (aq (Wm (fun fz gz F h=>∃(wb:Bool),(wb=true->i=0)/\F=sF [0,2,4,6,7,8,9,10,11] fz [(34,.b wb)]/\h=gz) ?_ ?_)))
 ·refine az (Z2 3 (ib (b:=(decide (k1<3))) 31 (fun Zb=>?_) (fun Zb=>?_)))
  ·have YI:k1<3:=(dq).1 Zb
   exact Z0 (ZU ⟨(i==0),(by first|exact (fun h=>Bool.noConfusion h)|(intro h;omega)|(intro h;simp at h;omega)),rfl,rfl⟩ (ZF 5 fl))
  have YS:¬(k1<3):=Y8 dq Zb
  exact Z0 (ZU ⟨false,(by first|exact (fun h=>Bool.noConfusion h)|(intro h;omega)|(intro h;simp at h;omega)),rfl,rfl⟩ (ZF 5 fl))
 rintro F h ⟨wb,kR6_0,rfl,rfl⟩
 refine Wm (fun fz gz F h=>∃(eQ:Z1) (p6:Nat),(GE g f.params.length 200 eQ)/\(p<=p6/\p6<=p+42000)/\F=sF [0,4,6,7,8,10] fz []/\h=[YC rd bs p6,.obj b3 (X3 eQ),Ze gz 2,Ze gz 3,Ze gz 4]) ?_ ?_
 ·refine ac wb Iff.rfl (fun Za=>?_) (fun Za=>?_)
  ·refine az (ZL 2 [3] (ic [0,3] (Z9q rd bs (p+1) g gb rs (ZO:=ob)) ?_))
   rintro _ _ ⟨e1,p21,rfl,rfl,Xk⟩
   have hbd:=Xk.1
   have hbp:=Xk.2
   exact ZH 2 b3 (X3 e1) (ie (ZU ⟨e1,p21,(by rw [h0 (kR6_0 (by assumption))];exact hbd),ob,rfl,rfl⟩ (wk [1,0,1,1,0] fl)))
  refine aq (Wm (fun fz gz F h=>∃(wb:Bool),(wb=true->0<=w1)/\F=sF [0,2,4,6,7,8,9,10,11] fz [(51,.b wb)]/\h=gz) ?_ ?_)
  ·refine az (Z2 3 (ib (b:=(decide (k1<3))) 40 (fun ZA=>?_) (fun ZA=>?_)))
   ·have XZ:k1<3:=(dq).1 ZA
    refine Z2 4 (ib (b:=(decide (w1>=0))) 44 (fun Yp=>?_) (fun Yp=>?_))
    ·have Wy:w1>=0:=(dq).1 Yp
     refine Z2 3 (ib (b:=(f.result==0)) 47 (fun Xd=>?_) (fun Xd=>?_))
     ·have WW:f.result=0:=(Zq).1 Xd
      exact Z0 (ZU ⟨true,(by first|exact (fun h=>Bool.noConfusion h)|(intro h;omega)|(intro h;simp at h;omega)),rfl,rfl⟩ (ZF 5 fl))
     have Vt:¬(f.result=0):=Y8 Zq Xd
     exact Z0 (ZU ⟨(f.result==1),(by first|exact (fun h=>Bool.noConfusion h)|(intro h;omega)|(intro h;simp at h;omega)),rfl,rfl⟩ (ZF 5 fl))
    have T2:¬(w1>=0):=Y8 dq Yp
    exact Z0 (ZU ⟨false,(by first|exact (fun h=>Bool.noConfusion h)|(intro h;omega)|(intro h;simp at h;omega)),rfl,rfl⟩ (ZF 5 fl))
   have Tj:¬(k1<3):=Y8 dq ZA
   exact Z0 (ZU ⟨false,(by first|exact (fun h=>Bool.noConfusion h)|(intro h;omega)|(intro h;simp at h;omega)),rfl,rfl⟩ (ZF 5 fl))
  rintro F h ⟨wb,kR8_0,rfl,rfl⟩
  refine ac wb Iff.rfl (fun Zg=>?_) (fun Zg=>?_)
  ·refine az (ZL 4 [3] (ic [0,3] (Z9x rd bs (p+1) g gb rs _ i w1 (ZO:=ob) (hw:=(by have:=kR8_0 (by assumption);omega))) ?_))
   rintro _ _ ⟨e2,p22,rfl,rfl,Tk⟩
   have hbd:=Tk.1
   have hbp:=Tk.2
   exact ZH 2 b3 (X3 e2) (ie (ZU ⟨e2,p22,(GE.le hbd om),ob,rfl,rfl⟩ (wk [1,0,1,1,0] fl)))
  refine aq (Wm (fun fz gz F h=>∃(wb:Bool),(wb=true->0<f.params.length)/\F=sF [0,2,4,6,7,8,10,11] fz [(77,.b wb)]/\h=gz) ?_ ?_)
  ·refine az (Z2 3 (ib (b:=(decide (k1<3))) 59 (fun WK=>?_) (fun WK=>?_)))
   ·have K9:k1<3:=(dq).1 WK
    refine Z2 1 (iw (Ya f.params) (Z2 3 (ib (b:=(decide ((f.params.length:Int)>0))) 64 (fun Vf=>?_) (fun Vf=>?_))))
    ·have QT:(f.params.length:Int)>0:=(dq).1 Vf
     refine Z2 1 ?_
     obtain ⟨x1,Z3⟩:=Zu f.params 0 om
     refine Zr (Zm none 0 1 (Y1 Z3)) (Z2 4 (ib (b:=(x1==3)) 70 (fun VF=>?_) (fun VF=>?_)))
     ·have Ju:x1=3:=(Zq).1 VF
      refine Z2 3 (ib (b:=(f.result==0)) 73 (fun Vr=>?_) (fun Vr=>?_))
      ·have J2:f.result=0:=(Zq).1 Vr
       exact Z0 (ZU ⟨true,(by first|exact (fun h=>Bool.noConfusion h)|(intro h;omega)|(intro h;simp at h;omega)),rfl,rfl⟩ (ZF 5 fl))
      have By:¬(f.result=0):=Y8 Zq Vr
      exact Z0 (ZU ⟨(f.result==3),(by first|exact (fun h=>Bool.noConfusion h)|(intro h;omega)|(intro h;simp at h;omega)),rfl,rfl⟩ (ZF 5 fl))
     have JX:¬(x1=3):=Y8 Zq VF
     exact Z0 (ZU ⟨false,(by first|exact (fun h=>Bool.noConfusion h)|(intro h;omega)|(intro h;simp at h;omega)),rfl,rfl⟩ (ZF 5 fl))
    have Pw:¬((f.params.length:Int)>0):=Y8 dq Vf
    exact Z0 (ZU ⟨false,(by first|exact (fun h=>Bool.noConfusion h)|(intro h;omega)|(intro h;simp at h;omega)),rfl,rfl⟩ (ZF 5 fl))
   have Px:¬(k1<3):=Y8 dq WK
   exact Z0 (ZU ⟨false,(by first|exact (fun h=>Bool.noConfusion h)|(intro h;omega)|(intro h;simp at h;omega)),rfl,rfl⟩ (ZF 5 fl))
  rintro F h ⟨wb,kR10_0,rfl,rfl⟩
  refine ac wb Iff.rfl (fun ZE=>?_) (fun ZE=>?_)
  ·refine az (ZL 3 [3] (ic [0,3] (Z9y rd bs (p+1) g gb rs _ i (ZO:=ob) (h0:=(kR10_0 (by assumption)))) ?_))
   rintro _ _ ⟨e3,p23,rfl,rfl,Ll⟩
   have hbd:=Ll.1
   have hbp:=Ll.2
   exact ZH 2 b3 (X3 e3) (ie (ZU ⟨e3,p23,(GE.le hbd om),ob,rfl,rfl⟩ (wk [1,0,1,1,0] fl)))
  refine aq (Wm (fun fz gz F h=>∃(wb:Bool),(wb=true->0<f.params.length)/\F=sF [0,2,4,6,7,8,10] fz [(102,.b wb)]/\h=gz) ?_ ?_)
  ·refine az (Z2 3 (ib (b:=(decide (k1<3))) 84 (fun Vs=>?_) (fun Vs=>?_)))
   ·have Zam:k1<3:=(dq).1 Vs
    refine Z2 1 (iw (Ya f.params) (Z2 3 (ib (b:=(decide ((f.params.length:Int)>0))) 89 (fun K8=>?_) (fun K8=>?_))))
    ·have Zan:(f.params.length:Int)>0:=(dq).1 K8
     refine Z2 1 ?_
     obtain ⟨x2,Zs⟩:=Zu f.params 0 om
     refine Zr (Zm none 0 1 (Y1 Zs)) (Z2 4 (ib (b:=(x2==0)) 95 (fun AT=>?_) (fun AT=>?_)))
     ·have Zao:x2=0:=(Zq).1 AT
      refine Z2 3 (ib (b:=(f.result==0)) 98 (fun AU=>?_) (fun AU=>?_))
      ·have Zap:f.result=0:=(Zq).1 AU
       exact Z0 (ZU ⟨true,(by first|exact (fun h=>Bool.noConfusion h)|(intro h;omega)|(intro h;simp at h;omega)),rfl,rfl⟩ (ZF 5 fl))
      have Zaq:¬(f.result=0):=Y8 Zq AU
      exact Z0 (ZU ⟨(f.result==1),(by first|exact (fun h=>Bool.noConfusion h)|(intro h;omega)|(intro h;simp at h;omega)),rfl,rfl⟩ (ZF 5 fl))
     have Zar:¬(x2=0):=Y8 Zq AT
     exact Z0 (ZU ⟨false,(by first|exact (fun h=>Bool.noConfusion h)|(intro h;omega)|(intro h;simp at h;omega)),rfl,rfl⟩ (ZF 5 fl))
    have Zas:¬((f.params.length:Int)>0):=Y8 dq K8
    exact Z0 (ZU ⟨false,(by first|exact (fun h=>Bool.noConfusion h)|(intro h;omega)|(intro h;simp at h;omega)),rfl,rfl⟩ (ZF 5 fl))
   have Zat:¬(k1<3):=Y8 dq Vs
   exact Z0 (ZU ⟨false,(by first|exact (fun h=>Bool.noConfusion h)|(intro h;omega)|(intro h;simp at h;omega)),rfl,rfl⟩ (ZF 5 fl))
  rintro F h ⟨wb,kR12_0,rfl,rfl⟩
  refine ac wb Iff.rfl (fun Yi=>?_) (fun Yi=>?_)
  ·refine az (ZL 3 [3] (ic [0,3] (Z95 rd bs (p+1) g gb rs _ i (ZO:=ob) (h0:=(kR12_0 (by assumption)))) ?_))
   rintro _ _ ⟨e4,p24,rfl,rfl,Lm⟩
   have hbd:=Lm.1
   have hbp:=Lm.2
   exact ZH 2 b3 (X3 e4) (ie (ZU ⟨e4,p24,(GE.le hbd om),ob,rfl,rfl⟩ (wk [1,0,1,1,0] fl)))
  refine az (ZL 4 [3] (ic [0,3] (Pd rd bs (p+1) g gb rs f.params f.result 18 (ZO:=ob)) ?_))
  rintro _ _ ⟨e5,p25,rfl,rfl,Ln⟩
  have hbd:=Ln.1
  have hbp:=Ln.2
  exact ZH 2 b3 (X3 e5) (ie (ZU ⟨e5,p25,(GE.le hbd om),ob,rfl,rfl⟩ (wk [1,0,1,1,0] fl)))
 rintro F h ⟨eQ,p6,AY,PY,rfl,rfl⟩
 refine Yk 1 [1] (ic [] (Pj eQ (hz:=(by have:=AY.2;omega))) ?_)
 rintro _ _ ⟨w2,rfl,rfl,Py⟩
 have Et:=Py
 have Xu:=AY.2
 refine Y7 (w2<0) (fun Xg=>?_) (fun Xg=>?_)
 ·refine Zv 4 [3] (ic [0,3] (Pd rd bs p6 g gb rs f.params f.result 12 (ZO:=ob)) ?_)
  rintro _ _ ⟨e6,p26,rfl,rfl,Gs⟩
  have hbd:=Gs.1
  have hbp:=Gs.2
  exact ZH 3 b2 (X3 e6) (ie (ZC (r3 [1,1] [Y5 e6] [0] [(b2,b2)] ⟨e6,p26,rfl,rfl,⟨hbd,by omega⟩⟩ (lr _))))
 exact ak (Zv 1 [1] (ZH 2 b2 (X3 eQ) (ie (ZC (r3 [1,3] [Y5 eQ] [0] [(b2,b2)] ⟨eQ,p6,rfl,rfl,⟨⟨AY.1,by omega⟩,by omega⟩⟩ (lr _))))))
theorem Qr (ps:LI) (rt:Int) :Zk 199 [Z4 ps,.i rt] [] (Yr (DT (Func.mk ps rt (Z1.mk 0 0 [])))):=by
 exact ZG 8 Tryz.func199 (ar (iA [nl,.i 0,.i 0,.i 0,nl] fun b1=>ie (Y0 3 (ZH 0 b1 [Z4 ps,.i rt,.i 0,.i 0,nl] (ie (ZC (r3 [] [.agg [Z4 ps,.i rt,.i 0,.i 0,nl]] [0] [(b1,b1)] ⟨rfl,rfl⟩ (Zd.agg (.cons (Zd.sl _ (Yv Z8 ob)) (.cons li (.cons li (.cons li (.cons (Zd.sl _ rfl) .nil)))))))))))))
theorem Z9w (rd:Nat) (bs:LI) (p:Nat) (xs:LI) (ZO:∀z∈bs,0<=z/\z<=255) (hp:p+1<=1000000000:=by exact ob) (hx:0<xs.length/\xs.length<=1000000:=by exact ob) (hy:xs.all (fun x=>decide (0<=x))=true:=by exact ob):Zk 153 [.p rd 0,Z4 xs] [YC rd bs p] (fun r h=>∃(nn:Nat),r=.i nn/\h=[.obj rd [Un bs,.i (p+1:Nat)]]/\(nn:Int)∈xs):=(Um rd bs p xs ZO hp hx).mono fun r h ⟨z,hr,hh,hz⟩=>by
  have h0:0<=z:=of_decide_eq_true (A5.1 hy z hz)
  exact ⟨z.toNat,by rw [hr,Int.toNat_of_nonneg h0],hh,by rw [Int.toNat_of_nonneg h0];exact hz⟩
theorem Z8r (rd:Nat) (bs:LI) (p:Nat) (g:Wg) (gb:Nat) (rs:List Func) (f:Func) (i:Int) (nl:Nat) (ZO:∀z∈bs,0<=z/\z<=255) (hp:p+90000<=1000000000:=by exact ob) (hg:GP g:=by exact ob) (Wz:g.funcs <+: rs:=by exact ob) (hi:0<=i:=by exact ob) (hf:g.funcs[i.toNat]? = some f:=by exact ob) (h0:i=0->f.params.length=0:=by exact ob) (hn:g.funcs.length=nl:=by exact ob):Zk 200 [.p rd 0,.agg [ZP g.decls,.ms gb 0 nl 4],.i i] [YC rd bs p,XY gb rs] (fun r h=>∃(e:Z1) (p2:Nat),r=Y5 e/\h=[YC rd bs p2,XY gb rs]/\GE g f.params.length 30 e/\p<=p2/\p2<=p+90000):=(by subst hn;exact Z8q rd bs p g gb rs f i ZO hp hg Wz hi hf h0)
theorem Z9b (rd:Nat) (bs:LI) (p:Nat) (ZO:∀z∈bs,0<=z/\z<=255) (hp:p+400000<=1000000000):Zk 145 [.p rd 0] [YC rd bs p] (fun r h=>∃(rs:List Func) (ds:List Zf) (m:Nat) (gb:Nat) (p2:Nat),r=.agg [ZP ds,.ms gb 0 m 4]/\h=[XY gb rs,YC rd bs p2]/\(GL ds m 0 rs/\GD ds/\1<=m/\m<=4)/\p<=p2/\p2<=p+400000):=by
 refine ZG 110 Tryz.func145 (ar (iA [nl,nl] fun b1=>ie (Y0 1 (ic [1] (Z99 rd bs p (ZO:=ob)) ?_))))
 rintro _ _ ⟨ds1,v1,rfl,rfl,ZY⟩
 have hgd:=ZY
 refine Z2 1 (iA [nl,nl] fun b2=>ZH 0 b2 [As ds1 v1,nl] (ie (ar (iL (Z8 [1]) 1 1 fun v2=>ZT 0 [(13,Z4 [1])] (Zx [] (Qr [1] 0) (iL (Z8 [1,1]) 2 1 fun v3=>ZT 0 [(15,Z4 [1,1])] (Zx [] (Qr [1,1] 1) (iL (Z8 [1]) 1 1 fun v4=>ZT 0 [(17,Z4 [1])] (Zx [] (Qr [1] 1) (iL (Z8 [1,0]) 2 1 fun v5=>ZT 0 [(19,Z4 [1,0])] (Zx [] (Qr [1,0] 1) (iL (Z8 [2,1]) 2 1 fun v6=>ZT 0 [(21,Z4 [2,1])] (Zx [] (Qr [2,1] 1) (iL (Z8 [1,1]) 2 1 fun v7=>ZT 0 [(23,Z4 [1,1])] (Zx [] (Qr [1,1] 0) (iL (Xy [Func.mk [1] 0 (Z1.mk 0 0 []),Func.mk [1,1] 1 (Z1.mk 0 0 []),Func.mk [1] 1 (Z1.mk 0 0 []),Func.mk [1,0] 1 (Z1.mk 0 0 []),Func.mk [2,1] 1 (Z1.mk 0 0 []),Func.mk [1,1] 0 (Z1.mk 0 0 [])]) 6 5 fun v8=>Z0 (ar (iL (Z8 [3]) 1 1 fun v9=>ZT 0 [(26,Z4 [3])] (Zx [] (Qr [3] 0) (iL (Z8 [0]) 1 1 fun v10=>ZT 0 [(28,Z4 [0])] (Zx [] (Qr [0] 1) (iL (Z8 [0,1]) 2 1 fun v11=>ZT 0 [(30,Z4 [0,1])] (Zx [] (Qr [0,1] 1) (iL (Z8 [3,0]) 2 1 fun v12=>ZT 0 [(32,Z4 [3,0])] (Zx [] (Qr [3,0] 3) (iL (Z8 [3]) 1 1 fun v13=>ZT 0 [(34,Z4 [3])] (Zx [] (Qr [3] 1) (iL (Z8 [1,3,0]) 3 1 fun v14=>ZT 0 [(36,Z4 [1,3,0])] (Zx [] (Qr [1,3,0] 0) (iL (Xy [Func.mk [3] 0 (Z1.mk 0 0 []),Func.mk [0] 1 (Z1.mk 0 0 []),Func.mk [0,1] 1 (Z1.mk 0 0 []),Func.mk [3,0] 3 (Z1.mk 0 0 []),Func.mk [3] 1 (Z1.mk 0 0 []),Func.mk [1,3,0] 0 (Z1.mk 0 0 [])]) 6 5 fun v15=>Z0 (ar (iL (Z8 [0]) 1 1 fun v16=>ZT 0 [(39,Z4 [0])] (Zx [] (Qr [0] 0) (iL (Z8 [0,0]) 2 1 fun v17=>ZT 0 [(41,Z4 [0,0])] (Zx [] (Qr [0,0] 0) (iL (Z8 [1,0]) 2 1 fun v18=>ZT 0 [(43,Z4 [1,0])] (Zx [] (Qr [1,0] 0) (iL (Z8 [0]) 1 1 fun v19=>ZT 0 [(45,Z4 [0])] (Zx [] (Qr [0] 1) (iL (Xy [Func.mk [0] 0 (Z1.mk 0 0 []),Func.mk [0,0] 0 (Z1.mk 0 0 []),Func.mk [1,0] 0 (Z1.mk 0 0 []),Func.mk [0] 1 (Z1.mk 0 0 [])]) 4 5 fun v20=>Z0 (aD 26 (Zi 23 26 [2,3,4] (dn 5 (.i (([Func.mk [1] 0 (Z1.mk 0 0 []),Func.mk [1,1] 1 (Z1.mk 0 0 []),Func.mk [1] 1 (Z1.mk 0 0 []),Func.mk [1,0] 1 (Z1.mk 0 0 []),Func.mk [2,1] 1 (Z1.mk 0 0 []),Func.mk [1,1] 0 (Z1.mk 0 0 [])].length:Nat):Int)) (.i (((Xy [Func.mk [1] 0 (Z1.mk 0 0 []),Func.mk [1,1] 1 (Z1.mk 0 0 []),Func.mk [1] 1 (Z1.mk 0 0 []),Func.mk [1,0] 1 (Z1.mk 0 0 []),Func.mk [2,1] 1 (Z1.mk 0 0 []),Func.mk [1,1] 0 (Z1.mk 0 0 [])]).length:Nat):Int)) (li (by rw [D8])) (Zi 19 22 [9,10,11] (dn 12 (.i (([Func.mk [3] 0 (Z1.mk 0 0 []),Func.mk [0] 1 (Z1.mk 0 0 []),Func.mk [0,1] 1 (Z1.mk 0 0 []),Func.mk [3,0] 3 (Z1.mk 0 0 []),Func.mk [3] 1 (Z1.mk 0 0 []),Func.mk [1,3,0] 0 (Z1.mk 0 0 [])].length:Nat):Int)) (.i (((Xy [Func.mk [3] 0 (Z1.mk 0 0 []),Func.mk [0] 1 (Z1.mk 0 0 []),Func.mk [0,1] 1 (Z1.mk 0 0 []),Func.mk [3,0] 3 (Z1.mk 0 0 []),Func.mk [3] 1 (Z1.mk 0 0 []),Func.mk [1,3,0] 0 (Z1.mk 0 0 [])]).length:Nat):Int)) (li (by rw [D8])) (Zi 15 18 [16,17,18] (dn 19 (.i (([Func.mk [0] 0 (Z1.mk 0 0 []),Func.mk [0,0] 0 (Z1.mk 0 0 []),Func.mk [1,0] 0 (Z1.mk 0 0 []),Func.mk [0] 1 (Z1.mk 0 0 [])].length:Nat):Int)) (.i (((Xy [Func.mk [0] 0 (Z1.mk 0 0 []),Func.mk [0,0] 0 (Z1.mk 0 0 []),Func.mk [1,0] 0 (Z1.mk 0 0 []),Func.mk [0] 1 (Z1.mk 0 0 [])]).length:Nat):Int)) (li (by rw [D8])) (Z9 0 (dL 0 [] [] (Z8 []) 0 1 fun v21=>YA 13 13 [] [(48,Z4 [])] (Z9 1 (Yz 1 [] [] [] (Qr [] 0) (Z9 6 (dc 6 [22] [] [] (WE rd bs (p+1) (([Func.mk [1] 0 (Z1.mk 0 0 []),Func.mk [1,1] 1 (Z1.mk 0 0 []),Func.mk [1] 1 (Z1.mk 0 0 []),Func.mk [1,0] 1 (Z1.mk 0 0 []),Func.mk [2,1] 1 (Z1.mk 0 0 []),Func.mk [1,1] 0 (Z1.mk 0 0 [])].length:Nat):Int) (ZO:=ob)) ?_)))))))))))))))))))))))))))))))))))))))))))))))))))))
 rintro _ _ ⟨k1,rfl,rfl,Yd⟩
 have qhp2:=Yd.lt (by simp)
 simp only [YZ,XL] at qhp2
 obtain ⟨x1,Z3⟩:=Zu [Func.mk [1] 0 (Z1.mk 0 0 []),Func.mk [1,1] 1 (Z1.mk 0 0 []),Func.mk [1] 1 (Z1.mk 0 0 []),Func.mk [1,0] 1 (Z1.mk 0 0 []),Func.mk [2,1] 1 (Z1.mk 0 0 []),Func.mk [1,1] 0 (Z1.mk 0 0 [])] k1.toNat (by simp only [YZ,XL];omega)
 refine dx 7 (Zm (some v8) k1 5 (FV Z3)) (Zi 9 10 [8] (Z9 13 (dc 13 [0] [] [] (WE rd bs ((p+1)+1) (([Func.mk [3] 0 (Z1.mk 0 0 []),Func.mk [0] 1 (Z1.mk 0 0 []),Func.mk [0,1] 1 (Z1.mk 0 0 []),Func.mk [3,0] 3 (Z1.mk 0 0 []),Func.mk [3] 1 (Z1.mk 0 0 []),Func.mk [1,3,0] 0 (Z1.mk 0 0 [])].length:Nat):Int) (ZO:=ob)) ?_)))
 rintro _ _ ⟨k2,rfl,rfl,YI⟩
 have qhp3:=YI.lt (by simp)
 simp only [YZ,XL] at qhp3
 obtain ⟨x2,Zs⟩:=Zu [Func.mk [3] 0 (Z1.mk 0 0 []),Func.mk [0] 1 (Z1.mk 0 0 []),Func.mk [0,1] 1 (Z1.mk 0 0 []),Func.mk [3,0] 3 (Z1.mk 0 0 []),Func.mk [3] 1 (Z1.mk 0 0 []),Func.mk [1,3,0] 0 (Z1.mk 0 0 [])] k2.toNat (by simp only [YZ,XL];omega)
 refine dx 14 (Zm (some v15) k2 5 (FV Zs)) (Zi 6 7 [15] (Z9 20 (dc 20 [0] [] [] (WE rd bs (((p+1)+1)+1) (([Func.mk [0] 0 (Z1.mk 0 0 []),Func.mk [0,0] 0 (Z1.mk 0 0 []),Func.mk [1,0] 0 (Z1.mk 0 0 []),Func.mk [0] 1 (Z1.mk 0 0 [])].length:Nat):Int) (ZO:=ob)) ?_)))
 rintro _ _ ⟨k3,rfl,rfl,YS⟩
 have qhp4:=YS.lt (by simp)
 simp only [YZ,XL] at qhp4
 obtain ⟨x3,YL⟩:=Zu [Func.mk [0] 0 (Z1.mk 0 0 []),Func.mk [0,0] 0 (Z1.mk 0 0 []),Func.mk [1,0] 0 (Z1.mk 0 0 []),Func.mk [0] 1 (Z1.mk 0 0 [])] k3.toNat (by simp only [YZ,XL];omega)
 refine dx 21 (Zm (some v20) k3 5 (FV YL)) (Zi 3 4 [22] (Z9 23 (dKN 23 [] [] (Zh (Xy [Func.mk [] 0 (Z1.mk 0 0 []),x1,x2,x3])) 4 5 fun g1=>Zi 1 2 [24] (Z9 25 (YO 25 22 [] [] b2 [As ds1 v1,.ms g1 0 4 4] (de (Y0 1 (iL (Z8 [4,4,3,2,4]) 5 1 fun v22=>ZT 0 [(74,Z4 [4,4,3,2,4])] (ic [3] (Z9w rd bs ((((p+1)+1)+1)+1) [4,4,3,2,4] (ZO:=ob) (hy:=(by decide))) ?_)))))))))
 rintro _ _ ⟨nn1,rfl,rfl,Xk⟩
 have hnn:=Zeb (a:=2) (b:=4) Xk (by decide)
 refine Z0 (Zv 3 [2] (Zr (Lv 3 g1 4 4 nn1 5 (Zh (Xy [Func.mk [] 0 (Z1.mk 0 0 []),x1,x2,x3]))) (Z2 1 (ZH 2 b2 [As ds1 v1,.ms g1 0 nn1 4] (ie (YP 1 (ia (((nn1:Int)-1)) (((nn1:Int))-(1)) (Z0 (ab 0 (Y2 (fun fz gz m F h=>∃(j:Nat) (rq:List Func) (pq:Nat),(j<=nn1)/\(GL ds1 nn1 j rq)/\(p<=pq/\pq+90000*j<=p+10+90000*nn1)/\F=sF [0,2,3] fz [(8,.i ((j:Int)-1))]/\h=[Ze gz 0,YC rd bs pq,Ze gz 25,Ze gz 24,XY g1 rq]/\m=j+1) _ _ _ ⟨nn1,[Func.mk [] 0 (Z1.mk 0 0 []),x1,x2,x3],((((p+1)+1)+1)+1)+1,ob,(GL.start (Mz Z3 (by decide)) (Mz Zs (by decide)) (Mz YL (by decide))),ob,rfl,rfl,rfl⟩ (wk [0,0,23,22,1] fl) ?_))))))))))
 rintro m F h ⟨j,rq,pq,Yg,Zj,Zw,rfl,rfl,rfl⟩
 refine X9 (Y7 (((j:Int)-1)>=0) (fun Za=>?_) (fun Za=>?_))
 ·obtain ⟨f1,hf1⟩:=Zu (rq.take nn1) (((j:Int)-1).toNat) (by rw [Zj.len_take om];omega)
  have hfq:rq[j-1]? = some f1:=by have h:=hf1;rw [show ((j:Int)-1).toNat=j-1 by omega,List.getElem?_take_of_lt om] at h;exact h
  refine ak (aq (ab 1 (ar (Kc 3 [(88,.agg [ZP ds1,.ms g1 0 nn1 4])] [0] (ic [1,3] (Z8r rd bs pq (Wg.mk ds1 (rq.take nn1)) g1 rq f1 ((j:Int)-1) nn1 (ZO:=ob) (hg:=(Zj.gp hgd om)) (Wz:=(List.take_prefix nn1 rq)) (hf:=hf1) (h0:=(fun h=>Zj.zero f1 (by rw [<-hfq,show j-1=0 by omega]))) (hn:=(Zj.len_take om))) ?_)))))
  rintro _ _ ⟨e1,p21,rfl,rfl,XZ⟩
  have hbw:eW ds1 nn1 f1.params.length e1/\(e1).sz<=30:=by have h:=XZ.1;unfold GE at h;rw [show (Wg.mk ds1 (rq.take nn1)).funcs.length=nn1 from Zj.len_take om] at h;exact h
  exact iA [.i 0,.i 0,nl] fun b3=>ZH 0 b3 (X3 e1) (ie (aE 19 (ZI 13 19 [0,1,2,3,4,5] [3,3] (dx 6 (Wt g1 nn1 4 (((j:Int)-1).toNat) 5 ((j:Int)-1)) (Zi 11 12 [7] (Ui 8 (Vz 2 g1 4 4 5 ((((j:Int)-1).toNat)*5+0) (Zh (Xy rq)) [Z4 f1.params] 31 (Z4 f1.params) (UY (List.take_prefix nn1 rq) hf1 0 rfl (Vl rfl))) (ZI 7 10 [9,10,11] [3] (dx 12 (Wt g1 nn1 4 (((j:Int)-1).toNat) 5 ((j:Int)-1)) (Zi 5 6 [13] (Ui 14 (Vz 2 g1 4 4 5 ((((j:Int)-1).toNat)*5+1) (Zh (Xy rq)) [.i f1.result] 3 (.i f1.result) (UY (List.take_prefix nn1 rq) hf1 1 rfl (Vl rfl))) (ZI 2 4 [15,16] [0] (dx 17 (Wt g1 nn1 4 (((j:Int)-1).toNat) 5 ((j:Int)-1)) (Z9 18 (Cd 18 2 [] [] g1 4 4 5 ((((j:Int)-1).toNat)*5) [Z4 f1.params,.i f1.result,.i e1.op,.i e1.num,XH e1.kids] (Zh (Xy rq)) (Zh (Xy (rq.set ((j:Int)-1).toNat ⟨f1.params,f1.result,e1⟩))) (by rw [IY,Zj.len];simp only [YZ,XL];omega) (Z8b ⟨f1.params,f1.result,e1⟩ (by rw [Zj.len];omega)) (de (az (Z2 1 (ia ((((j:Int)-1)-1)) (((j:Int)-1)-(1)) (Z0 (ZK ⟨(j-1),(rq.set ((j:Int)-1).toNat ⟨f1.params,f1.result,e1⟩),p21,ob,(by rw [show ((j:Int)-1).toNat=j-1 by omega];exact Zj.set om hfq hbw),ob,rfl,rfl,rfl⟩ (wk [3,2,2,2,0] (fc (x:=.i (((j:Int)-1)-1)) li fl))))))))))))))))))))))
 exact ax 0 (Zv 1 [0] (ZH 2 b1 [As ds1 v1,.ms g1 0 nn1 4] (ie (ZC (r3 [4,2] [.agg [As ds1 v1,.ms g1 0 nn1 4]] [0] [(b1,b1)] ⟨rq,ds1,nn1,g1,pq,rfl,rfl,⟨⟨by rw [show j=0 by omega] at Zj;exact Zj,hgd,by omega,by omega⟩,by omega⟩⟩ (Zd.agg (.cons (Zd.forget _ _) (.cons (lr _) .nil))))))))
theorem Z9a (rd:Nat) (bs:LI) (p:Nat) (ZO:∀z∈bs,0<=z/\z<=255) (hp:p+400000<=1000000000:=by exact ob):Zk 145 [.p rd 0] [YC rd bs p] (fun r h=>∃(g:Wg) (p2:Nat),r=AE g/\h=[YC rd bs p2]/\HS g/\p<=p2/\p2<=p+400000):=(WA.frzP (E:=List Func × List Zf × Nat × Nat) (ds:=fun e=>e.2.1) (rs:=fun e=>e.1) (m:=fun e=>e.2.2.1) (hs:=fun e=>[.obj rd [Un bs,.i (e.2.2.2:Nat)]]) (Q:=fun e=>(GL e.2.1 e.2.2.1 0 e.1/\GD e.2.1/\1<=e.2.2.1/\e.2.2.1<=4)/\p<=e.2.2.2/\e.2.2.2<=p+400000)
  ((Z9b rd bs p ZO hp).mono fun r h ⟨rs,ds,m,gb,p2,hr,hh,hq⟩=>⟨(rs,ds,m,p2),gb,hr,hh,hq⟩) fun e hq=>⟨hq.1.2.2.2,hq.1.1.len⟩).mono
  fun r h ⟨e,hr,hh,hq⟩=>⟨⟨e.2.1,e.1.take e.2.2.1⟩,e.2.2.2,hr,hh,hq.1.1.done hq.1.2.1 hq.1.2.2,hq.2⟩
theorem Ld (a:Nat) (n:Nat) (ha:a<=1000000:=by exact ob) (hn:n<=1000000:=by exact ob):Zk 198 [.i a,.i n] [] (fun r h=>∃(xs:LI),r=Z4 xs/\h=[]/\xs.length=n/\∀i∈xs,(a:Int)<=i/\i<(a:Int)+n):=by
 refine ZG 20 Tryz.func198 (Zy (ar (iL (Z8 []) 0 1 fun v1=>?_)))
 refine Z0 (Yn (ab 0 (Y2 (fun fz gz m F h=>∃(k:Nat) (ys:LI) (u:Value),(k<=n)/\(ys.length=k)/\(∀i∈ys,(a:Int)<=i/\i<(a:Int)+n)/\F=sF [0,1] fz [(5,ZQ ys u),(6,.i k)]/\h=[.tail u 1]/\m=n-k) _ _ _ ⟨0,[],v1,ob,ob,(fun i hi=>by cases hi),rfl,rfl,rfl⟩ (wk [0] (fr (Yb fl))) ?_)))
 rintro m F h ⟨k,ys,u,Yg,Zj,Zw,rfl,rfl,rfl⟩
 refine X9 (Y7 ((k:Int)<(n:Int)) (fun Za=>?_) (fun Za=>?_))
 ·exact ak (aq (ab 1 (az (Z2 3 (ia (((a+k:Nat):Int)) (((a:Int))+((k:Int))) (iL (Z8 [((a+k:Nat):Int)]) 1 1 fun v2=>ZT 0 [(17,Z4 [((a+k:Nat):Int)])] (ip 1 (Z8 (ys++[((a+k:Nat):Int)])) (Z8 ys) (Z8 [((a+k:Nat):Int)]) u none 1 (YK _) (YK _) (Wx _) (by simp<;>omega) (by simp [Ww,Z8]) fun v3=>Z0 (az (Z2 1 (ZJ k (Z0 (ZK ⟨k+1,(ys++[((a+k:Nat):Int)]),v3,ob,ob,(XU Zw om),rfl,rfl,rfl⟩ (wk [0] (fr (ZM k fl)))))))))))))))
 exact ax 0 (ar (Zp (r2 [] [ZQ ys u] ⟨ys,rfl,rfl,⟨by omega,Zw⟩⟩ (Zd.forget _ _))))
theorem P9 (l:Nat) (xs:List Z6) (w:Value) (q:Nat) (s:Z6) (hl:xs.length<=4000000000:=by exact ob) (hq:q<=1000000:=by exact ob):Zk 271 [.p l 0,YG s] [.obj l [Xe xs w,.i q],.tail w 5] (fun r h=>∃(w2:Value),r=.i q/\h=[.obj l [Xe (xs++[s]) w2,.i (((q+1):Nat):Int)],.tail w2 5]):=by
 exact ZG 28 Tryz.func271 (ar (iA (XE s) fun b1=>Z0 (aD 11 (ZI 5 11 [0,1,2,3,4,5] [1,0] (Z9 6 (WQ 6 [1] [l] [YG s] (ZD [s]) (VL [s]).symm 1 5 fun v1=>YA 4 4 [] [(11,Vu [s])] (Z9 7 (dp 7 3 [] [] (ZD (xs++[s])) (ZD xs) (ZD [s]) w none 5 (Xv _) (Xv _) (UK _) (by simp<;>omega) (by simp [V3,ZD]) fun v2=>Zi 1 3 [8,9] (Z9 10 (YO 10 3 [] [] l [Xe (xs++[s]) v2,.i q] (de (Zv 5 [0] (ZJ q (Z2 2 (ZH 0 l [Xe (xs++[s]) v2,.i (q+1:Nat)] (ie (Zv 4 [0] (ia ((((q+1:Nat):Int)-1)) ((((q+1:Nat):Int))-(1)) (Zp (r2 [0,0] [.i (((q+1:Nat):Int)-1)] ⟨v2,rfl,rfl⟩ li))))))))))))))))))))
theorem Pi (g:Wg) (e:Z1) (us:LI) (q:Nat) (bb:Nat) (he:eW g.decls g.funcs.length us.length e:=by exact ob) (hu:∀a∈us,0<=a/\a<(q:Int)) (hul:us.length+4*e.sz<=100000:=by exact ob) (hql:q+6*e.sz<=100000:=by exact ob) (hb:e.sz<bb:=by exact ob) (ih:∀(l:Nat) (e2:Z1) (us2:LI) (xs2:List Z6) (w2:Value) (q2:Nat),(eW g.decls g.funcs.length us2.length e2)->(∀a∈us2,0<=a/\a<(q2:Int))->(us2.length+4*e2.sz<=100000)->(xs2.length+6*e2.sz<=100000)->(q2+6*e2.sz<=100000)->(e2.sz<bb)->Zk 234 [.p l 0,AE g,Y5 e2,Z4 us2] [.obj l [Xe xs2 w2,.i q2],.tail w2 5] (fun r h=>∃(ys:List Z6) (v:Int) (w2:Value),r=.i v/\h=[.obj l [Xe (xs2++ys) w2,.i (((q2+Xp ys):Nat):Int)],.tail w2 5]/\LW g.decls g.funcs.length q2 e2 ys v)):Zk 197 [AE g,Y5 e,Z4 us,.i q] [] (fun r h=>∃(b:Z7),r=Y9 b/\h=[]/\LB g.decls g.funcs.length q e b):=by
 refine ZG 26 Tryz.func197 (ar (iA (LE g) fun b1=>iA (X3 e) fun b2=>iA [nl,.i 0] fun b3=>ie (ar (iL (ZD []) 0 5 fun v1=>Z2 2 (iA [Xe [] v1,.i q] fun b4=>Z0 (Zv 4 [4,3] (ic [0,0] (ih b4 e us [] v1 q he hu ob ob ob ob) ?_)))))))
 rintro _ _ ⟨ys1,v2,w21,rfl,rfl,ZY⟩
 have hlw:=ZY
 exact Z0 (Zv 6 [0] (ZH 2 b3 [Xe ([]++ys1) w21,.i v2] (ie (ZC (r3 [] [.agg [Xe ([]++ys1) w21,.i v2]] [0] [(b3,b3)] ⟨(Z7.mk ([]++ys1) v2),rfl,rfl,(by rw [BX];exact hlw.block)⟩ (Zd.agg (.cons (Zd.forget _ _) (.cons (lr _) .nil))))))))
theorem Z9p (l:Nat) (g:Wg) (e:Z1) (us:LI) (xs:List Z6) (w:Value) (q:Nat) (hd:GD g.decls) (he:eW g.decls g.funcs.length us.length e) (hu:∀a∈us,0<=a/\a<(q:Int)) (hul:us.length+4*e.sz<=100000) (hxl:xs.length+6*e.sz<=100000) (hql:q+6*e.sz<=100000) (ih:∀(l:Nat) (e2:Z1) (us2:LI) (xs2:List Z6) (w2:Value) (q2:Nat),(eW g.decls g.funcs.length us2.length e2)->(∀a∈us2,0<=a/\a<(q2:Int))->(us2.length+4*e2.sz<=100000)->(xs2.length+6*e2.sz<=100000)->(q2+6*e2.sz<=100000)->(e2.sz<e.sz)->Zk 234 [.p l 0,AE g,Y5 e2,Z4 us2] [.obj l [Xe xs2 w2,.i q2],.tail w2 5] (fun r h=>∃(ys:List Z6) (v:Int) (w2:Value),r=.i v/\h=[.obj l [Xe (xs2++ys) w2,.i (((q2+Xp ys):Nat):Int)],.tail w2 5]/\LW g.decls g.funcs.length q2 e2 ys v)):Zk 234 [.p l 0,AE g,Y5 e,Z4 us] [.obj l [Xe xs w,.i q],.tail w 5] (fun r h=>∃(ys:List Z6) (v:Int) (w2:Value),r=.i v/\h=[.obj l [Xe (xs++ys) w2,.i (((q+Xp ys):Nat):Int)],.tail w2 5]/\LW g.decls g.funcs.length q e ys v):=by
 have XB:=hd.ok
 obtain ⟨ho,h12,h13,h7,h8,h9,hnum,hkl,hks⟩:=(Z7k e).1 he
 have hez:=e.sz_eq
 refine ZG 148 Tryz.func234 (ar (iA (LE g) fun b1=>iA (X3 e) fun b2=>Z0 (X9 (VW [0] (ab 0 (ar (YD (e.op==12) Zq (fun Za=>?_) (fun Za=>?_))))))))
 ·refine Zv 3 [0] ?_
  obtain ⟨x1,Z3⟩:=Zu us e.num.toNat (by have:=h12 om;omega)
  have huv:=hu _ (Y3 Z3)
  exact Zr (Zm none e.num 1 (Y1 Z3)) (Zp (r1 [2,2] ⟨[],x1,w,rfl,rfl,(LW.var huv)⟩ (eq:=(ro (ls:=[Xe xs w,.i q]) (by simp [Xp]) (rc rz)))))
 refine ar (YD (e.op==13) Zq (fun Zg=>?_) (fun Zg=>?_))
 ·refine aD 9 (ZI 5 9 [0,1,2,3] [1,0] ?_)
  obtain ⟨x2,Zs⟩:=Zu e.kids 0 (by have:=h13 om;omega)
  have hekx2:=Db hks Zs
  have hszx2:=Cj Zs
  have htzx2:=Bt Zs
  rw [Vm] at hekx2
  rw [Z0c om] at hekx2
  refine dx 4 (Zm none 0 3 (D7 Zs)) (Zi 2 4 [5,6] (Z9 7 (dc 7 [2,2] [] [] (ih l x2 us xs w q (by first|assumption|(rw [Ys];assumption)) (by first|assumption|exact Fk hu hlwhp1.v|exact HC hu) (by first|omega|(simp only [Ys,YZ,XL];omega)) (by first|omega|(simp only [Ys,YZ,XL];omega)) ob ob) ?_)))
  rintro _ _ ⟨ys1,v1,w21,rfl,rfl,ZY⟩
  have hlwhp1:=ZY
  have hldhp1:=ZY.dn
  refine Zi 0 1 [8] (de (aD 12 (ZI 8 12 [0,1,2,3] [3,2] ?_)))
  obtain ⟨x3,YL⟩:=Zu e.kids 1 (by have:=h13 om;omega)
  have hz2:=OK Zs YL
  have hz3:=x2.sz_eq
  have hekx3:=Db hks YL
  have hszx3:=Cj YL
  have htzx3:=Bt YL
  rw [Vm] at hekx3
  rw [Z0c om] at hekx3
  refine dx 4 (Zm none 1 3 (D7 YL)) (Zi 4 7 [5,6,7] (Z9 8 (dL 8 [1,2] [b2,b1] (Z8 [v1]) 1 1 fun v2=>YA 3 3 [] [(45,Z4 [v1])] (Z9 9 (dc 9 [] [1,2] [b2,b1] (KF us [v1]) ?_)))))
  rintro _ _ ⟨v3,rfl,rfl⟩
  refine YA 2 2 [] [(46,Z4 (us++[v1]))] (Z9 10 (dc 10 [2,2] [] [] (ih l x3 (us++[v1]) (xs++ys1) w21 (q+Xp ys1) (by first|assumption|(rw [Ys];assumption)) (by first|assumption|exact Fk hu hlwhp1.v|exact HC hu) (by first|omega|(simp only [Ys,YZ,XL];omega)) (by first|omega|(simp only [Ys,YZ,XL];omega)) ob ob) ?_))
  rintro _ _ ⟨ys2,v4,w22,rfl,rfl,Yd⟩
  have hlwhp2:=Yd
  have hldhp2:=Yd.dn
  exact Zi 0 1 [11] (de (ZC (r1 [0,0] ⟨(ys1++ys2),v4,w22,rfl,rfl,(LW.let_ hlwhp1 hlwhp2 (by have:=OK Zs YL;omega))⟩ (eq:=(ro (ls:=[Xe ((xs++ys1)++ys2) w22,.i ((((q+Xp ys1)+Xp ys2):Nat):Int)]) (by rw [AK,<-Bg,UR]) (rc rz))))))
 refine Yn (Wm (fun fz gz F h=>F=sF [0,3,5,6] fz [(48,.b ((e.op==7)||(e.op==8)))]/\h=gz) ?_ ?_)
 ·refine ac (e.op==7) Zq (fun ZE=>?_) (fun ZE=>?_)
  ·exact ak (ZU ⟨rfl,rfl⟩ (ZF 4 (fc (x:=.b (e.op==7)) (lb (by first|rfl|(rw [Zc ZE])|(rw [Z5 ZE])|(simp [ZE];done)|(rw [XK];simp [ZE];done)|omega)) fl)))
  exact T0 (ZU ⟨rfl,rfl⟩ (ZF 4 (fc (x:=.b (e.op==8)) (lb (by first|rfl|(rw [Zc ZE])|(rw [Z5 ZE])|(simp [ZE];done)|(rw [XK];simp [ZE];done)|omega)) fl)))
 rintro F h ⟨rfl,rfl⟩
 refine ac ((e.op==7)||(e.op==8)) (p:=(e.op=7)∨(e.op=8)) (Yf Zq Zq) (fun Yi=>?_) (fun Yi=>?_)
 ·refine aD 9 (ZI 5 9 [0,1,2,3] [1,0] ?_)
  obtain ⟨x4,WO⟩:=Zu e.kids 0 om
  have hekx4:=Db hks WO
  have hszx4:=Cj WO
  have htzx4:=Bt WO
  rw [Vm] at hekx4
  rw [Zgi om] at hekx4
  refine dx 4 (Zm none 0 3 (D7 WO)) (Zi 2 4 [5,6] (Z9 7 (dc 7 [2,2] [] [] (ih l x4 us xs w q (by first|assumption|(rw [Ys];assumption)) (by first|assumption|exact Fk hu hlwhp1.v|exact HC hu) (by first|omega|(simp only [Ys,YZ,XL];omega)) (by first|omega|(simp only [Ys,YZ,XL];omega)) ob ob) ?_)))
  rintro _ _ ⟨ys3,v5,w23,rfl,rfl,YI⟩
  have hlwhp3:=YI
  have hldhp3:=YI.dn
  refine Zi 0 1 [8] (de (ar (iL (YU []) 0 2 fun v6=>Z0 (Zv 4 [4,3] (ic [] (B5 g.decls e.num) ?_)))))
  rintro _ _ ⟨v7,rfl,rfl⟩
  refine Z0 (Yn (ab 1 (Y2 (fun fz gz m F h=>∃(k:Nat) (cs:List Z7) (u:Value),(1<=k/\k<=e.kids.length)/\(cs.length+1=k)/\(Qq g.decls g.funcs.length (QC g.decls e.op e.num (q+Xp ys3)) 0 cs)/\(Xl cs+6*x4.sz<=cs.length+6*XG (e.kids.take k))/\(J5 WU cs)/\F=sF [0,3,5,6,10] fz [(11,Qd cs u),(12,Z4 (ZV g.decls e.num)),(13,.i k)]/\h=[Ze gz 2,Ze gz 4,Ze gz 5,.tail u 2,Ze gz 3]/\m=e.kids.length-k) _ _ _ ⟨1,[],v6,ob,ob,True.intro,(by have h:XG (e.kids.take 1)=XG (e.kids.take 0)+x4.sz:=Bt WO;simp only [Xl,XL];omega),True.intro,rfl,rfl,rfl⟩ (wk [2,3,3,1,1] (fr (fc (x:=ZQ (ZV g.decls e.num) v7) (Zd.forget _ _) (fc (x:=.i 1) li fl)))) ?_)))
  rintro m F h ⟨k,cs,u,Yg,Zj,Zw,Yy,XW,rfl,rfl,rfl⟩
  refine Yk 3 [1] (iw (IC e.kids) (Y7 ((k:Int)<(e.kids.length:Int)) (fun Xg=>?_) (fun Xg=>?_)))
  ·refine ak (aq (ab 2 (Zy (X9 (VW [1] (Wm (fun fz gz F h=>∃(mf:Nat),(QC g.decls e.op e.num (q+Xp ys3) cs.length=(q+Xp ys3)+mf)/\(mf<=3)/\(QD g.decls e.op e.num us.length k=us.length+mf)/\F=sF [0,3,5,6,10,11,12,13] fz [(14,.i mf)]/\h=gz) ?_ ?_))))))
   ·refine ac (e.op==8) Zq (fun Xm=>?_) (fun Xm=>?_)
    ·refine aE 10 (ZI 6 10 [0,1,2,3] [2] (da 4 (((k-1:Nat):Int)) (((k:Int))-(1)) ?_))
     obtain ⟨x5,Ue⟩:=Zu (ZV g.decls e.num) (k-1) (by have:=h8 om;omega)
     exact dx 5 (Zm none ((k-1:Nat):Int) 1 (Y1 Ue)) (Zi 3 4 [6] (Z9 7 (Yz 7 [] [] [] (JA g.decls x5) (dn 8 (.i (((ZX g.decls x5).length:Nat):Int)) (.i (((Z8 (ZX g.decls x5)).length:Nat):Int)) (li (by rw [Ya])) (Zi 0 1 [9] (de (ZU ⟨(ZX g.decls x5).length,(Mu om (by rw [show cs.length=k-1 by omega];exact Ue)),(by have:=UA XB x5;omega),(Zgj om (show k=(k-1)+1 by omega) Ue),rfl,rfl⟩ (ZF 5 (fc (x:=.i (((ZX g.decls x5).length:Nat):Int)) (li (by first|rfl|(rw [Zc Xm])|(rw [Z5 Xm])|(simp [Xm];done)|(rw [XK];simp [Xm];done)|omega)) fl)))))))))
    exact ak (ZU ⟨0,(Mv om),om,(Z0d om),rfl,rfl⟩ (ZF 5 (fc (x:=.i 0) (li (by first|rfl|(rw [Zc Xm])|(rw [Z5 Xm])|(simp [Xm];done)|(rw [XK];simp [Xm];done)|omega)) fl)))
   rintro F h ⟨mf,Zcj,Zli,Zck,rfl,rfl⟩
   refine aE 25 (ZI 20 25 [0,1,2,3,4] [2,1] ?_)
   obtain ⟨x6,Cs⟩:=Zu e.kids k om
   have hekx6:=Db hks Cs
   have hszx6:=Cj Cs
   have htzx6:=Bt Cs
   rw [Vm] at hekx6
   rw [Zck] at hekx6
   have htk:=AO (xs:=e.kids) (k+1)
   have hbl:=I9 cs
   refine dx 5 (Zm none (k:Int) 3 (D7 Cs)) (ZI 7 19 [6,7,8,9,10,11,12,15,16,17,18,19] [0,0] (da 20 ((((q+Xp ys3)+mf:Nat):Int)) (((((q+Xp ys3):Nat):Int))+((mf:Int))) (Z9 13 (dc 13 [] [0,1,2] [l,b2,b1] (Ld (q+Xp ys3) mf) ?_))))
   rintro _ _ ⟨xs1,rfl,rfl,YS⟩
   have hnx:=YS
   refine Z9 14 (dc 14 [] [0,1,2] [l,b2,b1] (KF us xs1) ?_)
   rintro _ _ ⟨v8,rfl,rfl⟩
   refine YA 4 4 [] [(98,Z4 (us++xs1))] (Z9 21 (dc 21 [] [] [] (Pi g x6 (us++xs1) ((q+Xp ys3)+mf) e.sz (he:=(by rw [Ys,hnx.1];exact hekx6)) (hu:=(Zkc hu hnx.2)) (hul:=(by rw [Ys,hnx.1];omega)) (hql:=om) (ih:=ih)) ?_))
   rintro _ _ ⟨b3,rfl,rfl,Xk⟩
   have hlb:=Xk
   exact Z9 22 (WQ 22 [] [] [Y9 b3] (YU [b3]) (Q5 [b3]).symm 1 2 fun v9=>YA 2 2 [] [(106,Wj [b3])] (Z9 23 (dp 23 5 [] [] (YU (cs++[b3])) (YU cs) (YU [b3]) u none 2 (Ko _) (Ko _) (Iv _) (by simp<;>omega) (by simp [Cf,YU]) fun v10=>Zi 0 1 [24] (de (az (Z2 1 (ZJ k (Z0 (ZK ⟨k+1,(cs++[b3]),v10,ob,ob,(OM Zw (by rw [Zcj];exact hlb.1)),(by have:=hlb.2;rw [E0,Ys];simp only [Xl,YZ,XL];omega),(Sb XW hlb.op),rfl,rfl,rfl⟩ (wk [3,3,3,0,2] (fw (ZM k fl))))))))))))
  refine ax 1 (Zv 6 [1,1] (iL (Z8 [v5]) 1 1 fun v11=>ZT 2 [(116,.agg [.i e.op,.i e.num,.i 0,Z4 [v5],Wj cs])] (ic [1,4] (P9 l (xs++ys3) w23 (q+Xp ys3) (Z6.mk e.op e.num 0 [v5] cs) (hl:=(by first|(have h1:=JD zs;have h2:=AO (xs:=e.kids) k;have h3:=Bq zs;(try simp only [Ys]);omega)|((try simp only [Ys]);omega))) (hq:=(by first|(have h1:=JD zs;have h2:=AO (xs:=e.kids) k;have h3:=Bq zs;(try simp only [Ys]);omega)|((try simp only [Ys]);omega)))) ?_)))
  rintro _ _ ⟨w24,rfl,rfl⟩
  refine Z0 ?_
  have hcb:YF e.op=false:=by simp [YF];omega
  exact ZC (r1 [0,0] ⟨(ys3++[Z6.mk e.op e.num 0 [v5] cs]),(((q+Xp ys3):Nat):Int),w24,rfl,rfl,(LW.branch (s0:=x4.sz) (sr:=XG (e.kids.take k)-x4.sz) om (fun h=>by have:=h7 h;omega) (fun h=>by have:=h8 h;omega) hnum hlwhp3.fs hlwhp3.v Zw om hlwhp3.sz (by have:=I9 cs;omega) (by have:=AO (xs:=e.kids) k;omega) hlwhp3.op XW)⟩ (eq:=(ro (ls:=[Xe ((xs++ys3)++[(Z6.mk e.op e.num 0 [v5] cs)]) w24,.i ((((q+Xp ys3)+1):Nat):Int)]) (by rw [E8 (s:=Z6.mk e.op e.num 0 [v5] cs) hcb,<-Bg,UR]) (rc rz))))
 refine ak (ar (iL (Z8 []) 0 1 fun v12=>?_))
 refine Z0 (Yn (ab 3 (Y2 (fun fz gz m F h=>∃(k:Nat) (asl:LI) (u:Value) (zs:List Z6) (w3:Value),(k<=e.kids.length)/\(asl.length=k)/\(TS g.decls g.funcs.length q zs)/\(∀a∈asl,0<=a/\a<((q+Xp zs:Nat):Int))/\(Yj zs<=6*XG (e.kids.take k))/\(QZ WU zs)/\F=sF [0,3,5,6] fz [(15,ZQ asl u),(16,.i k)]/\h=[Ze gz 1,Ze gz 2,.obj l [Xe (xs++zs) w3,.i (((q+Xp zs):Nat):Int)],.tail u 1,.tail w3 5]/\m=e.kids.length-k) _ _ _ ⟨0,[],v12,[],w,ob,ob,True.intro,(fun a ha=>by cases ha),(by simp [Yj]),True.intro,rfl,rfl,rfl⟩ (wk [1,1,1,0,0] (fr (Yb fl)) (e:=(rc (rc (ro (ls:=[Xe xs w,.i q]) (by simp [Xp]) (rc (rc rz))))))) ?_)))
 rintro m F h ⟨k,asl,u,zs,w3,Ug,W8,W4,JP,Zl1,NS,rfl,rfl,rfl⟩
 refine Yk 3 [0] (iw (IC e.kids) (Y7 ((k:Int)<(e.kids.length:Int)) (fun VZ=>?_) (fun VZ=>?_)))
 ·refine ak (aq (ab 4 (aD 10 (ZI 5 10 [0,1,2,3,4] [1,0] ?_))))
  obtain ⟨x7,Gt⟩:=Zu e.kids k om
  have hzl:=JD zs
  have hzd:=Bq zs
  have htk:=AO (xs:=e.kids) (k+1)
  have hekx7:=Db hks Gt
  have hszx7:=Cj Gt
  have htzx7:=Bt Gt
  rw [Vm] at hekx7
  rw [Z0d om] at hekx7
  refine dx 5 (Zm none (k:Int) 3 (D7 Gt)) (Zi 2 4 [6,7] (Z9 8 (dc 8 [2,3] [] [] (ih l x7 us (xs++zs) w3 (q+Xp zs) (by first|assumption|(rw [Ys];assumption)) (by first|assumption|exact Fk hu hlwhp1.v|exact HC hu) (by first|omega|(simp only [Ys,YZ,XL];omega)) (by first|omega|(simp only [Ys,YZ,XL];omega)) ob ob) ?_)))
  rintro _ _ ⟨ys4,v13,w25,rfl,rfl,XZ⟩
  have hlwhp6:=XZ
  have hldhp6:=XZ.dn
  exact Zi 0 1 [9] (de (az (Z2 2 (iL (Z8 [v13]) 1 1 fun v14=>ZT 0 [(137,Z4 [v13])] (ip 5 (Z8 (asl++[v13])) (Z8 asl) (Z8 [v13]) u none 1 (YK _) (YK _) (Wx _) (by simp<;>omega) (by simp [Ww,Z8]) fun v15=>Z0 (az (Z2 1 (ZJ k (Z0 (ZK ⟨k+1,(asl++[v13]),v15,(zs++ys4),w25,ob,ob,(Eg.2 ⟨W4,hlwhp6.fs⟩),(by rw [AK,<-Bg];exact Fk JP hlwhp6.v),(by have:=hlwhp6.sz;rw [Qh];omega),(M0.2 ⟨NS,hlwhp6.op⟩),rfl,rfl,rfl⟩ (wk [4,4,2,0,1] (fr (ZM k fl)) (e:=(rc (rc (ro (ls:=[Xe ((xs++zs)++ys4) w25,.i ((((q+Xp zs)+Xp ys4):Nat):Int)]) (by rw [AK,<-Bg,UR]) (rc (rc rz)))))))))))))))))
 refine ax 3 (Zv 6 [0,0] (iL (YU []) 0 2 fun v16=>ZT 1 [(146,.agg [.i e.op,.i e.num,.i 0,Z4 asl,Wj []])] (ic [3,4] (P9 l (xs++zs) w3 (q+Xp zs) (Z6.mk e.op e.num 0 asl []) (hl:=(by first|(have h1:=JD zs;have h2:=AO (xs:=e.kids) k;have h3:=Bq zs;(try simp only [Ys]);omega)|((try simp only [Ys]);omega))) (hq:=(by first|(have h1:=JD zs;have h2:=AO (xs:=e.kids) k;have h3:=Bq zs;(try simp only [Ys]);omega)|((try simp only [Ys]);omega)))) ?_)))
 rintro _ _ ⟨w26,rfl,rfl⟩
 refine Z0 ?_
 have hcb:YF e.op=false:=by simp [YF];omega
 exact ZC (r1 [0,0] ⟨(zs++[Z6.mk e.op e.num 0 asl []]),(((q+Xp zs):Nat):Int),w26,rfl,rfl,(LW.node om h9 hnum W4 JP om (by have:=AO (xs:=e.kids) k;omega) NS)⟩ (eq:=(ro (ls:=[Xe ((xs++zs)++[(Z6.mk e.op e.num 0 asl [])]) w26,.i ((((q+Xp zs)+1):Nat):Int)]) (by rw [E8 (s:=Z6.mk e.op e.num 0 asl []) hcb,<-Bg,<-UR]) (rc rz))))
theorem Z9o (l:Nat) (g:Wg) (e:Z1) (us:LI) (xs:List Z6) (w:Value) (q:Nat) (hd:GD g.decls) (he:eW g.decls g.funcs.length us.length e) (hu:∀a∈us,0<=a/\a<(q:Int)) (hul:us.length+4*e.sz<=100000) (hxl:xs.length+6*e.sz<=100000) (hql:q+6*e.sz<=100000):Zk 234 [.p l 0,AE g,Y5 e,Z4 us] [.obj l [Xe xs w,.i q],.tail w 5] (fun r h=>∃(ys:List Z6) (v:Int) (w2:Value),r=.i v/\h=[.obj l [Xe (xs++ys) w2,.i (((q+Xp ys):Nat):Int)],.tail w2 5]/\LW g.decls g.funcs.length q e ys v):=by
 have key:∀k:Nat,∀(l:Nat) (e2:Z1) (us2:LI) (xs2:List Z6) (w2:Value) (q2:Nat),(eW g.decls g.funcs.length us2.length e2)->(∀a∈us2,0<=a/\a<(q2:Int))->(us2.length+4*e2.sz<=100000)->(xs2.length+6*e2.sz<=100000)->(q2+6*e2.sz<=100000)->(e2.sz<k)->Zk 234 [.p l 0,AE g,Y5 e2,Z4 us2] [.obj l [Xe xs2 w2,.i q2],.tail w2 5] (fun r h=>∃(ys:List Z6) (v:Int) (w2:Value),r=.i v/\h=[.obj l [Xe (xs2++ys) w2,.i (((q2+Xp ys):Nat):Int)],.tail w2 5]/\LW g.decls g.funcs.length q2 e2 ys v):=by
  intro k
  induction k with
  | zero=>intro l e2 us2 xs2 w2 q2 h1 h2 h3 h4 h5 h6;omega
  | succ k ih=>intro l e2 us2 xs2 w2 q2 h1 h2 h3 h4 h5 h6;exact Z9p l g e2 us2 xs2 w2 q2 hd h1 h2 h3 h4 h5 fun l e3 us3 xs3 w3 q3 a1 a2 a3 a4 a5 a6=>ih l e3 us3 xs3 w3 q3 a1 a2 a3 a4 a5 om
 exact key (e.sz+1) l e us xs w q he hu hul hxl hql om
theorem Lc (g:Wg) (e:Z1) (us:LI) (q:Nat) (hd:GD g.decls:=by exact ob) (he:eW g.decls g.funcs.length us.length e:=by exact ob) (hu:∀a∈us,0<=a/\a<(q:Int)) (hul:us.length+4*e.sz<=100000:=by exact ob) (hql:q+6*e.sz<=100000:=by exact ob):Zk 197 [AE g,Y5 e,Z4 us,.i q] [] (fun r h=>∃(b:Z7),r=Y9 b/\h=[]/\LB g.decls g.funcs.length q e b):=(Pi g e us q (e.sz+1) he hu hul hql om (fun l e2 us2 xs2 w2 q2 h1 h2 h3 h4 h5 _=>Z9o l g e2 us2 xs2 w2 q2 hd h1 h2 h3 h4 h5))
theorem F7 (ds:List Zf) (hd:Wv ds:=by exact ob):Zk 81 [ZP ds] [] (Yr (ZP ds)):=by
 have hdl:=hd.len
 refine ZG 55 Tryz.func81 (Zy (ar (iL (YB []) 0 3 fun v1=>?_)))
 refine Z0 (Yn (ab 0 (Y2 (fun fz gz m F h=>∃(k:Nat) (v:Value),(k<=ds.length)/\F=sF [0] fz [(3,As (ds.take k) v),(4,.i k)]/\h=[.tail v 3]/\m=ds.length-k) _ _ _ ⟨0,v1,ob,rfl,rfl,rfl⟩ (wk [0] (fc (x:=As [] v1) (Zd.slh _ (Yv YB rfl)) (Yb fl))) ?_)))
 rintro m F h ⟨k,v,Yg,rfl,rfl,rfl⟩
 refine YP 2 (iw (Uk ds) (Y7 ((k:Int)<(ds.length:Int)) (fun Za=>?_) (fun Za=>?_)))
 ·obtain ⟨xd,hxd⟩:=Zu ds k om
  have hcl:=hd.cons_at hxd
  refine ak (aq (ab 1 (ar (iL (XT []) 0 1 fun v2=>?_))))
  refine Z0 (Yn (ab 2 (Y2 (fun fz gz m F h=>∃(j:Nat) (u:Value),(j<=xd.cons.length)/\F=sF [0,3,4] fz [(5,H4 (xd.cons.take j) u),(6,.i j)]/\h=[.tail u 1,Ze gz 1]/\m=xd.cons.length-j) _ _ _ ⟨0,v2,ob,rfl,rfl,rfl⟩ (wk [0,0] (fc (x:=H4 [] v2) (Zd.slh _ (Yv XT rfl)) (Yb fl))) ?_)))
  rintro m F h ⟨j,u,Ug,rfl,rfl,rfl⟩
  refine YP 3 (Zr (Zm none (k:Int) 3 (WR hxd)) (Z2 2 (iw (Us xd.cons) (Y7 ((j:Int)<(xd.cons.length:Int)) (fun Zg=>?_) (fun Zg=>?_)))))
  ·refine ak (aq (ab 3 (az (Z2 3 (Zr (Zm none (k:Int) 3 (WR hxd)) (Z2 3 ?_))))))
   obtain ⟨x1,Z3⟩:=Zu xd.cons j om
   have hfl:=hd.fields_at hxd Z3
   refine Zr (Zm none (j:Int) 1 (AL Z3)) (Z2 2 (ic [] (T4 x1.fields) ?_))
   rintro _ _ ⟨v3,rfl,rfl⟩
   exact ZT 1 [(36,CP x1)] (iL (XT [x1]) 1 1 fun v4=>ZT 0 [(37,J4 [x1])] (ip 2 (XT (xd.cons.take (j+1))) (XT (xd.cons.take j)) (XT [x1]) u none 1 (E9 _) (E9 _) (Z74 _) (by simp<;>omega) (by rw [V6 Z3];simp [XT]) fun v5=>Z0 (az (Z2 1 (ZJ j (Z0 (ZK ⟨j+1,v5,ob,rfl,rfl,rfl⟩ (wk [0,2] (fr (ZM j fl))))))))))
  exact ax 2 (aE 16 (Zi 13 16 [0,1,2] (dx 3 (Zm none (k:Int) 3 (WR hxd)) (Zi 8 12 [4,5,6,7] (dx 8 (Zm none (k:Int) 3 (WR hxd)) (YA 3 7 [9,10,11,12] [(51,.agg [.i xd.frm,.i xd.to_,J4 (xd.cons.take j)])] (Z9 13 (dL 13 [] [] (YB [Zf.mk xd.frm xd.to_ (xd.cons.take j)]) 1 3 fun v6=>YA 2 2 [] [(52,ZP [Zf.mk xd.frm xd.to_ (xd.cons.take j)])] (Z9 14 (dp 14 2 [] [] (YB (ds.take (k+1))) (YB (ds.take k)) (YB [Zf.mk xd.frm xd.to_ (xd.cons.take j)]) v none 3 (KZ _) (KZ _) (FU _) (by simp<;>omega) (by rw [V6 hxd];simp [YB,Vw (show xd.cons.length<=j by omega)]) fun v7=>Zi 0 1 [15] (de (az (Z2 1 (ZJ k (Z0 (ZK ⟨k+1,v7,ob,rfl,rfl,rfl⟩ (wk [0] (fr (ZM k fl)))))))))))))))))))
 exact ax 0 (ar (Zp (ZW (As (ds.take k) v) (Zd.sl _ (Yv YB (by rw [Vw om]))))))
theorem Z9v (g:Wg) (hg:HS g:=by exact ob):Zk 144 [AE g] [] (fun r h=>∃(n:Zl),r=Yt n/\h=[]/\FO n 181 WU):=by
 have hgl:=hg.gp.len
 have XB:=hg.gp.decls.ok
 refine ZG 49 Tryz.func144 (ar (iA (LE g) fun b1=>iA [nl,nl] fun b2=>ie (Zv 2 [1] (Zx [] (F7 g.decls) (iL (X8 []) 0 5 fun v1=>Z2 1 (iA [nl,nl] fun b3=>?_))))))
 refine ZH 0 b3 [ZP g.decls,U4 [] v1] (ie (Yn (ab 0 (Y2 (fun fz gz m F h=>∃(k:Nat) (rs:List Yh) (u:Value),(k<=g.funcs.length)/\(rs.length=k)/\(∀r∈rs,RN g.decls g.funcs.length r)/\F=sF [1,2,3] fz [(4,.i k)]/\h=[.obj b3 [ZP g.decls,U4 rs u],Ze gz 2,Ze gz 3,.tail u 5]/\m=g.funcs.length-k) _ _ _ ⟨0,[],v1,ob,ob,(fun r hr=>by cases hr),rfl,rfl,rfl⟩ (wk [0,1,1,0] (Yb fl)) ?_))))
 rintro m F h ⟨k,rs,u,Yg,Zj,Zw,rfl,rfl,rfl⟩
 refine Yk 3 [2] (iw (D8 g.funcs) (Y7 ((k:Int)<(g.funcs.length:Int)) (fun Za=>?_) (fun Za=>?_)))
 ·refine ak (aq (ab 1 (Zv 3 [2] ?_)))
  obtain ⟨x1,Z3⟩:=Zu g.funcs k om
  have hso:=(hg.gp.sigs _ (Y3 Z3)).bd
  have hsi:=hg.gp.sigs _ (Y3 Z3)
  have hbo:=hg.body _ (Y3 Z3)
  refine Zr (Zm none (k:Int) 5 (FV Z3)) (Z2 1 (iA [nl,.i 0,.i 0,.i 0,nl] fun b4=>?_))
  refine ZH 0 b4 (GR x1) (ie (Zv 2 [0] (iw (Ya x1.params) (Z0 (aD 9 (ZI 4 9 [0,1,2,3,5] [3,0] (Jm (fun fz gz F h=>∃(b5:Z7) (b6:Nat) (xs1:LI),(xs1.length=x1.params.length/\∀i∈xs1,(0:Int)<=i/\i<(0:Int)+x1.params.length)/\(LB g.decls g.funcs.length x1.params.length x1.body b5)/\F=sF [1,2,3,4,5] fz [(7,.p b6 0)]/\h=[.obj b6 (Xx b5),Ze gz 0,Ze gz 1,Ze gz 2,Ze gz 3,Ze gz 4]) ?_ ?_)))))))
  ·refine VJ 4 7 ?_ ?_
   ·refine dc 4 [] [0,3] [b4,b1] (Ld 0 x1.params.length) ?_
    rintro _ _ ⟨xs1,rfl,rfl,ZY⟩
    have hnx:=ZY
    refine VJ 6 7 ?_ ?_
    ·refine dc 6 [] [] [] (Lc g x1.body xs1 x1.params.length (hd:=hg.gp.decls) (he:=(by rw [hnx.1];exact hbo.1)) (hu:=(fun a ha=>by have:=hnx.2 a ha;omega))) ?_
     rintro _ _ ⟨b5,rfl,rfl,Yd⟩
     have hlb:=Yd
     exact Z9 7 (dA 7 [] [] [nl,.i 0] fun b6=>Z9 8 (YO 8 0 [] [] b6 (Xx b5) (de (ZU ⟨_,b6,_,(by assumption),(by assumption),rfl,rfl⟩ (ZF 6 fl)))))
    refine dA 7 [0,3] [b4,b1] [nl,.i 0] fun b7=>Z9 6 (dc 6 [] [] [] (Lc g x1.body xs1 x1.params.length (hd:=hg.gp.decls) (he:=(by rw [hnx.1];exact hbo.1)) (hu:=(fun a ha=>by have:=hnx.2 a ha;omega))) ?_)
    rintro _ _ ⟨b8,rfl,rfl,YI⟩
    have hlb:=YI
    exact Z9 8 (YO 8 0 [] [] b7 (Xx b8) (de (ZU ⟨_,b7,_,(by assumption),(by assumption),rfl,rfl⟩ (ZF 6 fl))))
   refine dA 7 [0,3] [b4,b1] [nl,.i 0] fun b9=>Z9 4 (dc 4 [] [1,4] [b4,b1] (Ld 0 x1.params.length) ?_)
   rintro _ _ ⟨xs2,rfl,rfl,YS⟩
   have hnx:=YS
   refine Z9 6 (dc 6 [] [] [] (Lc g x1.body xs2 x1.params.length (hd:=hg.gp.decls) (he:=(by rw [hnx.1];exact hbo.1)) (hu:=(fun a ha=>by have:=hnx.2 a ha;omega))) ?_)
   rintro _ _ ⟨b10,rfl,rfl,Xk⟩
   have hlb:=Xk
   exact Z9 8 (YO 8 0 [] [] b9 (Xx b10) (de (ZU ⟨_,b9,_,(by assumption),(by assumption),rfl,rfl⟩ (ZF 6 fl))))
  rintro F h ⟨b5,b6,xs1,ZY,Yd,rfl,rfl⟩
  have hnx:=ZY
  have hlb:=Yd
  refine aE 14 (ZI 7 14 [0,1,2,3,6,7,8] [2,1,1,0] (VJ 4 5 ?_ ?_))
  ·refine dc 4 [] [0,1,2] [b6,b4,b3] (T4 x1.params) ?_
   rintro _ _ ⟨v2,rfl,rfl⟩
   exact Z9 5 (dL 5 [0,1,2] [b6,b4,b3] (Z8 []) 0 1 fun v3=>YA 4 5 [9] [(44,.agg [Z4 x1.params,Z4 [],.i x1.result,Vu b5.steps,.i b5.result])] (Z9 10 (dL 10 [2] [b3] (X8 [Yh.mk x1.params [] x1.result (Z7.mk b5.steps b5.result)]) 1 5 fun v4=>YA 3 3 [] [(45,KA [Yh.mk x1.params [] x1.result (Z7.mk b5.steps b5.result)])] (Z9 11 (dp 11 8 [] [] (X8 (rs++[Yh.mk x1.params [] x1.result (Z7.mk b5.steps b5.result)])) (X8 rs) (X8 [Yh.mk x1.params [] x1.result (Z7.mk b5.steps b5.result)]) u none 5 (Qp _) (Qp _) (Da _) (by simp<;>omega) (by simp [D9,X8]) fun v5=>Zi 1 2 [12] (Z9 13 (YO 13 6 [] [] b3 [ZP g.decls,U4 (rs++[Yh.mk x1.params [] x1.result (Z7.mk b5.steps b5.result)]) v5] (de (az (Z2 1 (ZJ k (Z0 (ZK ⟨k+1,(rs++[Yh.mk x1.params [] x1.result (Z7.mk b5.steps b5.result)]),v5,ob,ob,(XU Zw (RN.of hsi hlb hbo.2)),rfl,rfl,rfl⟩ (wk [0,6,6,0] (ZM k fl)))))))))))))))
  refine dL 5 [0,1,1,2] [b6,b4,b4,b3] (Z8 []) 0 1 fun v6=>Z9 4 (dc 4 [] [0,1,2] [b6,b4,b3] (T4 x1.params) ?_)
  rintro _ _ ⟨v7,rfl,rfl⟩
  exact YA 4 5 [9] [(44,.agg [Z4 x1.params,Z4 [],.i x1.result,Vu b5.steps,.i b5.result])] (Z9 10 (dL 10 [2] [b3] (X8 [Yh.mk x1.params [] x1.result (Z7.mk b5.steps b5.result)]) 1 5 fun v8=>YA 3 3 [] [(45,KA [Yh.mk x1.params [] x1.result (Z7.mk b5.steps b5.result)])] (Z9 11 (dp 11 8 [] [] (X8 (rs++[Yh.mk x1.params [] x1.result (Z7.mk b5.steps b5.result)])) (X8 rs) (X8 [Yh.mk x1.params [] x1.result (Z7.mk b5.steps b5.result)]) u none 5 (Qp _) (Qp _) (Da _) (by simp<;>omega) (by simp [D9,X8]) fun v9=>Zi 1 2 [12] (Z9 13 (YO 13 6 [] [] b3 [ZP g.decls,U4 (rs++[Yh.mk x1.params [] x1.result (Z7.mk b5.steps b5.result)]) v9] (de (az (Z2 1 (ZJ k (Z0 (ZK ⟨k+1,(rs++[Yh.mk x1.params [] x1.result (Z7.mk b5.steps b5.result)]),v9,ob,ob,(XU Zw (RN.of hsi hlb hbo.2)),rfl,rfl,rfl⟩ (wk [0,6,6,0] (ZM k fl))))))))))))))
 exact ax 0 (Zv 1 [0] (ZH 1 b2 [ZP g.decls,U4 rs u] (ie (ZC (r3 [] [.agg [ZP g.decls,U4 rs u]] [0] [(b2,b2)] ⟨(Zl.mk g.decls rs),rfl,rfl,(RN.all hg.gp.decls (by show 1<=rs.length/\rs.length<=4;omega) (by show ∀r∈rs,RN g.decls rs.length r;rw [show rs.length=g.funcs.length by omega];exact Zw) om)⟩ (Zd.agg (.cons (lr _) (.cons (Zd.forget _ _) .nil))))))))
theorem Z1h (n:Zl) (hz:Vp n:=by exact ob):Zk 108 [Yt n] [] (Yr (.b (V7 n))):=by
 have hzl:=hz.len
 refine ZG 35 Tryz.func108 (ar (iA (YY n) fun b1=>Z0 (Yk 1 [0] (Zx [] (Zin n (hz:=hz.decls) (hr:=(fun r hr=>⟨hz.params r hr,hz.lent r hr⟩))) (YD (!VA n) (p:=¬(VA n=true)) (Yl Iff.rfl) (fun Za=>?_) (fun Za=>?_))))))
 ·exact ar (Zp (ZW (.b false) (lb (by first|rfl|omega|grind [V7]))))
 have hok:=LU hz (by simpa using Za)
 refine ak (Yn (ab 0 (Y2 (fun fz gz m F h=>∃(k:Nat),(k<=n.routines.length)/\(QB n (n.routines.drop k)=QB n n.routines)/\F=sF [1] fz [(3,.i k)]/\h=gz/\m=n.routines.length-k) _ _ _ ⟨0,ob,ob,rfl,rfl,rfl⟩ (wk [0] (Yb fl)) ?_)))
 rintro m F h ⟨k,Yg,Zj,rfl,rfl,rfl⟩
 refine Yk 3 [0] (iw (Ul n.routines) (Y7 ((k:Int)<(n.routines.length:Int)) (fun Zg=>?_) (fun Zg=>?_)))
 ·refine ak (aq (ab 1 (Zv 3 [0] ?_)))
  obtain ⟨x1,Z3⟩:=Zu n.routines k om
  have ZO:=hz.body _ (Y3 Z3)
  have hps:=hok.params_at Z3
  refine Zr (Zm none (k:Int) 5 (WV Z3)) (Z2 1 (iA [nl,nl,.i 0,nl,.i 0] fun b2=>ZH 0 b2 (TX x1) (ie (aD 15 (ZI 13 15 [0,1] [0] (Z9 2 (Yz 2 [] [] [] (Z1f x1.body) (Af [1,3] [(34,.b ((decide ((UQ x1.body)<0))||((YR n x1.params x1.body) != x1.result)))] (fun gz=>gz) ?_ ?_))))))))
  ·refine Zi 10 12 [3,4] (db (b:=(decide ((UQ x1.body)<0))) 24 (fun Zb=>?_) (fun Zb=>?_))
   ·exact Zi 0 10 [5,6,7,8,9,10,11,12,13,14] (de (wk [0,0] (Zt true Zb fl)))
   exact ZI 3 10 [5,6,7,8,9,11,12] [1,0,0,0] (Z9 10 (Yz 10 [] [0] [b2] (Z18 n x1.params x1.body ob ob) (Zi 0 2 [13,14] (de (wk [0,0] (Zt ((YR n x1.params x1.body) != x1.result) Zb fl))))))
  refine ac ((decide ((UQ x1.body)<0))||((YR n x1.params x1.body) != x1.result)) (p:=((UQ x1.body)<0)∨((YR n x1.params x1.body)≠x1.result)) (Yf dq Y4) (fun ZE=>?_) (fun ZE=>?_)
  ·refine Zy ?_
   rw [Y6 Z3] at Zj
   exact ZC (ZW (.b false) (lb (by clear Z3;first|rfl|omega|grind [QB,V7])))
  refine ak (az (Z2 1 (ZJ k (Z0 ?_))))
  have hdr:=Y6 Z3
  exact ZK ⟨k+1,ob,(by rw [hdr] at Zj;clear hdr Z3;grind [QB]),rfl,rfl,rfl⟩ (wk [1] (ZM k fl))
 refine ax 0 (Zy ?_)
 try rw [Xq (xs:=n.routines) (k:=k) om] at Zj
 exact ZC (ZW (.b true) (lb (by first|rfl|omega|grind [QB,V7])))
theorem Zi6 (op:Int) :Zk 172 [.i op] [] (Yr (.b (YF op))):=by
 exact ZG 5 Tryz.func172 (Zy (Y0 1 (Zx [] (TN op 14 17) (Zp (ZW (.b (decide (14<=op/\op<=17))) (lb (by first|rfl|omega|grind [YF])))))))
theorem Z19 (op:Int) :Zk 232 [.i op] [] (Yr (.b (Tc op))):=by
 refine ZG 17 Tryz.func232 (Zy (ar (XD 6 [0] [(8,.b ((op==6)||(op==9)))] (fun gz=>gz) ?_ (fun hj1=>?_))))
 ·refine XD 10 [0] [(12,.b (((op==6)||(op==9))||(op==10)))] (fun gz=>gz) ?_ (fun hj2=>?_)
  ·refine XD 14 [] [(16,.b ((((op==6)||(op==9))||(op==10))||(op==11)))] (fun gz=>gz) ?_ (fun hj3=>?_)
   ·exact Zp (ZW (.b ((((op==6)||(op==9))||(op==10))||(op==11))) (lb (by first|rfl|omega|grind [Tc])))
   refine Z2 1 (ib (b:=(((op==6)||(op==9))||(op==10))) 13 (fun Zb=>?_) (fun Zb=>?_))
   ·exact Z2 3 (Yq (wk [] (Zt true Zb fl)) hj3)
   exact Z2 3 (Yq (wk [] (Zt (op==11) Zb fl)) hj3)
  refine Z2 1 (ib (b:=((op==6)||(op==9))) 9 (fun ZA=>?_) (fun ZA=>?_))
  ·exact Z2 3 (Yq (wk [] (Zt true ZA fl)) hj2)
  exact Z2 3 (Yq (wk [] (Zt (op==10) ZA fl)) hj2)
 refine Z2 3 (ib (b:=(op==6)) 5 (fun Yp=>?_) (fun Yp=>?_))
 ·exact Z2 3 (Yq (wk [] (Zt true Yp fl)) hj1)
 exact Z2 3 (Yq (wk [] (Zt (op==9) Yp fl)) hj1)
theorem F9 (n:Zl) (s:Z6) (i:Nat) (hn:X4 n:=by exact ob) (hnum:s.op=9->0<=s.num/\s.num<n.routines.length:=by exact ob):Zk 233 [Yt n,YG s,.i i] [] (Yr (.b (WG n s.op s.num i))):=by
 refine ZG 21 Tryz.func233 (ar (iA (YY n) fun b1=>iA (XE s) fun b2=>Z0 (Zv 4 [0] (ib (b:=(s.op==9)) 10 (fun Zb=>?_) (fun Zb=>?_)))))
 ·have ZY:s.op=9:=(Zq).1 Zb
  refine ZL 4 [1,0] ?_
  obtain ⟨x1,Z3⟩:=Zu n.routines s.num.toNat om
  have hlt:=hn.lent_at Z3
  have hlr:=Zdh (n:=n) ZY Z3
  exact Zr (Zm none s.num 5 (WV Z3)) (Z2 3 (Zx [] (Tn x1.lent (i:Int)) (Zp (ZW (.b (decide ((i:Int)∈x1.lent))) (lb (by rw [WG,hlr]))))))
 have Yd:¬(s.op=9):=Y8 Zq Zb
 exact Zp (ZW (.b false) (lb (by rw [WG,Jv,Z5 Yd];simp)))
theorem Hr (n:Zl) (us:LI) (s:Z6) (i:Nat) (a:Int) (hn:X4 n:=by exact ob) (hnum:s.op=9->0<=s.num/\s.num<n.routines.length:=by exact ob) (ha:s.args[i]? = some a:=by exact ob) (hi:0<=a/\a<us.length:=by exact ob):Zk 257 [Yt n,Z4 us,YG s,.i i] [] (Yr (.b (TB n us s.op s.num a i))):=by
 have hal:=(Xs.1 ha).1
 refine ZG 30 Tryz.func257 (ar (iA (YY n) fun b1=>iA (XE s) fun b2=>Z0 (Zv 2 [0] (Zx [] (Z19 s.op) (Z2 1 (ib (b:=Tc s.op) 12 (fun Zb=>?_) (fun Zb=>?_)))))))
 ·refine ZL 4 [0] ?_
  obtain ⟨x1,Z3⟩:=Zu s.args i om
  have hxa:x1=a:=by rw [ha] at Z3;exact (UT Z3).symm
  subst hxa
  refine Zr (Zm none (i:Int) 1 (Y1 Z3)) (Z2 1 ?_)
  obtain ⟨x2,Zs⟩:=Zu us x1.toNat om
  have hga:=VM Zs
  refine Zr (Zm none x1 1 (Y1 Zs)) (Z2 4 (ib (b:=(x2 != 0)) 23 (fun ZA=>?_) (fun ZA=>?_)))
  ·exact ZL 3 [1,0] (Zx [] (F9 n s i) (Zp (ZW (.b (!WG n s.op s.num i)) (lb (by clear Z3 Zs;first|rfl|(rw [TB];grind))))))
  exact Zp (ZW (.b false) (lb (by clear Z3 Zs;first|rfl|(rw [TB];grind))))
 exact Zp (ZW (.b false) (lb (by  first|rfl|(rw [TB];grind))))
theorem Z1d (xs:LI) (ys:LI) (hl_xs:xs.length<=4294967296:=by exact ob) (hl_ys:ys.length<=4294967296:=by exact ob):Zk 260 [Z4 xs,Z4 ys] [] (Yr (.b (decide (xs=ys)))):=by
 refine ZG 26 Tryz.func260 (Zy (YP 1 (iw (Ya xs) (Z2 1 (iw (Ya ys) (YD ((xs.length:Int) != (ys.length:Int)) Y4 (fun Za=>?_) (fun Za=>?_)))))))
 ·exact ar (Zp (ZW (.b false) (lb (eq_comm.1 (decide_eq_false (fun q=>by rw [q] at Za;exact Za rfl))))))
 refine ak (Yn (ab 0 (Y2 (fun fz gz m F h=>∃(k:Nat),(k<=xs.length)/\(xs.take k=ys.take k)/\F=sF [0,1] fz [(5,.i k)]/\h=gz/\m=xs.length-k) _ _ _ ⟨0,ob,ob,rfl,rfl,rfl⟩ (wk [] (Yb fl)) ?_)))
 rintro m F h ⟨k,Yg,Zj,rfl,rfl,rfl⟩
 refine YP 2 (iw (Ya xs) (Y7 ((k:Int)<(xs.length:Int)) (fun Zg=>?_) (fun Zg=>?_)))
 ·refine ak (aq (ab 1 (aD 9 (Zi 7 9 [0,1] ?_))))
  obtain ⟨x1,Z3⟩:=Zu xs k om
  refine dx 2 (Zm none (k:Int) 1 (Y1 Z3)) (Zi 3 6 [3,4,5] ?_)
  obtain ⟨x2,Zs⟩:=Zu ys k om
  refine dx 6 (Zm none (k:Int) 1 (Y1 Zs)) (Zi 0 2 [7,8] (de (ac (x1 != x2) Y4 (fun ZE=>?_) (fun ZE=>?_))))
  ·exact ar (Zp (ZW (.b false) (lb (eq_comm.1 (decide_eq_false (fun q=>by subst q;rw [Z3] at Zs;cases Zs;exact ZE rfl))))))
  refine ak (az (Z2 1 (ZJ k (Z0 ?_))))
  have hdr:=Y6 Z3
  exact ZK ⟨k+1,ob,(by rw [V6 Z3,V6 Zs,Zj];have hxx:x1=x2:=om;rw [hxx]),rfl,rfl,rfl⟩ (wk [] (ZM k fl))
 exact ax 0 (ar (Zp (ZW (.b true) (lb (eq_comm.1 (decide_eq_true (by rw [Vw om,Vw om] at Zj;exact Zj)))))))
theorem BL (xs:LI) (hlen:xs.length<=4294967296:=by exact ob):Zk 139 [Z4 xs] [] (fun r h=>∃(v:Hd),r=.h v/\h=[rV v xs]):=by
 exact ZG 6 Tryz.func139 (Zy (ar (Pz [] 0 fun v1=>Z2 1 (Kw 0 v1 [] xs none fun v2=>Zp (r1 [0] ⟨v2,rfl,rfl⟩ (eq:=(rv (xs:=([]++xs)) ob rz)))))))
theorem J3 (b:Nat) (ga:Hd) (gb:Hd) (gc:Hd) (gd:Hd) (ge:Hd) (gf:Hd) (L:Zo) (ln:LI) (t:Int) (o:Int) (p:Int) (hlb:L.vars.length<=1000000000:=by exact ob) (hlk:WH L:=by exact ob):Zk 206 [.p b 0,.i t,.i o,.i p] [.obj b [.h ga,.h gb,.h gc,.h gd,.h ge,.h gf,Z4 ln],rV ga L.vars,rV gb L.own,rV gc L.par,rV gd L.con,rV ge L.fst,rV gf L.tok] (fun r h=>∃(wa:Hd) (wb:Hd) (wc:Hd) (wd:Hd) (we:Hd) (wf:Hd),h=[.obj b [.h wa,.h wb,.h wc,.h wd,.h we,.h wf,Z4 ln],rV wa ((L.grow t o p).vars),rV wb ((L.grow t o p).own),rV wc ((L.grow t o p).par),rV wd ((L.grow t o p).con),rV we ((L.grow t o p).fst),rV wf ((L.grow t o p).tok)]):=by
 obtain ⟨e1,e2,e3,e4,e5⟩:=hlk
 exact ZG 65 Tryz.func206 (Zv 6 [0] (iL (Z8 [t]) 1 1 fun v1=>ZT 0 [(14,Z4 [t])] (Kw 2 ga L.vars [t] none fun v2=>Z2 2 (ZH 2 b [.h v2,.h gb,.h gc,.h gd,.h ge,.h gf,Z4 ln] (ie (Zv 6 [0] (iL (Z8 [o]) 1 1 fun v3=>ZT 0 [(24,Z4 [o])] (Kw 4 gb L.own [o] none fun v4=>Z2 2 (ZH 2 b [.h v2,.h v4,.h gc,.h gd,.h ge,.h gf,Z4 ln] (ie (Zv 6 [0] (iL (Z8 [p]) 1 1 fun v5=>ZT 0 [(34,Z4 [p])] (Kw 6 gc L.par [p] none fun v6=>Z2 2 (ZH 2 b [.h v2,.h v4,.h v6,.h gd,.h ge,.h gf,Z4 ln] (ie (Zv 5 [0] (iL (Z8 [-1]) 1 1 fun v7=>ZT 0 [(43,Z4 [-1])] (Kw 8 gd L.con [-1] none fun v8=>Z2 2 (ZH 2 b [.h v2,.h v4,.h v6,.h v8,.h ge,.h gf,Z4 ln] (ie (Zv 5 [0] (iL (Z8 [-1]) 1 1 fun v9=>ZT 0 [(52,Z4 [-1])] (Kw 10 ge L.fst [-1] none fun v10=>Z2 2 (ZH 2 b [.h v2,.h v4,.h v6,.h v8,.h v10,.h gf,Z4 ln] (ie (az (ZL 5 [0] (iL (Z8 [-1]) 1 1 fun v11=>ZT 0 [(61,Z4 [-1])] (Kw 12 gf L.tok [-1] none fun v12=>Z2 2 (ZH 2 b [.h v2,.h v4,.h v6,.h v8,.h v10,.h v12,Z4 ln] (ie (r2 [0,10,8,6,4,2,0] [] ⟨v2,v4,v6,v8,v10,v12,rfl⟩ (lr _) (eq:=(rc (rv (xs:=(L.vars++[t])) ob (rv (xs:=(L.own++[o])) ob (rv (xs:=(L.par++[p])) ob (rv (xs:=(L.con++[-1])) ob (rv (xs:=(L.fst++[-1])) ob (rv (xs:=(L.tok++[-1])) ob rz))))))))))))))))))))))))))))))))))))))))
theorem Zd7 (b:Nat) (ga:Hd) (gb:Hd) (gc:Hd) (gd:Hd) (ge:Hd) (gf:Hd) (L:Zo) (ln:LI) (hlb:L.vars.length<=1000000000:=by exact ob) (hlk:WH L:=by exact ob) (hln:ln.length<=4294967296:=by exact ob):Zk 283 [.p b 0] [.obj b [.h ga,.h gb,.h gc,.h gd,.h ge,.h gf,Z4 ln],rV ga L.vars,rV gb L.own,rV gc L.par,rV gd L.con,rV ge L.fst,rV gf L.tok] (fun r h=>∃(c:Nat) (wa:Hd) (wb:Hd) (wc:Hd) (wd:Hd) (we:Hd) (wf:Hd),r=.p c 0/\h=[.obj c [.h wa,.h wb,.h wc,.h wd,.h we,.h wf,Z4 ln],rV wa L.vars,rV wb L.own,rV wc L.par,rV wd L.con,rV we L.fst,rV wf L.tok,.obj b [.h ga,.h gb,.h gc,.h gd,.h ge,.h gf,Z4 ln],rV ga L.vars,rV gb L.own,rV gc L.par,rV gd L.con,rV ge L.fst,rV gf L.tok]):=by
 obtain ⟨e1,e2,e3,e4,e5⟩:=hlk
 refine ZG 40 Tryz.func283 (Zy (aD 38 (ZI 10 38 [0,1,2,3,5,6,7,8,10,11,12,13,15,16,17,18,20,21,22,23,25,26,27,28,30,31,32,33] [0,0,0,0,0,0,0] (Z9 4 (Td 4 [1] [0,0,0,0,0,0] [b,b,b,b,b,b] [rV ga L.vars] (BL L.vars) JR (gL (v:=ga) 0 gN) (Uv Tl) ?_)))))
 rintro _ _ ⟨v1,rfl,rfl⟩
 refine Z9 9 (Td 9 [3] [0,0,0,0,0] [b,b,b,b,b] [rV gb L.own] (BL L.own) JR (gL (v:=gb) 0 gN) (Uv Tl) ?_)
 rintro _ _ ⟨v2,rfl,rfl⟩
 refine Z9 14 (Td 14 [5] [0,0,0,0] [b,b,b,b] [rV gc L.par] (BL L.par) JR (gL (v:=gc) 0 gN) (Uv Tl) ?_)
 rintro _ _ ⟨v3,rfl,rfl⟩
 refine Z9 19 (Td 19 [7] [0,0,0] [b,b,b] [rV gd L.con] (BL L.con) JR (gL (v:=gd) 0 gN) (Uv Tl) ?_)
 rintro _ _ ⟨v4,rfl,rfl⟩
 refine Z9 24 (Td 24 [9] [0,0] [b,b] [rV ge L.fst] (BL L.fst) JR (gL (v:=ge) 0 gN) (Uv Tl) ?_)
 rintro _ _ ⟨v5,rfl,rfl⟩
 refine Z9 29 (Td 29 [11] [0] [b] [rV gf L.tok] (BL L.tok) JR (gL (v:=gf) 0 gN) (Uv Tl) ?_)
 rintro _ _ ⟨v6,rfl,rfl⟩
 refine Z9 34 (dc 34 [] [] [] (T4 ln) ?_)
 rintro _ _ ⟨v7,rfl,rfl⟩
 exact YA 2 3 [35] [(38,.agg [.h v1,.h v2,.h v3,.h v4,.h v5,.h v6,Z4 ln])] (Z9 36 (dA 36 [] [] [.h v1,.h v2,.h v3,.h v4,.h v5,.h v6,Z4 ln] fun b1=>Zi 0 1 [37] (de (ZC (r1 [0,11,9,7,5,3,1,7,6,5,4,3,2,1] ⟨b1,v1,v2,v3,v4,v5,v6,rfl,rfl⟩)))))
theorem GW (b:Nat) (ga:Hd) (gb:Hd) (gc:Hd) (gd:Hd) (ge:Hd) (gf:Hd) (L:Zo) (ln:LI) (i:Int) (hlk:WH L:=by exact ob) (hi:0<=i/\i<L.vars.length:=by exact ob) (hq:∀x∈L.own,0<=x/\x<=1000000000):Zk 207 [.p b 0,.i i] [.obj b [.h ga,.h gb,.h gc,.h gd,.h ge,.h gf,Z4 ln],rV ga L.vars,rV gb L.own,rV gc L.par,rV gd L.con,rV ge L.fst,rV gf L.tok] (fun r h=>(∃(wa:Hd) (wb:Hd) (wc:Hd) (wd:Hd) (we:Hd) (wf:Hd) (L':Zo),r=.b true/\h=[.obj b [.h wa,.h wb,.h wc,.h wd,.h we,.h wf,Z4 ln],rV wa L'.vars,rV wb L'.own,rV wc L'.par,rV wd L'.con,rV we L'.fst,rV wf L'.tok]/\U8 L i=some L')∨(r=.b false/\h=[]/\U8 L i=none)):=by
 obtain ⟨e1,e2,e3,e4,e5⟩:=hlk
 refine ZG 27 Tryz.func207 (Zy (Yk 5 [0] (Zr (Wu 2 gb L.own i i.toNat (hq:=rfl)) ?_)))
 obtain ⟨x1,Z3⟩:=Zu L.own i.toNat om
 have hxq:=hq _ (Y3 Z3)
 have hgi:=VM Z3
 refine Vi (U9 2 gb L.own i.toNat x1 Z3) (Y7 (x1<1) (fun Za=>?_) (fun Za=>?_))
 ·exact ar (Zp (r1 [] (.inr ⟨rfl,rfl,(by rw [U8,hgi,Zc Za])⟩)))
 exact ak (aD 15 (ZI 5 15 [0,1,2,3,4,5,6,7,8,9] [0,0] (dx 10 (Wu 2 gb L.own i i.toNat (hq:=rfl)) (Ui 11 (U9 2 gb L.own i.toNat x1 Z3) (da 12 ((x1-1)) ((x1)-(1)) (dx 13 (Wu 2 gb L.own i i.toNat (hq:=rfl)) (Z9 14 (Ag 14 2 [] [] gb L.own i.toNat (x1-1) (de (ar (Zp (r1 [1,1,0,0,0,0,0] (.inl ⟨ga,gb,gc,gd,ge,gf,(Zo.mk L.vars (L.own.set i.toNat (x1-1)) L.par L.con L.fst L.tok),rfl,rfl,(by rw [U8,hgi,Z5 Za])⟩) (eq:=(rc (rv (xs:=L.vars) ob (rv (xs:=(L.own.set i.toNat (x1-1))) ob (rv (xs:=L.par) ob (rv (xs:=L.con) ob (rv (xs:=L.fst) ob (rv (xs:=L.tok) ob rz))))))))))))))))))))
theorem GV (b:Nat) (ga:Hd) (gb:Hd) (gc:Hd) (gd:Hd) (ge:Hd) (gf:Hd) (L:Zo) (ln:LI) (i:Int) (hlk:WH L:=by exact ob) (hln:ln.length<=4294967296:=by exact ob) (hi:0<=i/\i<L.vars.length:=by exact ob) (hd:∀j:Int,0<=j->j<L.vars.length->gI L.par j<j):Zk 88 [.p b 0,.i i] [.obj b [.h ga,.h gb,.h gc,.h gd,.h ge,.h gf,Z4 ln],rV ga L.vars,rV gb L.own,rV gc L.par,rV gd L.con,rV ge L.fst,rV gf L.tok] (fun r h=>r=.b (XR L ln i)/\h=[.obj b [.h ga,.h gb,.h gc,.h gd,.h ge,.h gf,Z4 ln],rV ga L.vars,rV gb L.own,rV gc L.par,rV gd L.con,rV ge L.fst,rV gf L.tok]):=by
 obtain ⟨e1,e2,e3,e4,e5⟩:=hlk
 refine ZG 31 Tryz.func88 (Zy (aq (ab 0 (Y2 (fun fz gz m F h=>∃(j:Int),(0<=j/\j<L.vars.length)/\(UI L.own L.par ln (j.toNat+1) j=XR L ln i)/\F=sF [0] fz [(1,.i j)]/\h=gz/\m=j.toNat) _ _ _ ⟨i,ob,ob,rfl,rfl,rfl⟩ (ZF 7 fl) ?_))))
 rintro m F h ⟨j,Yg,Zj,rfl,rfl,rfl⟩
 refine Yk 5 [0] (Zr (Wu 2 gb L.own j j.toNat (hq:=rfl)) ?_)
 obtain ⟨x1,Z3⟩:=Zu L.own j.toNat om
 have hg1:=VM Z3
 refine Vi (U9 2 gb L.own j.toNat x1 Z3) (Xw [0,1] [(21,.b ((decide (x1<1))&&(!(decide (j∈ln)))))] (fun gz=>gz) ?_ ?_)
 ·refine Z2 2 (ib (b:=(decide (x1<1))) 13 (fun Zb=>?_) (fun Zb=>?_))
  ·exact ZL 5 [0] (Zx [] (Tn ln j) (Z0 (ZF 7 (Zt (!(decide (j∈ln))) Zb fl))))
  exact Z0 (ZF 7 (Zt false Zb fl))
 refine ac ((decide (x1<1))&&(!(decide (j∈ln)))) (p:=(x1<1)/\(¬(j∈ln))) (YJ dq (Yl dq)) (fun Za=>?_) (fun Za=>?_)
 ·refine ak (ab 1 (Zv 5 [0] (Zr (Wu 3 gc L.par j j.toNat (hq:=rfl)) ?_)))
  obtain ⟨x2,Zs⟩:=Zu L.par j.toNat om
  have hg2:=VM Zs
  have hdj:=hd j om om
  rw [hg2] at hdj
  refine Vi (U9 3 gc L.par j.toNat x2 Zs) (Z0 (ar (Y7 (x2<0) (fun Zg=>?_) (fun Zg=>?_))))
  ·exact ar (Zp (r2 [0,0,0,0,0,0,0] [.b false] ⟨rfl,rfl⟩ (lb (Ng hg1 hg2 Za Zg Zj))))
  exact ak (ZK ⟨x2,om,(Nh hg1 hg2 Yg Za Zg hd Zj),rfl,rfl,rfl⟩ (ZF 7 fl))
 exact ax 0 (ar (Zp (r2 [0,0,0,0,0,0,0] [.b true] ⟨rfl,rfl⟩ (lb (Ni hg1 Za Zj)))))
theorem LH (b:Nat) (ga:Hd) (gb:Hd) (gc:Hd) (gd:Hd) (ge:Hd) (gf:Hd) (L:Zo) (ln:LI) (mm:Nat) (hlk:WH L:=by exact ob) (hlb:L.vars.length<=1000000000:=by exact ob) (hm:mm<=L.vars.length:=by exact ob):Zk 171 [.p b 0,.i mm] [.obj b [.h ga,.h gb,.h gc,.h gd,.h ge,.h gf,Z4 ln],rV ga L.vars,rV gb L.own,rV gc L.par,rV gd L.con,rV ge L.fst,rV gf L.tok] (fun r h=>(∃(wa:Hd) (wb:Hd) (wc:Hd) (wd:Hd) (we:Hd) (wf:Hd) (L':Zo),r=.b true/\h=[.obj b [.h wa,.h wb,.h wc,.h wd,.h we,.h wf,Z4 ln],rV wa L'.vars,rV wb L'.own,rV wc L'.par,rV wd L'.con,rV we L'.fst,rV wf L'.tok]/\UB L mm=some L')∨(r=.b false/\h=[]/\UB L mm=none)):=by
 obtain ⟨e1,e2,e3,e4,e5⟩:=hlk
 refine ZG 88 Tryz.func171 (Zy (Yn (ab 0 (Y2 (fun fz gz m F h=>∃(k:Nat),(mm<=k/\k<=L.vars.length)/\(V8 (L.own.drop k) (L.tok.drop k)=V8 (L.own.drop mm) (L.tok.drop mm))/\F=sF [0,1] fz [(5,.i k)]/\h=gz/\m=L.vars.length-k) _ _ _ ⟨mm,ob,ob,rfl,rfl,rfl⟩ (ZF 7 fl) ?_))))
 rintro m F h ⟨k,Yg,Zj,rfl,rfl,rfl⟩
 refine Yk 5 [0] (Zr (JJ 1 ga L.vars) (Y7 ((k:Int)<(L.vars.length:Int)) (fun Za=>?_) (fun Za=>?_)))
 ·refine ak (aq (ab 1 (Zv 5 [0] (Zr (Wu 2 gb L.own (k:Int) k) ?_))))
  obtain ⟨x1,Z3⟩:=Zu L.own k om
  refine Vi (U9 2 gb L.own k x1 Z3) (Z2 2 (ib (b:=(x1 != 0)) 24 (fun Zb=>?_) (fun Zb=>?_)))
  ·have ZY:x1≠0:=(Y4).1 Zb
   refine Z0 (We (Zy ?_))
   obtain ⟨y2,hy2⟩:=Zu L.tok k om
   exact ZC (r1 [] (.inr ⟨rfl,rfl,(by rw [UB,<-Zj,Y6 Z3,Y6 hy2,V8,Zc (show x1≠0∨0<=y2 by omega)];rfl)⟩))
  have Yd:¬(x1≠0):=Y8 Y4 Zb
  refine ZL 5 [0] (Zr (Wu 6 gf L.tok (k:Int) k) ?_)
  obtain ⟨x2,Zs⟩:=Zu L.tok k om
  refine Vi (U9 6 gf L.tok k x2 Zs) (Y7 (x2>=0) (fun Zg=>?_) (fun Zg=>?_))
  ·exact ar (Zp (r1 [] (.inr ⟨rfl,rfl,(by rw [UB,<-Zj,Y6 Z3,Y6 Zs,V8,Zc (show x1≠0∨0<=x2 by omega)];rfl)⟩)))
  exact ak (az (Z2 1 (ZJ k (Z0 (ZK ⟨k+1,ob,(by rw [Y6 Z3,Y6 Zs,V8,Z5 om] at Zj;exact Zj),rfl,rfl,rfl⟩ (ZF 7 (ZM k fl)))))))
 exact ax 0 (Zv 6 [0] (Zr (KJ 1 ga L.vars mm) (Z2 2 (Wb (CI 1 mm ga L.vars) (ZH 1 b [.h (ga.cut mm),.h gb,.h gc,.h gd,.h ge,.h gf,Z4 ln] (ie (Zv 6 [0] (Zr (KJ 2 gb L.own mm) (Z2 2 (Wb (CI 2 mm gb L.own) (ZH 1 b [.h (ga.cut mm),.h (gb.cut mm),.h gc,.h gd,.h ge,.h gf,Z4 ln] (ie (Zv 6 [0] (Zr (KJ 3 gc L.par mm) (Z2 2 (Wb (CI 3 mm gc L.par) (ZH 1 b [.h (ga.cut mm),.h (gb.cut mm),.h (gc.cut mm),.h gd,.h ge,.h gf,Z4 ln] (ie (Zv 6 [0] (Zr (KJ 4 gd L.con mm) (Z2 2 (Wb (CI 4 mm gd L.con) (ZH 1 b [.h (ga.cut mm),.h (gb.cut mm),.h (gc.cut mm),.h (gd.cut mm),.h ge,.h gf,Z4 ln] (ie (Zv 6 [0] (Zr (KJ 5 ge L.fst mm) (Z2 2 (Wb (CI 5 mm ge L.fst) (ZH 1 b [.h (ga.cut mm),.h (gb.cut mm),.h (gc.cut mm),.h (gd.cut mm),.h (ge.cut mm),.h gf,Z4 ln] (ie (Zv 6 [0] (Zr (KJ 6 gf L.tok mm) (Z2 2 (Wb (CI 6 mm gf L.tok) (ZH 1 b [.h (ga.cut mm),.h (gb.cut mm),.h (gc.cut mm),.h (gd.cut mm),.h (ge.cut mm),.h (gf.cut mm),Z4 ln] (ie (ar (Zp (r1 [0,5,4,3,2,1,0] (.inl ⟨(ga.cut mm),(gb.cut mm),(gc.cut mm),(gd.cut mm),(ge.cut mm),(gf.cut mm),(Zo.mk (L.vars.take mm) (L.own.take mm) (L.par.take mm) (L.con.take mm) (L.fst.take mm) (L.tok.take mm)),rfl,rfl,(by rw [UB,Zc (by rw [<-Zj,Xq om];rfl)];rfl)⟩) (eq:=(rc (rv (xs:=(L.vars.take mm)) ob (rv (xs:=(L.own.take mm)) ob (rv (xs:=(L.par.take mm)) ob (rv (xs:=(L.con.take mm)) ob (rv (xs:=(L.fst.take mm)) ob (rv (xs:=(L.tok.take mm)) ob rz)))))))))))))))))))))))))))))))))))))))))))))))
theorem Zd9 (b:Nat) (ga:Hd) (gb:Hd) (gc:Hd) (gd:Hd) (ge:Hd) (gf:Hd) (n:Zl) (s:Z6) (L:Zo) (ln:LI) (q:Int) (x:Int) (hn:X4 n:=by exact ob) (hk:X6 n.decls L q:=by exact ob) (hlb:L.vars.length<=1000000000:=by exact ob) (ha:s.args[0]? = some x:=by exact ob) (hx:0<=x/\x<L.vars.length:=by exact ob) (hq:0<=q/\q<=999999990:=by exact ob):Zk 208 [.p b 0,Yt n,YG s] [.obj b [.h ga,.h gb,.h gc,.h gd,.h ge,.h gf,Z4 ln],rV ga L.vars,rV gb L.own,rV gc L.par,rV gd L.con,rV ge L.fst,rV gf L.tok] (fun r h=>(∃(wa:Hd) (wb:Hd) (wc:Hd) (wd:Hd) (we:Hd) (wf:Hd) (L':Zo),r=.b true/\h=[.obj b [.h wa,.h wb,.h wc,.h wd,.h we,.h wf,Z4 ln],rV wa L'.vars,rV wb L'.own,rV wc L'.par,rV wd L'.con,rV we L'.fst,rV wf L'.tok]/\Qe n.decls L s.op x=some L')∨(r=.b false/\h=[]/\Qe n.decls L s.op x=none)):=by
 obtain ⟨e1,e2,e3,e4,e5⟩:=hk.len
 have XB:=hn.decls
 have hal:=(Xs.1 ha).1
 obtain ⟨xcon,hxcon⟩:=Zu L.con ((x).toNat) om
 have hgcon:=VM hxcon
 obtain ⟨xtok,hxtok⟩:=Zu L.tok ((x).toNat) om
 have hgtok:=VM hxtok
 obtain ⟨xfst,hxfst⟩:=Zu L.fst ((x).toNat) om
 have hgfst:=VM hxfst
 have hfl:=UA XB xcon
 have har:=hk.arm x om om
 rw [hgcon,hgfst] at har
 refine ZG 105 Tryz.func208 (ar (iA (YY n) fun b1=>iA (XE s) fun b2=>Z0 (Zv 2 [0] (Zr (Zm none 0 1 (Y1 ha)) (Z0 (Yk 5 [2] (Zr (Wu 6 gd L.con x x.toNat (hq:=rfl)) (Vi (U9 6 gd L.con x.toNat xcon hxcon) (XD 23 [0,4,5,7] [(36,.b ((decide (xcon<0))||((s.op==17)&&(decide (xtok>=0)))))] (fun gz=>gz) ?_ (fun hj1=>?_))))))))))
 ·refine Z2 1 (ib (b:=((decide (xcon<0))||((s.op==17)&&(decide (xtok>=0))))) 37 (fun Zb=>?_) (fun Zb=>?_))
  ·have ZY:(xcon<0)∨((s.op=17)/\(xtok>=0)):=((Yf dq (YJ Zq dq))).1 Zb
   exact Z0 (We (ar (Zp (r1 [] (.inr ⟨rfl,rfl,(by rw [Qe,hgcon,hgtok,Zc om])⟩)))))
  have Yd:¬((xcon<0)∨((s.op=17)/\(xtok>=0))):=Y8 (Yf dq (YJ Zq dq)) Zb
  refine Z2 2 (ic [2,2,2,2,2,2,2] (GW b ga gb gc gd ge gf L ln x (hlk:=hk.len) (hq:=(fun y hy=>⟨hk.nn y hy,by have:=hk.bd y hy;omega⟩))) ?_)
  rintro _ _ (⟨wa1,wb1,wc1,wd1,we1,wf1,L'1,rfl,rfl,YI⟩|⟨rfl,rfl,YS⟩)
  ·obtain ⟨t1,t2,t3,t4,t5,t6,t7⟩:=KH YI
   have hk1:=hk.take YI
   obtain ⟨f1,f2,f3,f4,f5⟩:=hk1.len
   have hxcon1:L'1.con[x.toNat]? = some xcon:=by rw [t4];exact hxcon
   have hvl:L'1.vars.length=L.vars.length:=by rw [t2]
   have har2:=har om
   have hxfst1:L'1.fst[x.toNat]? = some xfst:=by rw [t5];exact hxfst
   refine Z0 (WC (ak (aD 11 (ZI 4 11 [0,1,2,3,4,5,6] [8,0] (dx 7 (Wu 4 wd1 L'1.con x x.toNat (hq:=rfl)) (Ui 8 (U9 4 wd1 L'1.con x.toNat xcon hxcon1) (Z9 9 (Yz 9 [] [] [] (JA n.decls xcon) (Zi 0 1 [10] (de (Yn (ab 0 (Y2 (fun fz gz m F h=>∃(k:Nat) (o:LI),(k<=(ZX n.decls xcon).length)/\(o.length=L.vars.length)/\(∀y∈o,0<=y/\y<=q+k)/\(UU o (xfst+k) ((ZX n.decls xcon).drop k)=UU L'1.own xfst (ZX n.decls xcon))/\F=sF [0,5,7,8] fz [(9,.i k)]/\h=[Ze gz 0,Ze gz 1,rV wb1 o,Ze gz 3,Ze gz 4,Ze gz 5,Ze gz 6,Ze gz 7]/\m=(ZX n.decls xcon).length-k) _ _ _ ⟨0,L'1.own,ob,om,(by intro y hy;have h1:=hk1.nn y hy;have h2:=hk1.bd y hy;omega),(by rw [show xfst+((0:Nat):Int)=xfst by omega,KM]),rfl,rfl,rfl⟩ (ZF 8 (Yb fl)) ?_)))))))))))))
   rintro m F h ⟨k,o,Yg,Zj,Zw,Yy,rfl,rfl,rfl⟩
   refine YP 2 (io (.i (((ZX n.decls xcon).length:Nat):Int)) (.i (((Z8 (ZX n.decls xcon)).length:Nat):Int)) (li (by rw [Ya])) (Y7 ((k:Int)<(((ZX n.decls xcon).length:Nat):Int)) (fun Za=>?_) (fun Za=>?_)))
   ·refine ak (aq (ab 1 (Y0 2 ?_)))
    obtain ⟨x1,Z3⟩:=Zu (ZX n.decls xcon) k om
    refine Zr (Zm none (k:Int) 1 (Y1 Z3)) (YD (x1 != 0) Y4 (fun Zg=>?_) (fun Zg=>?_))
    ·refine aE 31 (ZI 22 31 [0,1,2,3,4,5,6,7,8] [0,0] (dx 9 (Wu 5 we1 L'1.fst x x.toNat (hq:=rfl)) (Ui 10 (U9 5 we1 L'1.fst x.toNat xfst hxfst1) (Zi 19 20 [11] (da 12 ((xfst+(k:Int))) ((xfst)+((k:Int))) (ZI 9 18 [13,14,15,16,17,18,19,20,21] [0,0] (dx 22 (Wu 5 we1 L'1.fst x x.toNat (hq:=rfl)) (Ui 23 (U9 5 we1 L'1.fst x.toNat xfst hxfst1) (Zi 6 7 [24] (da 25 ((xfst+(k:Int))) ((xfst)+((k:Int))) (dx 26 (Wu 2 wb1 o (xfst+(k:Int)) ((xfst+(k:Int)).toNat) (hq:=rfl)) ?_)))))))))))
     obtain ⟨x2,Zs⟩:=Zu o ((xfst+(k:Int)).toNat) om
     have hy2:=Zw _ (Y3 Zs)
     exact Ui 27 (U9 2 wb1 o ((xfst+(k:Int)).toNat) x2 Zs) (da 28 ((x2+1)) ((x2)+(1)) (dx 29 (Wu 2 wb1 o (xfst+(k:Int)) ((xfst+(k:Int)).toNat) (hq:=rfl)) (Z9 30 (Ag 30 2 [] [] wb1 o ((xfst+(k:Int)).toNat) (x2+1) (de (az (Z2 1 (ZJ k (Z0 (ZK ⟨k+1,(o.set (xfst+(k:Nat)).toNat (x2+1)),ob,ob,(by intro y hy;first|(rcases Ky hy with hy|rfl<;>first|(have:=Zw y hy;omega)|omega)|(have:=Zw y hy;omega)),(by rw [Y6 Z3,UU] at Yy;first|(rw [Zc Zg,VM Zs] at Yy;rw [show xfst+((k+1:Nat):Int)=xfst+k+1 by omega];exact Yy)|(rw [Z5 Zg] at Yy;rw [show xfst+((k+1:Nat):Int)=xfst+k+1 by omega];exact Yy)),rfl,rfl,rfl⟩ (wk [1,1,0,0,0,0,0,0] (ZM k fl) (e:=(rc (rc (rv (xs:=(o.set ((xfst+(k:Int)).toNat) (x2+1))) ob (rc (rc (rc (rc (rc rz))))))))))))))))))))
    exact ak (az (Z2 1 (ZJ k (Z0 (ZK ⟨k+1,o,ob,ob,(by intro y hy;first|(rcases Ky hy with hy|rfl<;>first|(have:=Zw y hy;omega)|omega)|(have:=Zw y hy;omega)),(by rw [Y6 Z3,UU] at Yy;first|(rw [Zc Zg,VM Zs] at Yy;rw [show xfst+((k+1:Nat):Int)=xfst+k+1 by omega];exact Yy)|(rw [Z5 Zg] at Yy;rw [show xfst+((k+1:Nat):Int)=xfst+k+1 by omega];exact Yy)),rfl,rfl,rfl⟩ (ZF 8 (ZM k fl)))))))
   refine ax 0 (X9 (VW [7] (ac (s.op==17) Zq (fun ZE=>?_) (fun ZE=>?_))))
   ·refine az (ZL 6 [0] (io (.i (((ZX n.decls xcon).length:Nat):Int)) (.i (((Z8 (ZX n.decls xcon)).length:Nat):Int)) (li (by rw [Ya])) (Zr (Wu 6 wf1 L'1.tok x x.toNat (hq:=rfl)) (Dl 6 wf1 L'1.tok x.toNat (((ZX n.decls xcon).length:Nat):Int) (ie (Zy ?_))))))
    have hof:o=UU L'1.own xfst (ZX n.decls xcon):=by rw [<-Yy,Xq om];rfl
    exact ZC (r1 [1,1,1,1,1,1,0] (.inl ⟨wa1,wb1,wc1,wd1,we1,wf1,(Zo.mk L'1.vars o L'1.par L'1.con L'1.fst (L'1.tok.set x.toNat (((ZX n.decls xcon).length:Nat):Int))),rfl,rfl,(by rw [Qe,hgcon,hgfst,hgtok,Z5 om,YI,hof,t6];simp [ZE,t2,t3,t4,t5])⟩) (eq:=(rc (rv (xs:=L'1.vars) ob (rv (xs:=o) ob (rv (xs:=L'1.par) ob (rv (xs:=L'1.con) ob (rv (xs:=L'1.fst) ob (rv (xs:=(L'1.tok.set x.toNat (((ZX n.decls xcon).length:Nat):Int))) ob rz)))))))))
   refine ak (Zy ?_)
   have hof:o=UU L'1.own xfst (ZX n.decls xcon):=by rw [<-Yy,Xq om];rfl
   exact ZC (r1 [0,0,0,0,0,0,0] (.inl ⟨wa1,wb1,wc1,wd1,we1,wf1,(Zo.mk L'1.vars o L'1.par L'1.con L'1.fst L'1.tok),rfl,rfl,(by rw [Qe,hgcon,hgfst,hgtok,Z5 om,YI,hof,t6];simp [ZE,t2,t3,t4,t5])⟩) (eq:=(rc (rv (xs:=L'1.vars) ob (rv (xs:=o) ob (rv (xs:=L'1.par) ob (rv (xs:=L'1.con) ob (rv (xs:=L'1.fst) ob (rv (xs:=L'1.tok) ob rz)))))))))
  exact Z0 (We (ar (Zp (r1 [] (.inr ⟨rfl,rfl,(by rw [Qe,hgcon,hgtok,Z5 om,YS])⟩)))))
 refine Z2 2 (ib (b:=(decide (xcon<0))) 22 (fun ZA=>?_) (fun ZA=>?_))
 ·have Xk:xcon<0:=(dq).1 ZA
  exact Z2 14 (Yq (ZF 9 (Zt true ZA fl)) hj1)
 have XZ:¬(xcon<0):=Y8 dq ZA
 refine ZL 4 [0] (ib (b:=(s.op==17)) 26 (fun Yp=>?_) (fun Yp=>?_))
 ·have Wy:s.op=17:=(Zq).1 Yp
  exact ZL 5 [2] (Zr (Wu 8 gf L.tok x x.toNat (hq:=rfl)) (Vi (U9 8 gf L.tok x.toNat xtok hxtok) (Z2 3 (Yq (ZF 9 (Zt (decide (xtok>=0)) (And.intro ZA Yp) fl)) hj1))))
 have WW:¬(s.op=17):=Y8 Zq Yp
 exact Z2 10 (Yq (ZF 9 (Zt false (And.intro ZA Yp) fl)) hj1)
theorem Zd8 (b:Nat) (ga:Hd) (gb:Hd) (gc:Hd) (gd:Hd) (ge:Hd) (gf:Hd) (n:Zl) (s:Z6) (L:Zo) (ln:LI) (q:Int) (hn:X4 n:=by exact ob) (hnum:s.op=9->0<=s.num/\s.num<n.routines.length:=by exact ob) (hk:X6 n.decls L q:=by exact ob) (hlb:L.vars.length<=1000000000:=by exact ob) (hargs:∀a∈s.args,0<=a/\a<L.vars.length) (hinto:0<s.into->s.into<=L.vars.length:=by exact ob) (hal:s.args.length<=1000000000:=by exact ob) (hln:ln.length<=4294967296:=by exact ob) (hq:0<=q/\q<=999999990:=by exact ob):Zk 210 [.p b 0,Yt n,YG s] [.obj b [.h ga,.h gb,.h gc,.h gd,.h ge,.h gf,Z4 ln],rV ga L.vars,rV gb L.own,rV gc L.par,rV gd L.con,rV ge L.fst,rV gf L.tok] (fun r h=>(∃(wa:Hd) (wb:Hd) (wc:Hd) (wd:Hd) (we:Hd) (wf:Hd) (L':Zo),r=.b true/\h=[.obj b [.h wa,.h wb,.h wc,.h wd,.h we,.h wf,Z4 ln],rV wa L'.vars,rV wb L'.own,rV wc L'.par,rV wd L'.con,rV we L'.fst,rV wf L'.tok]/\UD n ln L s.op s.num s.into s.args=some L')∨(r=.b false/\h=[]/\UD n ln L s.op s.num s.into s.args=none)):=by
 obtain ⟨e1,e2,e3,e4,e5⟩:=hk.len
 refine ZG 79 Tryz.func210 (ar (iA (YY n) fun b1=>iA (XE s) fun b2=>?_))
 refine Z0 (Yn (ab 0 (Y2 (fun fz gz m F h=>∃(k:Nat) (L2:Zo) (ka:Hd) (kb:Hd) (kc:Hd) (kd:Hd) (ke:Hd) (kf:Hd),(k<=s.args.length)/\(X6 n.decls L2 q)/\(L2.vars=L.vars)/\(T1 n s.op s.num (s.args.drop k) k L2=T1 n s.op s.num s.args 0 L)/\F=sF [0,4,5] fz [(7,.i k)]/\h=[Ze gz 0,Ze gz 1,.obj b [.h ka,.h kb,.h kc,.h kd,.h ke,.h kf,Z4 ln],rV ka L2.vars,rV kb L2.own,rV kc L2.par,rV kd L2.con,rV ke L2.fst,rV kf L2.tok]/\m=s.args.length-k) _ _ _ ⟨0,L,ga,gb,gc,gd,ge,gf,ob,hk,ob,ob,rfl,rfl,rfl⟩ (ZF 9 (Yb fl)) ?_)))
 rintro m F h ⟨k,L2,ka,kb,kc,kd,ke,kf,Yg,Zj,Zw,Yy,rfl,rfl,rfl⟩
 refine Yk 3 [0] (iw (Ya s.args) (Y7 ((k:Int)<(s.args.length:Int)) (fun Za=>?_) (fun Za=>?_)))
 ·obtain ⟨a1,ha1⟩:=Zu s.args k om
  obtain ⟨e6,e7,e8,e9,e10⟩:=Zj.len
  have hav:=hargs a1 (Y3 ha1)
  have hvl:L2.vars.length=L.vars.length:=by rw [Zw]
  refine ak (aq (ab 1 (aD 18 (ZI 11 18 [0,1,2,3,4,5,6] [1,2,0] (Z9 7 (Td 7 [3] [] [] [rV ka L2.vars] (Hr n L2.vars s k a1 (ha:=ha1)) CX (gS (gL (v:=ka) 0 (gS (gS gN)))) (Uv Tl) ?_))))))
  rintro _ _ ⟨rfl,rfl⟩
  refine Zi 9 10 [8] (db (b:=TB n L2.vars s.op s.num a1 k) 24 (fun Zb=>?_) (fun Zb=>?_))
  ·have ZY:TB n L2.vars s.op s.num a1 k=true:=(Iff.rfl).1 Zb
   refine ZI 5 9 [9,10,11,12] [1] (dx 13 (Zm none (k:Int) 1 (Y1 ha1)) (Zi 3 4 [14] (Z9 15 (dc 15 [3,0,2,2,2,2,2] [] [] (GW b ka kb kc kd ke kf L2 ln a1 (hlk:=Zj.len) (hq:=(fun y hy=>⟨Zj.nn y hy,by have:=Zj.bd y hy;omega⟩))) ?_))))
   rintro _ _ (⟨wa1,wb1,wc1,wd1,we1,wf1,L'1,rfl,rfl,Yd⟩|⟨rfl,rfl,YI⟩)
   ·obtain ⟨t1,t2,t3,t4,t5,t6,t7⟩:=KH Yd
    have hk2:=Zj.take Yd
    exact Zi 0 2 [16,17] (de (WC (ak (az (Z2 1 (ZJ k (Z0 (ZK ⟨k+1,L'1,wa1,wb1,wc1,wd1,we1,wf1,ob,hk2,(t2.trans Zw),(by rw [Y6 ha1,T1,Zc ZY] at Yy;simp only [Yd] at Yy;exact Yy),rfl,rfl,rfl⟩ (wk [7,7,0,0,0,0,0,0,0] (ZM k fl))))))))))
   exact Zi 0 2 [16,17] (de (We (ar (Zp (r1 [] (.inr ⟨rfl,rfl,(by rw [UD,<-Yy,Y6 ha1,T1,Zc ZY,YI])⟩))))))
  have YS:¬(TB n L2.vars s.op s.num a1 k=true):=Y8 Iff.rfl Zb
  exact Zi 0 9 [9,10,11,12,13,14,15,16,17] (de (WC (ak (az (Z2 1 (ZJ k (Z0 (ZK ⟨k+1,L2,ka,kb,kc,kd,ke,kf,ob,Zj,Zw,(by rw [Y6 ha1,T1,Z5 YS] at Yy;exact Yy),rfl,rfl,rfl⟩ (wk [1,1,1,0,0,0,0,0,0] (ZM k fl))))))))))
 have hT:T1 n s.op s.num s.args 0 L=some L2:=by rw [<-Yy,Xq om];rfl
 obtain ⟨e6,e7,e8,e9,e10⟩:=Zj.len
 have hvl:L2.vars.length=L.vars.length:=by rw [Zw]
 refine ax 0 (Yn (ab 2 (Y2 (fun fz gz m F h=>∃(j:Nat),(j<=s.args.length)/\(Qa n s.op s.num ln L2 (s.args.drop j) j=Qa n s.op s.num ln L2 s.args 0)/\F=sF [0,4,5] fz [(8,.i j)]/\h=gz/\m=s.args.length-j) _ _ _ ⟨0,ob,ob,rfl,rfl,rfl⟩ (ZF 9 (Yb fl)) ?_)))
 rintro m F h ⟨j,Ug,W8,rfl,rfl,rfl⟩
 refine Yk 3 [0] (iw (Ya s.args) (Y7 ((j:Int)<(s.args.length:Int)) (fun Zg=>?_) (fun Zg=>?_)))
 ·obtain ⟨a2,ha2⟩:=Zu s.args j om
  have hav:=hargs a2 (Y3 ha2)
  refine ak (aq (ab 3 (Zv 3 [1,0] (Zx [] (F9 n s j) (Xw [0,4,5,8] [(54,.b (WG n s.op s.num j&&(!XR L2 ln a2)))] (fun gz=>[Ze gz 2,Ze gz 3,Ze gz 4,Ze gz 5,Ze gz 6,Ze gz 7,Ze gz 8,Ze gz 0,Ze gz 1]) ?_ ?_)))))
  ·refine Z2 1 (ib (b:=WG n s.op s.num j) 45 (fun ZA=>?_) (fun ZA=>?_))
   ·exact ZL 4 [0] (Zr (Zm none (j:Int) 1 (Y1 ha2)) (Z2 1 (Zx [2,2,2,2,2,2,2] (GV b ka kb kc kd ke kf L2 ln a2 (hlk:=Zj.len) (hd:=Zj.down)) (Z0 (ZF 9 (Zt (!XR L2 ln a2) ZA fl))))))
   exact Z0 (wk [2,2,2,2,2,2,2,0,0] (Zt false ZA fl))
  refine ac (WG n s.op s.num j&&(!XR L2 ln a2)) (p:=(WG n s.op s.num j=true)/\(¬(XR L2 ln a2=true))) (YJ Iff.rfl (Yl Iff.rfl)) (fun ZE=>?_) (fun ZE=>?_)
  ·refine Zy ?_
   have hA:Qa n s.op s.num ln L2 s.args 0=false:=by rw [<-W8,Y6 ha2,Qa,Zc ZE]
   exact ZC (r1 [] (.inr ⟨rfl,rfl,(by rw [UD,hT];simp only [hA];rfl)⟩))
  exact ak (az (Z2 1 (ZJ j (Z0 (ZK ⟨j+1,ob,(by rw [Y6 ha2,Qa,Z5 ZE] at W8;exact W8),rfl,rfl,rfl⟩ (wk [7,7,0,0,0,0,0,0,0] (ZM j fl)))))))
 have hA:Qa n s.op s.num ln L2 s.args 0=true:=by rw [<-W8,Xq om];rfl
 refine ax 2 (X9 (VW [0] (XN (s.into>0) (fun Yi=>?_) (fun Yi=>?_))))
 ·obtain ⟨xt,hxt⟩:=Zu L2.tok ((s.into-1).toNat) (by have:=hinto Yi;omega)
  have hgt:=VM hxt
  refine aq (aD 13 (ZI 7 13 [0,1,2,3,4,5] [2,0] (da 6 ((s.into-1)) ((s.into)-(1)) (dx 7 (Wu 8 kf L2.tok (s.into-1) ((s.into-1).toNat) (hq:=rfl)) (Ui 8 (U9 8 kf L2.tok ((s.into-1).toNat) xt hxt) (ZI 2 4 [9,10] [0] (dw 11 (Ya s.args) (Zi 0 1 [12] (de (ac (xt != (s.args.length:Int)) Y4 (fun Xg=>?_) (fun Xg=>?_)))))))))))
  ·exact ar (Zp (r1 [] (.inr ⟨rfl,rfl,(by rw [UD,hT];simp only [hA,↓reduceIte];rw [Js,Zc Yi,hgt,Zc Xg])⟩)))
  exact ak (aE 9 (ZI 3 9 [0,1,2,3,4,5] [2,0] (da 6 ((s.into-1)) ((s.into)-(1)) (dx 7 (Wu 8 kf L2.tok (s.into-1) ((s.into-1).toNat) (hq:=rfl)) (Z9 8 (Ag 8 8 [] [] kf L2.tok ((s.into-1).toNat) (-1) (de (ar (Zp (r1 [3,3,3,3,3,3,0] (.inl ⟨ka,kb,kc,kd,ke,kf,(Zo.mk L2.vars L2.own L2.par L2.con L2.fst (L2.tok.set ((s.into-1).toNat) (-1))),rfl,rfl,(by rw [UD,hT];simp only [hA,↓reduceIte];rw [Js,Zc Yi,hgt,Z5 Xg])⟩) (eq:=(rc (rv (xs:=L2.vars) ob (rv (xs:=L2.own) ob (rv (xs:=L2.par) ob (rv (xs:=L2.con) ob (rv (xs:=L2.fst) ob (rv (xs:=(L2.tok.set ((s.into-1).toNat) (-1))) ob rz))))))))))))))))))
 exact ak (ar (Zp (r1 [2,2,2,2,2,2,2] (.inl ⟨ka,kb,kc,kd,ke,kf,L2,rfl,rfl,(by rw [UD,hT];simp only [hA,↓reduceIte];rw [Js,Z5 Yi])⟩))))
theorem Z8u (b:Z7) (t:Int) (hz:b.sz<=1000000) (ih:∀(b2:Z7) (t:Int),(b2.sz<=1000000)->(b2.sz<b.sz)->Zk 231 [Y9 b2,.i t] [] (fun r h=>∃(wr:Bool),r=.b wr/\h=[])):Zk 231 [Y9 b,.i t] [] (fun r h=>∃(wr:Bool),r=.b wr/\h=[]):=by
 have ZO:=To b
 have hbl:=JD b.steps
 have hbe:=b.sz_eq
 refine ZG 53 Tryz.func231 (ar (iA (Xx b) fun b1=>?_))
 refine Z0 (Yn (ab 0 (Y2 (fun fz gz m F h=>∃(k:Nat),(k<=b.steps.length)/\F=sF [1,2] fz [(5,.i k)]/\h=gz/\m=b.steps.length-k) _ _ _ ⟨0,ob,rfl,rfl,rfl⟩ (wk [0] (Yb fl)) ?_)))
 rintro m F h ⟨k,Yg,rfl,rfl,rfl⟩
 refine Yk 3 [0] (iw (VY b.steps) (Y7 ((k:Int)<(b.steps.length:Int)) (fun Za=>?_) (fun Za=>?_)))
 ·refine ak (aq (ab 1 (Yk 3 [0] ?_)))
  obtain ⟨x1,Z3⟩:=Zu b.steps k om
  have hxs:=ML (Y3 Z3)
  have hxe:=(x1).sz_eq
  have hxk:=TL x1
  refine Zr (Zm none (k:Int) 5 (VS Z3)) (Xw [1,2,5] [(30,.b ((x1.op==10)&&(x1.num==t)))] (fun gz=>gz) ?_ ?_)
  ·refine Z2 4 (ib (b:=(x1.op==10)) 21 (fun Zb=>?_) (fun Zb=>?_))
   ·exact ZL 3 [0] (Zr (Zm none (k:Int) 5 (VS Z3)) (Z0 (wk [0] (Zt (x1.num==t) Zb fl))))
   exact Z0 (wk [0] (Zt false Zb fl))
  refine ac ((x1.op==10)&&(x1.num==t)) (p:=(x1.op=10)/\(x1.num=t)) (YJ Zq Zq) (fun Zg=>?_) (fun Zg=>?_)
  ·exact ar (Zp (r1 [] ⟨true,rfl,rfl⟩))
  refine ak (Zy (ab 2 (Y2 (fun fz gz m F h=>∃(j:Nat),(j<=x1.kids.length)/\F=sF [1,2,5] fz [(6,.i j)]/\h=gz/\m=x1.kids.length-j) _ _ _ ⟨0,ob,rfl,rfl,rfl⟩ (wk [0] (Yb fl)) ?_)))
  rintro m F h ⟨j,Ug,rfl,rfl,rfl⟩
  refine Yk 4 [0] (Zr (Zm none (k:Int) 5 (VS Z3)) (Z2 2 (iw (Uj x1.kids) (Y7 ((j:Int)<(x1.kids.length:Int)) (fun ZE=>?_) (fun ZE=>?_)))))
  ·refine ak (aq (ab 3 (Zv 3 [0] (Zr (Zm none (k:Int) 5 (VS Z3)) (Z2 3 ?_)))))
   obtain ⟨x2,Zs⟩:=Zu x1.kids j om
   have hkx:=Ia (Y3 Zs)
   refine Zr (Zm none (j:Int) 2 (Tf Zs)) (Z2 2 (ic [] (ih x2 t ob ob) ?_))
   rintro _ _ ⟨wr1,rfl,rfl⟩
   refine ie (ac wr1 Iff.rfl (fun Yi=>?_) (fun Yi=>?_))
   ·exact ar (Zp (r1 [] ⟨true,rfl,rfl⟩))
   exact ak (az (Z2 1 (ZJ j (Z0 (ZK ⟨j+1,ob,rfl,rfl,rfl⟩ (wk [0] (ZM j fl)))))))
  exact ax 2 (az (Z2 1 (ZJ k (Z0 (ZK ⟨k+1,ob,rfl,rfl,rfl⟩ (wk [0] (ZM k fl)))))))
 exact ax 0 (ar (Zp (r1 [] ⟨false,rfl,rfl⟩)))
theorem Z8t (b:Z7) (t:Int) (hz:b.sz<=1000000:=by exact ob):Zk 231 [Y9 b,.i t] [] (fun r h=>∃(wr:Bool),r=.b wr/\h=[]):=by
 have key:∀k:Nat,∀(b2:Z7) (t:Int),(b2.sz<=1000000)->(b2.sz<k)->Zk 231 [Y9 b2,.i t] [] (fun r h=>∃(wr:Bool),r=.b wr/\h=[]):=by
  intro k
  induction k with
  | zero=>intro b2 t h1 h2;omega
  | succ k ih=>intro b2 t h1 h2;exact Z8u b2 t h1 fun b3 t3 q1 q2=>ih b3 t3 q1 om
 exact key (b.sz+1) b t hz om
theorem Z9d (n:Zl) (t:Int) (qz:Nat) (hn:FN n qz:=by exact ob) (hqz:qz<=100000:=by exact ob):Zk 188 [Yt n,.i t] [] (fun r h=>∃(wr:Bool),r=.b wr/\h=[]):=by
 have hnl:=hn.len
 refine ZG 21 Tryz.func188 (ar (iA (YY n) fun b1=>?_))
 refine Z0 (Yn (ab 0 (Y2 (fun fz gz m F h=>∃(k:Nat),(k<=n.routines.length)/\F=sF [1,2] fz [(5,.i k)]/\h=gz/\m=n.routines.length-k) _ _ _ ⟨0,ob,rfl,rfl,rfl⟩ (wk [0] (Yb fl)) ?_)))
 rintro m F h ⟨k,Yg,rfl,rfl,rfl⟩
 refine Yk 3 [0] (iw (Ul n.routines) (Y7 ((k:Int)<(n.routines.length:Int)) (fun Za=>?_) (fun Za=>?_)))
 ·refine ak (aq (ab 1 (Zv 3 [0] ?_)))
  obtain ⟨x1,Z3⟩:=Zu n.routines k om
  have hbz:=(hn.body _ (Y3 Z3)).2
  refine Zr (Zm none (k:Int) 5 (WV Z3)) (Z2 3 (ic [] (Z8t x1.body t) ?_))
  rintro _ _ ⟨wr1,rfl,rfl⟩
  refine ie (ac wr1 Iff.rfl (fun Zg=>?_) (fun Zg=>?_))
  ·exact ar (Zp (r1 [] ⟨true,rfl,rfl⟩))
  exact ak (az (Z2 1 (ZJ k (Z0 (ZK ⟨k+1,ob,rfl,rfl,rfl⟩ (wk [0] (ZM k fl)))))))
 exact ax 0 (ar (Zp (r1 [] ⟨false,rfl,rfl⟩)))
theorem Pg (fs:LI) (q:Nat) (hl:fs.length<=1000000:=by exact ob) (hq:q<=1000000:=by exact ob):Zk 189 [Z4 fs,.i q] [] (fun r h=>∃(xs:LI),r=Z4 xs/\h=[]/\xs.length<=fs.length/\∀i∈xs,(q:Int)<=i/\i<(q:Int)+fs.length):=by
 refine ZG 26 Tryz.func189 (Zy (ar (iL (Z8 []) 0 1 fun v1=>?_)))
 refine Z0 (Yn (ab 0 (Y2 (fun fz gz m F h=>∃(k:Nat) (ys:LI) (u:Value),(k<=fs.length)/\(ys.length<=k)/\(∀i∈ys,(q:Int)<=i/\i<(q:Int)+fs.length)/\F=sF [0,1] fz [(5,ZQ ys u),(6,.i k)]/\h=[.tail u 1]/\m=fs.length-k) _ _ _ ⟨0,[],v1,ob,ob,(fun i hi=>by cases hi),rfl,rfl,rfl⟩ (wk [0] (fr (Yb fl))) ?_)))
 rintro m F h ⟨k,ys,u,Yg,Zj,Zw,rfl,rfl,rfl⟩
 refine YP 2 (iw (Ya fs) (Y7 ((k:Int)<(fs.length:Int)) (fun Za=>?_) (fun Za=>?_)))
 ·refine ak (aq (ab 1 (Y0 2 ?_)))
  obtain ⟨x1,Z3⟩:=Zu fs k om
  refine Zr (Zm none (k:Int) 1 (Y1 Z3)) (YD (x1 != 0) Y4 (fun Zg=>?_) (fun Zg=>?_))
  ·exact az (Z2 3 (ia (((q+k:Nat):Int)) (((q:Int))+((k:Int))) (iL (Z8 [((q+k:Nat):Int)]) 1 1 fun v2=>ZT 0 [(23,Z4 [((q+k:Nat):Int)])] (ip 1 (Z8 (ys++[((q+k:Nat):Int)])) (Z8 ys) (Z8 [((q+k:Nat):Int)]) u none 1 (YK _) (YK _) (Wx _) (by simp<;>omega) (by simp [Ww,Z8]) fun v3=>Z0 (az (Z2 1 (ZJ k (Z0 (ZK ⟨k+1,(ys++[((q+k:Nat):Int)]),v3,ob,ob,(XU Zw om),rfl,rfl,rfl⟩ (wk [0] (fr (ZM k fl))))))))))))
  exact ak (az (Z2 1 (ZJ k (Z0 (ZK ⟨k+1,ys,u,ob,ob,ob,rfl,rfl,rfl⟩ (wk [0] (fr (ZM k fl))))))))
 exact ax 0 (ar (Zp (r2 [] [ZQ ys u] ⟨ys,rfl,rfl,⟨by omega,Zw⟩⟩ (Zd.forget _ _))))
theorem Pa (n:Zl) (qz:Nat) (hn:FN n qz:=by exact ob) (hqz:qz<=100000:=by exact ob):Zk 136 [Yt n] [] (fun r h=>∃(xs:List LI),r=Kz xs/\h=[]/\LC n n.routines.length xs):=by
 have hnl:=hn.len
 refine ZG 31 Tryz.func136 (ar (iA (YY n) fun b1=>Z0 (ar (iL (Wr []) 0 1 fun v1=>?_))))
 refine Z0 (Yn (ab 0 (Y2 (fun fz gz m F h=>∃(k:Nat) (ys:List LI) (u:Value),(k<=n.routines.length)/\(ys.length=k)/\(LC n k ys)/\F=sF [1] fz [(3,BD ys u),(4,.i k)]/\h=[Ze gz 1,.tail u 1]/\m=n.routines.length-k) _ _ _ ⟨0,[],v1,ob,ob,LC.nil,rfl,rfl,rfl⟩ (wk [1,0] (fr (Yb fl))) ?_)))
 rintro m F h ⟨k,ys,u,Yg,Zj,Zw,rfl,rfl,rfl⟩
 refine Yk 3 [0] (iw (Ul n.routines) (Y7 ((k:Int)<(n.routines.length:Int)) (fun Za=>?_) (fun Za=>?_)))
 ·refine ak (aq (ab 1 (Zv 2 [0] (ic [] (Z9d n (k:Int) qz) ?_))))
  rintro _ _ ⟨wr1,rfl,rfl⟩
  refine ie (ac wr1 Iff.rfl (fun Zg=>?_) (fun Zg=>?_))
  ·exact az (Z2 1 (iL (Z8 []) 0 1 fun v2=>ZT 0 [(17,Z4 [])] (iL (Wr [[]]) 1 1 fun v3=>ZT 0 [(18,Kz [[]])] (ip 3 (Wr (ys++[[]])) (Wr ys) (Wr [[]]) u none 1 (Br _) (Br _) (FY _) (by simp<;>omega) (by simp [II,Wr]) fun v4=>Z0 (az (Z2 1 (ZJ k (Z0 (ZK ⟨k+1,(ys++[[]]),v4,ob,ob,(Zw.snoc (by simp) (fun r hr v hv=>by cases hv)),rfl,rfl,rfl⟩ (wk [3,0] (fr (ZM k fl))))))))))))
  refine az (ZL 4 [0] ?_)
  obtain ⟨x1,Z3⟩:=Zu n.routines k om
  have hrp:=(FN.ok hn).params_at Z3
  have hss:=(Qk.bd (f:=⟨(x1).params,(x1).result,default⟩) (hn.sigs _ (Y3 Z3))).1
  refine Zr (Zm none (k:Int) 5 (WV Z3)) (Z2 2 (ic [] (Pg x1.params 0) ?_))
  rintro _ _ ⟨xs1,rfl,rfl,ZY⟩
  have hhf:=ZY
  exact iL (Wr [xs1]) 1 1 fun v5=>ZT 0 [(28,Kz [xs1])] (ip 2 (Wr (ys++[xs1])) (Wr ys) (Wr [xs1]) u none 1 (Br _) (Br _) (FY _) (by simp<;>omega) (by simp [II,Wr]) fun v6=>Z0 (az (Z2 1 (ZJ k (Z0 (ZK ⟨k+1,(ys++[xs1]),v6,ob,ob,(Zw.snoc om (fun r hr v hv=>by rw [Z3] at hr;cases hr;have:=hhf.2 v hv;omega)),rfl,rfl,rfl⟩ (wk [2,0] (fr (ZM k fl)))))))))
 exact ax 0 (ar (Zp (r2 [] [BD ys u] ⟨ys,rfl,rfl,(by rw [show n.routines.length=k by omega];exact Zw)⟩ (Zd.forget _ _))))
theorem Z8x (n:Zl) (b:Z7) (t:Int) (mq:Nat) (hn:X4 n) (hf:fB n.decls n.routines.length mq b) (hz:b.sz<=1000000) (ih:∀(b2:Z7) (t:Int) (m2:Nat),(fB n.decls n.routines.length m2 b2)->(b2.sz<=1000000)->(b2.sz<b.sz)->Zk 190 [Yt n,Y9 b2,.i t] [] (fun r h=>∃(wr:Bool),r=.b wr/\h=[])):Zk 190 [Yt n,Y9 b,.i t] [] (fun r h=>∃(wr:Bool),r=.b wr/\h=[]):=by
 have hbl:=JD b.steps
 have hbe:=b.sz_eq
 refine ZG 68 Tryz.func190 (ar (iA (YY n) fun b1=>iA (Xx b) fun b2=>Z0 (X9 (VW [0] (ac (b.result==t) Zq (fun Za=>?_) (fun Za=>?_))))))
 ·exact ar (Zp (r1 [] ⟨true,rfl,rfl⟩))
 refine ak (Yn (ab 0 (Y2 (fun fz gz m F h=>∃(k:Nat),(k<=b.steps.length)/\F=sF [2,3,4] fz [(7,.i k)]/\h=gz/\m=b.steps.length-k) _ _ _ ⟨0,ob,rfl,rfl,rfl⟩ (wk [0,0] (Yb fl)) ?_)))
 rintro m F h ⟨k,Yg,rfl,rfl,rfl⟩
 refine Yk 3 [0] (iw (VY b.steps) (Y7 ((k:Int)<(b.steps.length:Int)) (fun Zg=>?_) (fun Zg=>?_)))
 ·refine ak (aq (ab 1 (Zv 3 [0] ?_)))
  obtain ⟨x1,Z3⟩:=Zu b.steps k om
  have hfs:=(IT x1).1 (G7 ((G5 b).1 hf).1 Z3)
  have hxs:=ML (Y3 Z3)
  have hxe:=(x1).sz_eq
  have hxk:=TL x1
  refine Zr (Zm none (k:Int) 5 (VS Z3)) (Z2 1 (iA [.i 0,.i 0,.i 0,nl,nl] fun b3=>?_))
  refine ZH 0 b3 (XE x1) (ie (Yn (ab 2 (Y2 (fun fz gz m F h=>∃(j:Nat),(j<=x1.args.length)/\F=sF [2,3,4,7,8] fz [(9,.i j)]/\h=gz/\m=x1.args.length-j) _ _ _ ⟨0,ob,rfl,rfl,rfl⟩ (ZF 3 (Yb fl)) ?_))))
  rintro m F h ⟨j,Ug,rfl,rfl,rfl⟩
  refine Yk 3 [0] (iw (Ya x1.args) (Y7 ((j:Int)<(x1.args.length:Int)) (fun ZE=>?_) (fun ZE=>?_)))
  ·refine ak (aq (ab 3 (Zv 3 [0] ?_)))
   obtain ⟨x2,Zs⟩:=Zu x1.args j om
   refine Zr (Zm none (j:Int) 1 (Y1 Zs)) (XD 12 [2,3,4,7,8,9] [(45,.b ((x2==t)&&Tc x1.op))] (fun gz=>gz) ?_ (fun hj1=>?_))
   ·refine Xw [2,3,4,7,8,9] [(52,.b (((x2==t)&&Tc x1.op)&&(!WG n x1.op x1.num j)))] (fun gz=>gz) ?_ ?_
    ·refine Z2 1 (ib (b:=((x2==t)&&Tc x1.op)) 46 (fun Zb=>?_) (fun Zb=>?_))
     ·exact ZL 3 [2,0] (Zx [] (F9 n x1 j (hnum:=hfs.call)) (Z0 (ZF 3 (Zt (!WG n x1.op x1.num j) Zb fl))))
     exact Z0 (ZF 3 (Zt false Zb fl))
    refine ac (((x2==t)&&Tc x1.op)&&(!WG n x1.op x1.num j)) (p:=((x2=t)/\(Tc x1.op=true))/\(¬(WG n x1.op x1.num j=true))) (YJ (YJ Zq Iff.rfl) (Yl Iff.rfl)) (fun Yi=>?_) (fun Yi=>?_)
    ·exact ar (Zp (r1 [] ⟨true,rfl,rfl⟩))
    exact ak (az (Z2 1 (ZJ j (Z0 (ZK ⟨j+1,ob,rfl,rfl,rfl⟩ (ZF 3 (ZM j fl)))))))
   refine Z2 4 (ib (b:=(x2==t)) 41 (fun ZA=>?_) (fun ZA=>?_))
   ·exact ZL 2 [0] (Zx [] (Z19 x1.op) (Z2 1 (Yq (ZF 3 (Zt (Tc x1.op) ZA fl)) hj1)))
   exact Z2 4 (Yq (ZF 3 (Zt false ZA fl)) hj1)
  refine ax 2 (Zy (ab 4 (Y2 (fun fz gz m F h=>∃(j:Nat),(j<=x1.kids.length)/\F=sF [2,3,4,7,8] fz [(10,.i j)]/\h=gz/\m=x1.kids.length-j) _ _ _ ⟨0,ob,rfl,rfl,rfl⟩ (ZF 3 (Yb fl)) ?_)))
  rintro m F h ⟨j,Z50,rfl,rfl,rfl⟩
  refine Yk 3 [0] (iw (Uj x1.kids) (Y7 ((j:Int)<(x1.kids.length:Int)) (fun Xg=>?_) (fun Xg=>?_)))
  ·refine ak (aq (ab 5 (aD 8 (ZI 4 8 [0,1,2,3] [2,0] ?_))))
   obtain ⟨x3,YL⟩:=Zu x1.kids j om
   have hkx:=Ia (Y3 YL)
   have hfk:=G6 hfs.kids YL
   refine dx 4 (Zm none (j:Int) 2 (Tf YL)) (Zi 1 3 [5,6] (Z9 7 (dc 7 [] [] [] (ih x3 t (QC n.decls x1.op x1.num (mq+Xp (b.steps.take k)) (0+j)) hfk ob ob) ?_)))
   rintro _ _ ⟨wr1,rfl,rfl⟩
   refine de (ac wr1 Iff.rfl (fun Xm=>?_) (fun Xm=>?_))
   ·exact ar (Zp (r1 [] ⟨true,rfl,rfl⟩))
   exact ak (az (Z2 1 (ZJ j (Z0 (ZK ⟨j+1,ob,rfl,rfl,rfl⟩ (ZF 3 (ZM j fl)))))))
  exact ax 4 (az (Z2 1 (ZJ k (Z0 (ZK ⟨k+1,ob,rfl,rfl,rfl⟩ (wk [1,1] (ZM k fl)))))))
 exact ax 0 (ar (Zp (r1 [] ⟨false,rfl,rfl⟩)))
theorem Z8w (n:Zl) (b:Z7) (t:Int) (mq:Nat) (hn:X4 n:=by exact ob) (hf:fB n.decls n.routines.length mq b:=by exact ob) (hz:b.sz<=1000000:=by exact ob):Zk 190 [Yt n,Y9 b,.i t] [] (fun r h=>∃(wr:Bool),r=.b wr/\h=[]):=by
 have key:∀k:Nat,∀(b2:Z7) (t:Int) (m2:Nat),(fB n.decls n.routines.length m2 b2)->(b2.sz<=1000000)->(b2.sz<k)->Zk 190 [Yt n,Y9 b2,.i t] [] (fun r h=>∃(wr:Bool),r=.b wr/\h=[]):=by
  intro k
  induction k with
  | zero=>intro b2 t m2 h1 h2 h3;omega
  | succ k ih=>intro b2 t m2 h1 h2 h3;exact Z8x n b2 t m2 hn h1 h2 fun b3 t3 m3 q1 q2 q3=>ih b3 t3 m3 q1 q2 om
 exact key (b.sz+1) b t mq hf hz om
theorem Z9e (n:Zl) (rt:Yh) (i:Nat) (qz:Nat) (hn:FN n qz:=by exact ob) (hqz:qz<=100000:=by exact ob) (hr:n.routines[i]? = some rt:=by exact ob):Zk 137 [Yt n,.i i] [] (fun r h=>∃(xs:LI),r=Z4 xs/\h=[]/\xs.length<=rt.lent.length/\∀v∈xs,v∈rt.lent):=by
 have hok:=FN.ok hn
 have hrl:=hn.lent rt (Y3 hr)
 have hrb:=hn.body rt (Y3 hr)
 obtain ⟨hil,_⟩:=Xs.1 hr
 have hnl:=hn.len
 refine ZG 50 Tryz.func137 (ar (iA (YY n) fun b1=>Z0 (ar (iL (Z8 []) 0 1 fun v1=>?_))))
 refine Z0 (Yn (ab 0 (Y2 (fun fz gz m F h=>∃(k:Nat) (ys:LI) (u:Value),(k<=rt.lent.length)/\(ys.length<=k)/\(∀v∈ys,v∈rt.lent)/\F=sF [1,2] fz [(5,ZQ ys u),(6,.i k)]/\h=[Ze gz 1,.tail u 1]/\m=rt.lent.length-k) _ _ _ ⟨0,[],v1,ob,ob,(fun v hv=>by cases hv),rfl,rfl,rfl⟩ (wk [1,0] (fr (Yb fl))) ?_)))
 rintro m F h ⟨k,ys,u,Yg,Zj,Zw,rfl,rfl,rfl⟩
 refine Yk 4 [0] (Zr (Zm none (i:Int) 5 (WV hr)) (Z2 2 (iw (Ya rt.lent) (Y7 ((k:Int)<(rt.lent.length:Int)) (fun Za=>?_) (fun Za=>?_)))))
 ·refine ak (aq (ab 1 (aD 18 (ZI 14 18 [0,1,2,3] [0,0] (dx 4 (Zm none (i:Int) 5 (WV hr)) (ZI 8 13 [5,6,7,8,9] [0] (dx 10 (Zm none (i:Int) 5 (WV hr)) (Zi 4 7 [11,12,13] ?_))))))))
  obtain ⟨x1,Z3⟩:=Zu rt.lent k om
  refine dx 14 (Zm none (k:Int) 1 (Y1 Z3)) (Zi 2 3 [15] (Z9 16 (dc 16 [] [] [] (Z8w n rt.body x1 rt.params.length (hn:=hok) (hf:=hrb.1)) ?_)))
  rintro _ _ ⟨wr1,rfl,rfl⟩
  refine Zi 0 1 [17] (de (ac (!wr1) (p:=¬(wr1=true)) (Yl Iff.rfl) (fun Zg=>?_) (fun Zg=>?_)))
  ·exact az (ZL 4 [0] (Zr (Zm none (i:Int) 5 (WV hr)) (Z2 3 (Zr (Zm none (k:Int) 1 (Y1 Z3)) (Z2 1 (iL (Z8 [x1]) 1 1 fun v2=>ZT 0 [(47,Z4 [x1])] (ip 2 (Z8 (ys++[x1])) (Z8 ys) (Z8 [x1]) u none 1 (YK _) (YK _) (Wx _) (by simp<;>omega) (by simp [Ww,Z8]) fun v3=>Z0 (az (Z2 1 (ZJ k (Z0 (ZK ⟨k+1,(ys++[x1]),v3,ob,ob,(XU Zw (Y3 Z3)),rfl,rfl,rfl⟩ (wk [2,0] (fr (ZM k fl)))))))))))))))
  exact ak (az (Z2 1 (ZJ k (Z0 (ZK ⟨k+1,ys,u,ob,ob,ob,rfl,rfl,rfl⟩ (wk [0,0] (fr (ZM k fl))))))))
 exact ax 0 (ar (Zp (r2 [] [ZQ ys u] ⟨ys,rfl,rfl,⟨by omega,Zw⟩⟩ (Zd.forget _ _))))
theorem Zi2 (s:Z6) (ih:∀(b2:Z7),(b2.sz<s.sz)->(b2.sz<=1000000000)->Zk 156 [Y9 b2] [] (Yr (Y9 b2))) (hz:s.sz<=1000000000):Zk 211 [YG s] [] (Yr (YG s)):=by
 have hkz:=TL s
 have haz:=K6 s
 refine ZG 33 Tryz.func211 (ar (iA (XE s) fun b1=>iA [.i 0,.i 0,.i 0,nl,nl] fun b2=>ie (ar (iL (YU []) 0 2 fun v1=>?_))))
 refine Z0 (Yn (ab 0 (Y2 (fun fz gz m F h=>∃(k:Nat) (v:Value),(k<=s.kids.length)/\F=sF [1,2] fz [(3,Qd (s.kids.take k) v),(4,.i k)]/\h=[Ze gz 1,Ze gz 2,.tail v 2]/\m=s.kids.length-k) _ _ _ ⟨0,v1,ob,rfl,rfl,rfl⟩ (wk [1,1,0] (fc (x:=Qd [] v1) (Zd.slh _ (Yv YU rfl)) (Yb fl))) ?_)))
 rintro m F h ⟨k,v,Yg,rfl,rfl,rfl⟩
 refine Yk 3 [1] (iw (Uj s.kids) (Y7 ((k:Int)<(s.kids.length:Int)) (fun Za=>?_) (fun Za=>?_)))
 ·refine ak (aq (ab 1 (az (ZL 4 [1] ?_))))
  obtain ⟨x1,Z3⟩:=Zu s.kids k om
  have hks:=TK Z3
  exact Zr (Zm none (k:Int) 2 (Tf Z3)) (Z2 1 (Zx [] (ih x1 ob ob) (iL [Y9 x1] 1 2 fun v2=>ZT 0 [(20,.sl [Y9 x1] none)] (ip 3 (YU (s.kids.take (k+1))) (YU (s.kids.take k)) [Y9 x1] v none 2 (Ko _) (TM rfl) rfl (by simp<;>omega) (by rw [V6 Z3];simp [Q5]) fun v3=>Z0 (az (Z2 1 (ZJ k (Z0 (ZK ⟨k+1,v3,ob,rfl,rfl,rfl⟩ (wk [2,2,0] (fr (ZM k fl))))))))))))
 refine ax 0 (aD 12 (ZI 3 12 [0,1,2,3,4,5,6,7,9] [1,1,1,1] (Z9 8 (dc 8 [] [1,1,1] [b1,b1,b1] (T4 s.args) ?_))))
 rintro _ _ ⟨v4,rfl,rfl⟩
 exact Zi 1 2 [10] (Z9 11 (YO 11 1 [] [] b2 [.i s.op,.i s.num,.i s.into,ZQ s.args v4,Qd (s.kids.take k) v] (de (ZC (r3 [] [.agg [.i s.op,.i s.num,.i s.into,ZQ s.args v4,Qd (s.kids.take k) v]] [0] [(b2,b2)] ⟨rfl,rfl⟩ (Zd.agg (.cons (lr _) (.cons (lr _) (.cons (lr _) (.cons (Zd.forget _ _) (.cons (Zd.sl _ (Yv YU (by rw [Vw om]))) .nil)))))))))))
theorem Zi0 (b:Z7) (ih:∀(s2:Z6),(s2.sz<b.sz)->(s2.sz<=1000000000)->Zk 211 [YG s2] [] (Yr (YG s2))) (hz:b.sz<=1000000000):Zk 156 [Y9 b] [] (Yr (Y9 b)):=by
 have hbz:=To b
 refine ZG 28 Tryz.func156 (ar (iA (Xx b) fun b1=>iA [nl,.i 0] fun b2=>ie (ar (iL (ZD []) 0 5 fun v1=>ZL 3 [2] (iA [nl,.i 0] fun b3=>?_)))))
 refine ZH 0 b3 [Xe [] v1,.i b.result] (ie (Yn (ab 0 (Y2 (fun fz gz m F h=>∃(k:Nat) (v:Value),(k<=b.steps.length)/\F=sF [1,2,3] fz [(4,.i k)]/\h=[.obj b3 [Xe (b.steps.take k) v,.i b.result],Ze gz 2,Ze gz 3,.tail v 5]/\m=b.steps.length-k) _ _ _ ⟨0,v1,ob,rfl,rfl,rfl⟩ (wk [0,1,1,0] (Yb fl)) ?_))))
 rintro m F h ⟨k,v,Yg,rfl,rfl,rfl⟩
 refine Yk 3 [2] (iw (VY b.steps) (Y7 ((k:Int)<(b.steps.length:Int)) (fun Za=>?_) (fun Za=>?_)))
 ·refine ak (aq (ab 1 (aE 12 (ZI 7 12 [0,1,2,3,4] [0,2] ?_))))
  obtain ⟨x1,Z3⟩:=Zu b.steps k om
  have hss:=A1 Z3
  exact dx 5 (Zm none (k:Int) 5 (VS Z3)) (Zi 5 6 [6] (Z9 7 (Yz 7 [] [0] [b3] (ih x1 ob ob) (Z9 8 (dL 8 [0] [b3] [YG x1] 1 5 fun v2=>YA 3 3 [] [(24,.sl [YG x1] none)] (Z9 9 (dp 9 4 [] [] (ZD (b.steps.take (k+1))) (ZD (b.steps.take k)) [YG x1] v none 5 (Xv _) (TM rfl) rfl (by simp<;>omega) (by rw [V6 Z3];simp [VL]) fun v3=>Zi 1 2 [10] (Z9 11 (YO 11 2 [] [] b3 [Xe (b.steps.take (k+1)) v3,.i b.result] (de (az (Z2 1 (ZJ k (Z0 (ZK ⟨k+1,v3,ob,rfl,rfl,rfl⟩ (wk [0,2,2,0] (ZM k fl)))))))))))))))))
 exact ax 0 (Zv 1 [0] (ZH 1 b2 [Xe (b.steps.take k) v,.i b.result] (ie (ZC (r3 [] [.agg [Xe (b.steps.take k) v,.i b.result]] [0] [(b2,b2)] ⟨rfl,rfl⟩ (Zd.agg (.cons (Zd.sl _ (Yv ZD (by rw [Vw om]))) (.cons (lr _) .nil))))))))
theorem Z1a (k:Nat):(∀(s:Z6),(s.sz<=k)->(s.sz<=1000000000)->Zk 211 [YG s] [] (Yr (YG s)))/\(∀(b:Z7),(b.sz<=k)->(b.sz<=1000000000)->Zk 156 [Y9 b] [] (Yr (Y9 b))):=by
 induction k with
 | zero=>exact ⟨fun s h=>by have:=s.sz_pos;omega,fun s h=>by have:=s.sz_pos;omega⟩
 | succ k ih=>exact ⟨fun s h hz=>Zi2 s (fun b2 h2 h3=>ih.2 b2 om h3) hz,fun b h hz=>Zi0 b (fun s2 h2 h3=>ih.1 s2 om h3) hz⟩
theorem Zi1 (s:Z6) (hz:s.sz<=1000000000:=by exact ob):Zk 211 [YG s] [] (Yr (YG s)):=(Z1a s.sz).1 s (X5 _) hz
theorem Hq (b:Z7) (hz:b.sz<=1000000000:=by exact ob):Zk 156 [Y9 b] [] (Yr (Y9 b)):=(Z1a b.sz).2 b (X5 _) hz
theorem Gm (n:Zl) (ls:List LI) (qz:Nat) (hn:FO n qz WU:=by exact ob) (hqz:qz<=100000:=by exact ob) (hls:LC n n.routines.length ls:=by exact ob):Zk 135 [Yt n,Kz ls] [] (fun r h=>∃(n2:Zl),r=Yt n2/\h=[]/\FO n2 qz WU/\n2.routines.length=n.routines.length):=by
 have hnl:=hn.fn.len
 have XB:=hn.fn.decls.ok
 have hll:=hls.len
 refine ZG 45 Tryz.func135 (ar (iA (YY n) fun b1=>iA [nl,nl] fun b2=>ie (Zv 2 [1] (Zx [] (F7 n.decls) (iL (X8 []) 0 5 fun v1=>Z2 1 (iA [nl,nl] fun b3=>?_))))))
 refine ZH 0 b3 [ZP n.decls,U4 [] v1] (ie (Yn (ab 0 (Y2 (fun fz gz m F h=>∃(k:Nat) (rs:List Yh) (u:Value),(k<=n.routines.length)/\(rs.length=k)/\(∀r∈rs,RF n.decls n.routines.length qz WU r)/\F=sF [1,2,4,5] fz [(6,.i k)]/\h=[.obj b3 [ZP n.decls,U4 rs u],Ze gz 2,Ze gz 3,.tail u 5]/\m=n.routines.length-k) _ _ _ ⟨0,[],v1,ob,ob,(fun r hr=>by cases hr),rfl,rfl,rfl⟩ (wk [0,1,1,0] (Yb fl)) ?_))))
 rintro m F h ⟨k,rs,u,Yg,Zj,Zw,rfl,rfl,rfl⟩
 refine Yk 3 [2] (iw (Ul n.routines) (Y7 ((k:Int)<(n.routines.length:Int)) (fun Za=>?_) (fun Za=>?_)))
 ·refine ak (aq (ab 1 (Zv 3 [2] ?_)))
  obtain ⟨x1,Z3⟩:=Zu n.routines k om
  have hrf:=hn.rf (Y3 Z3)
  have hrp:=hn.fn.ok.params_at Z3
  have hrz:=hrf.body.2
  refine Zr (Zm none (k:Int) 5 (WV Z3)) (Z2 1 (iA [nl,nl,.i 0,nl,.i 0] fun b4=>ZH 0 b4 (TX x1) (ie (aE 20 (ZI 14 20 [0,1,2,3,5,6] [1,0] ?_)))))
  obtain ⟨x2,Zs⟩:=Zu ls k om
  have hlc:=hls.at Zs Z3
  refine dx 7 (Zm none (k:Int) 1 (Aj Zs)) (ZI 8 13 [8,10,11,12,13] [0,0] (Z9 4 (dc 4 [] [0,0,1] [b4,b4,b3] (T4 x1.params) ?_)))
  rintro _ _ ⟨v2,rfl,rfl⟩
  refine Z9 9 (dc 9 [] [0,0,1] [b4,b4,b3] (T4 x2) ?_)
  rintro _ _ ⟨v3,rfl,rfl⟩
  exact Z9 14 (Yz 14 [] [0,1] [b4,b3] (Hq x1.body) (YA 4 5 [15] [(40,.agg [Z4 x1.params,Z4 x2,.i x1.result,Vu x1.body.steps,.i x1.body.result])] (Z9 16 (dL 16 [1] [b3] (X8 [Yh.mk x1.params x2 x1.result (Z7.mk x1.body.steps x1.body.result)]) 1 5 fun v4=>YA 3 3 [] [(41,KA [Yh.mk x1.params x2 x1.result (Z7.mk x1.body.steps x1.body.result)])] (Z9 17 (dp 17 7 [] [] (X8 (rs++[Yh.mk x1.params x2 x1.result (Z7.mk x1.body.steps x1.body.result)])) (X8 rs) (X8 [Yh.mk x1.params x2 x1.result (Z7.mk x1.body.steps x1.body.result)]) u none 5 (Qp _) (Qp _) (Da _) (by simp<;>omega) (by simp [D9,X8]) fun v5=>Zi 1 2 [18] (Z9 19 (YO 19 5 [] [] b3 [ZP n.decls,U4 (rs++[Yh.mk x1.params x2 x1.result (Z7.mk x1.body.steps x1.body.result)]) v5] (de (az (Z2 1 (ZJ k (Z0 (ZK ⟨k+1,(rs++[Yh.mk x1.params x2 x1.result (Z7.mk x1.body.steps x1.body.result)]),v5,ob,ob,(XU Zw (by rw [Z7.eta];exact hrf.lend hlc.1 hlc.2)),rfl,rfl,rfl⟩ (wk [0,5,5,0] (ZM k fl))))))))))))))))
 exact ax 0 (Zv 1 [0] (ZH 1 b2 [ZP n.decls,U4 rs u] (ie (ZC (r3 [] [.agg [ZP n.decls,U4 rs u]] [0] [(b2,b2)] ⟨(Zl.mk n.decls rs),rfl,rfl,(FO.fin hn.fn om Zw)⟩ (Zd.agg (.cons (lr _) (.cons (Zd.forget _ _) .nil))))))))
theorem Z9m (n:Zl) (qz:Nat) (hn:FO n qz WU:=by exact ob) (hqz:qz<=100000:=by exact ob):Zk 78 [Yt n] [] (fun r h=>∃(n2:Zl),r=Yt n2/\h=[]/\FO n2 qz WU):=by
 refine ZG 33 Tryz.func78 (ar (iA (YY n) fun b1=>iA [nl,nl] fun b2=>?_))
 refine ie (aD 6 (ZI 4 6 [0,1] [1,1] (Jm (fun fz gz F h=>∃(n21:Zl) (b3:Nat) (xs1:List LI),(LC n n.routines.length xs1)/\(FO n21 qz WU/\n21.routines.length=n.routines.length)/\F=sF [2] fz [(3,.p b3 0)]/\h=[.obj b3 (YY n21),Ze gz 0,Ze gz 1]) ?_ ?_)))
 ·refine VJ 2 4 ?_ ?_
  ·refine dc 2 [] [1] [b1] (Pa n qz (hn:=hn.fn)) ?_
   rintro _ _ ⟨xs1,rfl,rfl,ZY⟩
   refine VJ 3 4 ?_ ?_
   ·refine dc 3 [] [] [] (Gm n xs1 qz (hls:=(by first|assumption|(rw [<-hjl];exact W8)))) ?_
    rintro _ _ ⟨n21,rfl,rfl,Yd⟩
    have hwl:=Yd
    exact Z9 4 (dA 4 [] [] [nl,nl] fun b3=>Z9 5 (YO 5 0 [] [] b3 (YY n21) (de (ZU ⟨_,b3,_,(by assumption),(by assumption),rfl,rfl⟩ (ZF 3 fl)))))
   refine dA 4 [1] [b1] [nl,nl] fun b4=>Z9 3 (dc 3 [] [] [] (Gm n xs1 qz (hls:=(by first|assumption|(rw [<-hjl];exact W8)))) ?_)
   rintro _ _ ⟨n22,rfl,rfl,YI⟩
   have hwl:=YI
   exact Z9 5 (YO 5 0 [] [] b4 (YY n22) (de (ZU ⟨_,b4,_,(by assumption),(by assumption),rfl,rfl⟩ (ZF 3 fl))))
  refine dA 4 [1,1] [b1,b1] [nl,nl] fun b5=>Z9 2 (dc 2 [] [2] [b1] (Pa n qz (hn:=hn.fn)) ?_)
  rintro _ _ ⟨xs2,rfl,rfl,YS⟩
  refine Z9 3 (dc 3 [] [] [] (Gm n xs2 qz (hls:=(by first|assumption|(rw [<-hjl];exact W8)))) ?_)
  rintro _ _ ⟨n23,rfl,rfl,Xk⟩
  have hwl:=Xk
  exact Z9 5 (YO 5 0 [] [] b5 (YY n23) (de (ZU ⟨_,b5,_,(by assumption),(by assumption),rfl,rfl⟩ (ZF 3 fl))))
 rintro F h ⟨n21,b3,xs1,ZY,Yd,rfl,rfl⟩
 have hwl:=Yd
 refine Yn (ab 0 (Y2 (fun fz gz m F h=>∃(k:Nat) (nn:Zl),(k<=13)/\(FO nn qz WU)/\F=sF [2,3] fz [(4,.i k)]/\h=[.obj b3 (YY nn),Ze gz 1]/\m=13-k) _ _ _ ⟨0,n21,ob,hwl.1,rfl,rfl,rfl⟩ (wk [0,0] (Yb fl)) ?_))
 rintro m F h ⟨k,nn,Yg,Zj,rfl,rfl,rfl⟩
 refine X9 (Y7 ((k:Int)<=12) (fun Za=>?_) (fun Za=>?_))
 ·refine ak (aq (ab 1 (ar (iL (Wr []) 0 1 fun v1=>?_))))
  refine Z0 (Yn (ab 2 (Y2 (fun fz gz m F h=>∃(j:Nat) (ls:List LI) (u:Value),(j<=nn.routines.length)/\(LC nn j ls)/\(ls.length=j)/\F=sF [2,3,4] fz [(5,BD ls u),(6,.i j)]/\h=[Ze gz 1,Ze gz 2,.tail u 1]/\m=nn.routines.length-j) _ _ _ ⟨0,[],v1,ob,LC.nil,ob,rfl,rfl,rfl⟩ (wk [1,1,0] (fr (Yb fl))) ?_)))
  rintro m F h ⟨j,ls,u,Ug,W8,W4,rfl,rfl,rfl⟩
  refine Yk 3 [0] (iw (Ul nn.routines) (Y7 ((j:Int)<(nn.routines.length:Int)) (fun Zg=>?_) (fun Zg=>?_)))
  ·obtain ⟨rt,hrt⟩:=Zu nn.routines j om
   have hrl:=(Zj.rf (Y3 hrt)).lent
   have hnl4:=Zj.fn.len
   refine ak (aq (ab 3 (az (ZL 3 [0] (ic [] (Z9e nn rt j qz (hn:=Zj.fn) (hr:=hrt)) ?_)))))
   rintro _ _ ⟨xs3,rfl,rfl,XZ⟩
   have hkl:=XZ
   exact iL (Wr [xs3]) 1 1 fun v2=>ZT 0 [(27,Kz [xs3])] (ip 3 (Wr (ls++[xs3])) (Wr ls) (Wr [xs3]) u none 1 (Br _) (Br _) (FY _) (by simp<;>omega) (by simp [II,Wr]) fun v3=>Z0 (az (Z2 1 (ZJ j (Z0 (ZK ⟨j+1,(ls++[xs3]),v3,ob,(W8.snoc om (fun r hr v hv=>by rw [hrt] at hr;cases hr;exact hrl.2 v (hkl.2 v hv))),ob,rfl,rfl,rfl⟩ (wk [2,2,0] (fr (ZM j fl)))))))))
  have hjl:j=nn.routines.length:=by omega
  refine ax 2 (az (Kc 2 [(30,Kz ls)] [0] (ic [] (Gm nn ls qz (hls:=(by first|assumption|(rw [<-hjl];exact W8)))) ?_)))
  rintro _ _ ⟨n24,rfl,rfl,Wy⟩
  have hwl:=Wy
  exact ZH 0 b3 (YY n24) (ie (az (Z2 1 (ZJ k (Z0 (ZK ⟨k+1,n24,ob,hwl.1,rfl,rfl,rfl⟩ (wk [0,0] (ZM k fl))))))))
 exact ax 0 (Zv 1 [0] (ZH 1 b2 (YY nn) (ie (ZC (r3 [] [Yt nn] [0] [(b2,b2)] ⟨nn,rfl,rfl,(by first|exact Zj|exact hwl.1)⟩ (lr _))))))
theorem Gk (xs:LI) (y:Int) (hl:xs.length<=1000000000:=by exact ob):Zk 220 [Z4 xs,.i y] [] (fun r h=>∃(v:Value),r=ZQ (TI xs y) v/\h=[.tail v 1]):=by
 refine ZG 49 Tryz.func220 (Zy (ar (iL (Z8 []) 0 1 fun v1=>?_)))
 refine Z0 (Zy (Yn (ab 0 (Y2 (fun fz gz m F h=>∃(k:Nat) (acc:LI) (d:Bool) (v:Value),(k<=xs.length)/\(acc.length<=k+(if d=true then 1 else 0))/\(acc++QU d (xs.drop k) y=TI xs y)/\F=sF [0,1] fz [(5,ZQ acc v),(6,.b d),(7,.i k)]/\h=[.tail v 1]/\m=xs.length-k) _ _ _ ⟨0,[],false,v1,ob,(by simp),rfl,rfl,rfl,rfl⟩ (wk [0] (fw (Yb fl))) ?_))))
 rintro m F h ⟨k,acc,d,v,Yg,Zj,Zw,rfl,rfl,rfl⟩
 refine YP 2 (iw (Ya xs) (Y7 ((k:Int)<(xs.length:Int)) (fun Za=>?_) (fun Za=>?_)))
 ·obtain ⟨x1,Z3⟩:=Zu xs k om
  have hil:acc.length<=k+1:=VH Zj (by split<;>omega)
  refine ak (aq (ab 1 (X9 (Xw [0,1,5,6,7] [(24,.b ((!d)&&(decide (x1>=y))))] (fun gz=>gz) ?_ ?_))))
  ·refine Z2 3 (ib (b:=(!d)) 17 (fun Zb=>?_) (fun Zb=>?_))
   ·exact Z2 2 (Zr (Zm none (k:Int) 1 (Y1 Z3)) (Z0 (wk [0] (Zt (decide (x1>=y)) Zb fl))))
   exact Z0 (wk [0] (Zt false Zb fl))
  refine Wm (fun fz gz F h=>∃(acc2:LI) (d2:Bool) (w:Value),((acc2=acc/\d2=d/\(d=true∨¬x1>=y))∨(acc2=acc++[y]/\d2=true/\¬d=true/\x1>y)∨(acc2=acc/\d2=true/\¬d=true/\x1=y))/\(acc2.length<=k+(if d2=true then 1 else 0))/\(acc2.length<=k+1)/\F=sF [0,1,7] fz [(5,ZQ acc2 w),(6,.b d2)]/\h=[.tail w 1]) ?_ ?_
  ·refine ac ((!d)&&(decide (x1>=y))) (p:=(¬(d=true))/\(x1>=y)) (YJ (Yl Iff.rfl) dq) (fun Zg=>?_) (fun Zg=>?_)
   ·refine YP 2 (Zr (Zm none (k:Int) 1 (Y1 Z3)) (Z0 (Wm (fun fz gz F h=>∃(w3:Value),F=sF [0,1,7] fz [(5,ZQ (if x1>y then (acc++[y]) else acc) w3)]/\h=[.tail w3 1]) ?_ ?_)))
    ·refine XN (x1>y) (fun ZE=>?_) (fun ZE=>?_)
     ·exact az (Z2 2 (iL (Z8 [y]) 1 1 fun v2=>ZT 0 [(33,Z4 [y])] (ip 1 (Z8 (acc++[y])) (Z8 acc) (Z8 [y]) v none 1 (YK _) (YK _) (Wx _) (by simp<;>omega) (by simp [Ww,Z8]) fun v3=>Z0 (ZU ⟨v3,rfl,rfl⟩ (wk [0] (fc (x:=ZQ (acc++[y]) v3) (Zd.slh _ (Yv Z8 (by first|rfl|(rw [Zc ZE])|(rw [Z5 ZE])|(simp [ZE];done)|(rw [XK];simp [ZE];done)|omega))) fl))))))
     exact ak (ZU ⟨v,rfl,rfl⟩ (wk [0] (fc (x:=ZQ acc v) (Zd.slh _ (Yv Z8 (by first|rfl|(rw [Zc ZE])|(rw [Z5 ZE])|(simp [ZE];done)|(rw [XK];simp [ZE];done)|omega))) fl)))
    rintro F h ⟨w3,rfl,rfl⟩
    exact T0 (ZU ⟨(if x1>y then (acc++[y]) else acc),true,w3,(if h:x1>y then (by rw [Zc h];exact .inr (.inl ⟨rfl,rfl,Zg.1,h⟩)) else (by rw [Z5 h];exact .inr (.inr ⟨rfl,rfl,Zg.1,by have:=Zg.2;omega⟩))),(by have h1:=Zj;rw [Z5 Zg.1] at h1;split<;>(simp<;>omega)),(by have h1:=Zj;rw [Z5 Zg.1] at h1;split<;>(simp<;>omega)),rfl,rfl⟩ (wk [0] fl))
   exact ak (ZU ⟨acc,d,v,(.inl ⟨rfl,rfl,by by_cases q:d=true;exact .inl q;exact .inr (fun z=>Zg ⟨q,z⟩)⟩),Zj,hil,rfl,rfl⟩ (wk [0] fl))
  rintro F h ⟨acc2,d2,w,Kx,GM,Zlf,rfl,rfl⟩
  exact az (Z2 3 (Zr (Zm none (k:Int) 1 (Y1 Z3)) (Z2 1 (iL (Z8 [x1]) 1 1 fun v4=>ZT 0 [(40,Z4 [x1])] (ip 1 (Z8 (acc2++[x1])) (Z8 acc2) (Z8 [x1]) w none 1 (YK _) (YK _) (Wx _) (by simp<;>omega) (by simp [Ww,Z8]) fun v5=>Z0 (az (Z2 1 (ZJ k (Z0 (ZK ⟨k+1,(acc2++[x1]),d2,v5,ob,(by simp only [Ys,YZ,XL];omega),(Zc5 Z3 Zw Kx),rfl,rfl,rfl⟩ (wk [0] (fw (ZM k fl)))))))))))))
 have hil:acc.length<=k+1:=VH Zj (by split<;>omega)
 refine ax 0 (Yn (Wm (fun fz gz F h=>∃(w4:Value),F=sF [] fz [(5,ZQ (if d=true then acc else (acc++[y])) w4)]/\h=[.tail w4 1]) ?_ ?_))
 ·refine ac (!d) (p:=¬(d=true)) (Yl Iff.rfl) (fun Yi=>?_) (fun Yi=>?_)
  ·exact az (Z2 2 (iL (Z8 [y]) 1 1 fun v6=>ZT 0 [(46,Z4 [y])] (ip 1 (Z8 (acc++[y])) (Z8 acc) (Z8 [y]) v none 1 (YK _) (YK _) (Wx _) (by simp<;>omega) (by simp [Ww,Z8]) fun v7=>Z0 (ZU ⟨v7,rfl,rfl⟩ (wk [0] (fc (x:=ZQ (acc++[y]) v7) (Zd.slh _ (Yv Z8 (by first|rfl|(rw [Zc Yi])|(rw [Z5 Yi])|(simp [Yi];done)|(rw [XK];simp [Yi];done)|omega))) fl))))))
  exact ak (ZU ⟨v,rfl,rfl⟩ (wk [0] (fc (x:=ZQ acc v) (Zd.slh _ (Yv Z8 (by first|rfl|(rw [Zc Yi])|(rw [Z5 Yi])|(simp [Yi];done)|(rw [XK];simp [Yi];done)|omega))) fl)))
 rintro F h ⟨w4,rfl,rfl⟩
 exact ar (Zp (r2 [0] [ZQ (if d=true then acc else (acc++[y])) w4] ⟨w4,rfl,rfl⟩ (Zd.slh _ (Yv Z8 (Zc4 om Zw)))))
theorem Pp (xs:LI) (y:Int) (hl:xs.length<=1000000000:=by exact ob):Zk 249 [Z4 xs,.i y] [] (fun r h=>∃(v:Value),r=ZQ (QA xs y) v/\h=[.tail v 1]):=by
 refine ZG 28 Tryz.func249 (Zy (ar (iL (Z8 []) 0 1 fun v1=>?_)))
 refine Z0 (Yn (ab 0 (Y2 (fun fz gz m F h=>∃(k:Nat) (acc:LI) (v:Value),(k<=xs.length)/\(acc.length<=k)/\(acc++QA (xs.drop k) y=QA xs y)/\F=sF [0,1] fz [(5,ZQ acc v),(6,.i k)]/\h=[.tail v 1]/\m=xs.length-k) _ _ _ ⟨0,[],v1,ob,ob,rfl,rfl,rfl,rfl⟩ (wk [0] (fr (Yb fl))) ?_)))
 rintro m F h ⟨k,acc,v,Yg,Zj,Zw,rfl,rfl,rfl⟩
 refine YP 2 (iw (Ya xs) (Y7 ((k:Int)<(xs.length:Int)) (fun Za=>?_) (fun Za=>?_)))
 ·refine ak (aq (ab 1 (Y0 2 ?_)))
  obtain ⟨x1,Z3⟩:=Zu xs k om
  refine Zr (Zm none (k:Int) 1 (Y1 Z3)) (Z0 (KX (fun fz gz F h=>∃(w:Value),F=sF [0,1,6] fz [(5,ZQ (if x1≠y then (acc++[x1]) else acc) w)]/\h=[.tail w 1]) (fun _ _=>rfl) ?_ ?_))
  ·refine ac (x1 != y) Y4 (fun Zg=>?_) (fun Zg=>?_)
   ·exact az (Z2 3 (Zr (Zm none (k:Int) 1 (Y1 Z3)) (Z2 1 (iL (Z8 [x1]) 1 1 fun v2=>ZT 0 [(25,Z4 [x1])] (ip 1 (Z8 (acc++[x1])) (Z8 acc) (Z8 [x1]) v none 1 (YK _) (YK _) (Wx _) (by simp<;>omega) (by simp [Ww,Z8]) fun v3=>Z0 (ZU ⟨v3,rfl,rfl⟩ (wk [0] (fc (x:=ZQ (acc++[x1]) v3) (Zd.slh _ (Yv Z8 (by first|rfl|(rw [Zc Zg])|(rw [Z5 Zg])|(simp [Zg];done)|(rw [XK];simp [Zg];done)|omega))) fl))))))))
   exact ak (ZU ⟨v,rfl,rfl⟩ (wk [0] (fc (x:=ZQ acc v) (Zd.slh _ (Yv Z8 (by first|rfl|(rw [Zc Zg])|(rw [Z5 Zg])|(simp [Zg];done)|(rw [XK];simp [Zg];done)|omega))) fl)))
  rintro F h ⟨w,rfl,rfl⟩
  exact az (Z2 1 (ZJ k (Z0 (ZK ⟨k+1,(if x1≠y then (acc++[x1]) else acc),w,ob,(by split<;>(try simp)<;>omega),(Zey Z3 Zw),rfl,rfl,rfl⟩ (wk [0] (fr (ZM k fl)))))))
 exact ax 0 (ar (Zp (r2 [0] [ZQ acc v] ⟨v,rfl,rfl⟩ (Zd.slh _ (Yv Z8 (Zex om Zw))))))
theorem Zhu (s:Z6) (q:Int) (xs:LI) (ih:∀(b2:Z7) (q:Int) (k2:Nat) (xs2:LI),(b2.sz<s.sz)->(k2<=b2.steps.length)->(xs2.length+b2.sz<=1000000000)->Zk 243 [Y9 b2,.i q,.i k2,Z4 xs2] [] (Yr (Z4 (T5 q (Ts q (b2.steps.drop k2) xs2) b2.result)))) (hz:xs.length+s.sz<=1000000000):Zk 278 [YG s,.i q,Z4 xs] [] (Yr (Z4 (A4 q s xs))):=by
 have hkz:=TL s
 have haz:=K6 s
 have hse:=s.sz_eq
 refine ZG 58 Tryz.func278 (ar (iA (XE s) fun b1=>Z0 (Yk 2 [0] (Zx [] (Zi6 s.op) (ie (ac (YF s.op) Iff.rfl (fun Za=>?_) (fun Za=>?_)))))))
 ·exact ar (Zp (ZW (Z4 xs) (Zd.sl _ (Yv Z8 (by rw [Z2g,Zc (by assumption)])))))
 refine ak (Yn (ab 0 (Y2 (fun fz gz m F h=>∃(j:Nat) (ys:LI),(j<=s.args.length)/\(ys.length<=xs.length+j)/\(Ke q (s.args.drop j) ys=Ke q s.args xs)/\F=sF [1,3] fz [(2,Z4 ys),(7,.i j)]/\h=gz/\m=s.args.length-j) _ _ _ ⟨0,xs,ob,ob,rfl,rfl,rfl,rfl⟩ (wk [0] (fr (Yb fl))) ?_)))
 rintro m F h ⟨j,ys,Yg,Zj,Zw,rfl,rfl,rfl⟩
 refine Yk 3 [0] (iw (Ya s.args) (Y7 ((j:Int)<(s.args.length:Int)) (fun Zg=>?_) (fun Zg=>?_)))
 ·refine ak (aq (ab 1 (Zv 3 [0] ?_)))
  obtain ⟨x1,Z3⟩:=Zu s.args j om
  refine Zr (Zm none (j:Int) 1 (Y1 Z3)) (Xw [1,2,3,7] [(34,.b ((decide (x1>=0))&&(decide (x1<q))))] (fun gz=>gz) ?_ ?_)
  ·refine Z2 3 (ib (b:=(decide (x1>=0))) 26 (fun Zb=>?_) (fun Zb=>?_))
   ·exact ZL 3 [0] (Zr (Zm none (j:Int) 1 (Y1 Z3)) (Z0 (wk [0] (Zt (decide (x1<q)) Zb fl))))
   exact Z0 (wk [0] (Zt false Zb fl))
  refine KX (fun fz gz F h=>F=sF [1,3,7] fz [(2,Z4 (T5 q ys x1))]/\h=gz) (fun _ _=>rfl) ?_ ?_
  ·refine ac ((decide (x1>=0))&&(decide (x1<q))) (p:=(x1>=0)/\(x1<q)) (YJ dq dq) (fun ZE=>?_) (fun ZE=>?_)
   ·refine az (ZL 4 [0] (Zr (Zm none (j:Int) 1 (Y1 Z3)) (Z2 1 (ic [] (Gk ys x1) ?_))))
    rintro _ _ ⟨v1,rfl,rfl⟩
    exact Z0 (ZU ⟨rfl,rfl⟩ (wk [1] (fc (x:=ZQ (TI ys x1) v1) (Zd.sl _ (Yv Z8 (by rw [T5,Zc (by assumption)]))) fl)))
   exact ak (ZU ⟨rfl,rfl⟩ (wk [0] (fc (x:=Z4 ys) (Zd.sl _ (Yv Z8 (by rw [T5,Z5 (by assumption)]))) fl)))
  rintro F h ⟨rfl,rfl⟩
  exact az (Z2 1 (ZJ j (Z0 (ZK ⟨j+1,(T5 q ys x1),ob,(by have:=HB (n:=q) ys x1;omega),(Zk7 Z3 Zw),rfl,rfl,rfl⟩ (wk [0] (fr (ZM j fl)))))))
 have hA:Ke q s.args xs=ys:=(Zk6 om Zw).symm
 refine ax 0 (Yn (ab 2 (Y2 (fun fz gz m F h=>∃(j:Nat) (zs:LI),(j<=s.kids.length)/\(zs.length<=xs.length+s.args.length+Xl (s.kids.take j))/\(JI q (s.kids.drop j) zs=JI q s.kids (Ke q s.args xs))/\F=sF [1,3] fz [(2,Z4 zs),(8,.i j)]/\h=gz/\m=s.kids.length-j) _ _ _ ⟨0,ys,ob,(by rw [List.take_zero,Xl];omega),(by rw [hA];rfl),rfl,rfl,rfl⟩ (wk [0] (fr (Yb fl))) ?_)))
 rintro m F h ⟨j,zs,Ug,W8,W4,rfl,rfl,rfl⟩
 refine Yk 3 [0] (iw (Uj s.kids) (Y7 ((j:Int)<(s.kids.length:Int)) (fun Yi=>?_) (fun Yi=>?_)))
 ·refine ak (aq (ab 3 (az (ZL 3 [0] ?_))))
  obtain ⟨x2,Zs⟩:=Zu s.kids j om
  have hks:=TK Zs
  have hbt:=FG Zs
  have hbx:=Ib Zs
  have hul:=HA (n:=q) x2 zs
  exact Zr (Zm none (j:Int) 2 (Tf Zs)) (Z2 3 (Zx [] (ih x2 q 0 zs ob ob ob) (Z0 (az (Z2 1 (ZJ j (Z0 (ZK ⟨j+1,(Tq q x2 zs),ob,om,(Zk9 Zs W4),rfl,rfl,rfl⟩ (wk [0] (fc (x:=Z4 (T5 q (Ts q (x2.steps.drop 0) zs) x2.result)) (Zd.sl _ (Yv Z8 (by rw [Z2e];rfl))) (ZM j fl)))))))))))
 exact ax 2 (ar (Zp (ZW (Z4 zs) (Zd.sl _ (Yv Z8 (by rw [Z2g,Z5 (by assumption)];exact (Zk8 om W4)))))))
theorem Zhv (b:Z7) (q:Int) (k0:Nat) (xs:LI) (ih:∀(s2:Z6) (q:Int) (xs2:LI),(s2.sz<b.sz)->(xs2.length+s2.sz<=1000000000)->Zk 278 [YG s2,.i q,Z4 xs2] [] (Yr (Z4 (A4 q s2 xs2)))) (hk:k0<=b.steps.length) (hz:xs.length+b.sz<=1000000000):Zk 243 [Y9 b,.i q,.i k0,Z4 xs] [] (Yr (Z4 (T5 q (Ts q (b.steps.drop k0) xs) b.result))):=by
 have hbz:=To b
 have hbe:=b.sz_eq
 have hsd:=Z1l b.steps k0
 refine ZG 40 Tryz.func243 (ar (iA (Xx b) fun b1=>?_))
 refine Z0 (Yn (ab 0 (Y2 (fun fz gz m F h=>∃(k:Nat) (ys:LI),(k<=b.steps.length)/\(ys.length+Yj (b.steps.drop k)<=xs.length+Yj (b.steps.drop k0))/\(Ts q (b.steps.drop k) ys=Ts q (b.steps.drop k0) xs)/\F=sF [1,4] fz [(3,Z4 ys),(9,.i k)]/\h=gz/\m=b.steps.length-k) _ _ _ ⟨k0,xs,ob,(X5 _),rfl,rfl,rfl,rfl⟩ (wk [0] fl) ?_)))
 rintro m F h ⟨k,ys,Yg,Zj,Zw,rfl,rfl,rfl⟩
 refine Yk 3 [0] (iw (VY b.steps) (Y7 ((k:Int)<(b.steps.length:Int)) (fun Za=>?_) (fun Za=>?_)))
 ·refine ak (aq (ab 1 (az (ZL 3 [0] ?_))))
  obtain ⟨x1,Z3⟩:=Zu b.steps k om
  have hss:=A1 Z3
  have hsd1:=Z1k Z3
  have hul:=Z2h (n:=q) x1 ys
  exact Zr (Zm none (k:Int) 5 (VS Z3)) (Z2 3 (Zx [] (ih x1 q ys ob ob) (Z0 (az (Z2 1 (ZJ k (Z0 (ZK ⟨k+1,(A4 q x1 ys),ob,ob,(Zkb Z3 Zw),rfl,rfl,rfl⟩ (wk [0] (fr (ZM k fl)))))))))))
 refine ax 0 (X9 (Xw [3,4] [(34,.b ((decide (b.result>=0))&&(decide (b.result<q))))] (fun gz=>gz) ?_ ?_))
 ·refine ZL 4 [0] (ib (b:=(decide (b.result>=0))) 29 (fun Zb=>?_) (fun Zb=>?_))
  ·exact VW [0] (wk [0] (Zt (decide (b.result<q)) Zb fl))
  exact Z0 (wk [0] (Zt false Zb fl))
 refine Wm (fun fz gz F h=>F=sF [] fz [(3,Z4 (T5 q ys b.result))]/\h=[]) ?_ ?_
 ·refine ac ((decide (b.result>=0))&&(decide (b.result<q))) (p:=(b.result>=0)/\(b.result<q)) (YJ dq dq) (fun Zg=>?_) (fun Zg=>?_)
  ·refine az (ZL 3 [0] (ic [] (Gk ys b.result) ?_))
   rintro _ _ ⟨v1,rfl,rfl⟩
   exact Z0 (ZU ⟨rfl,rfl⟩ (wk [] (fc (x:=ZQ (TI ys b.result) v1) (Zd.sl _ (Yv Z8 (by rw [T5,Zc (by assumption)]))) fl)))
  exact ak (ZU ⟨rfl,rfl⟩ (wk [] (fc (x:=Z4 ys) (Zd.sl _ (Yv Z8 (by rw [T5,Z5 (by assumption)]))) fl)))
 rintro F h ⟨rfl,rfl⟩
 exact ar (Zp (ZW (Z4 (T5 q ys b.result)) (Zd.sl _ (Yv Z8 (by rw [Zka om Zw])))))
theorem Zij (k:Nat):(∀(s:Z6) (q:Int) (xs:LI),(s.sz<=k)->(xs.length+s.sz<=1000000000)->Zk 278 [YG s,.i q,Z4 xs] [] (Yr (Z4 (A4 q s xs))))/\(∀(b:Z7) (q:Int) (k0:Nat) (xs:LI),(b.sz<=k)->(k0<=b.steps.length)->(xs.length+b.sz<=1000000000)->Zk 243 [Y9 b,.i q,.i k0,Z4 xs] [] (Yr (Z4 (T5 q (Ts q (b.steps.drop k0) xs) b.result)))):=by
 induction k with
 | zero=>exact ⟨fun s q xs h=>by have:=s.sz_pos;omega,fun b q k0 xs h=>by have:=b.sz_pos;omega⟩
 | succ k ih=>exact ⟨fun s q xs h hz=>Zhu s q xs (fun b2 q k2 xs2 h2 hk h3=>ih.2 b2 q k2 xs2 om hk h3) hz,fun b q k0 xs h hk hz=>Zhv b q k0 xs (fun s2 q xs2 h2 h3=>ih.1 s2 q xs2 om h3) hk hz⟩
theorem Z14 (b:Z7) (q:Int) (k0:Nat) (xs:LI) (hk:k0<=b.steps.length:=by exact ob) (hz:xs.length+b.sz<=1000000000:=by exact ob):Zk 243 [Y9 b,.i q,.i k0,Z4 xs] [] (Yr (Z4 (T5 q (Ts q (b.steps.drop k0) xs) b.result))):=(Zij b.sz).2 b q k0 xs (X5 _) hk hz
theorem Z1g (b:Z7) (q:Int) (hz:b.sz<=100000000:=by exact ob):Zk 201 [Y9 b,.i q] [] (Yr (Z4 (Tq q b []))):=by
 exact ZG 9 Tryz.func201 (ar (iA (Xx b) fun b1=>Z0 (Zv 2 [0] (iL (Z8 []) 0 1 fun v1=>ZT 0 [(7,Z4 [])] (Zx [] (Z14 b q 0 [] (hk:=(A8 _))) (Zp (ZW (Z4 (T5 q (Ts q (b.steps.drop 0) []) b.result)) (Zd.sl _ (Yv Z8 (by rw [Z2e];rfl))))))))))
theorem Zaa (xs:LI) (ys:LI) (hz:xs.length+ys.length<=100000000:=by exact ob):Zk 244 [Z4 xs,Z4 ys] [] (fun r h=>∃(zs:LI),r=Z4 zs/\h=[]/\zs.length<=xs.length+ys.length):=by
 refine ZG 22 Tryz.func244 (Zy (Y0 1 (ic [] (T4 xs) ?_)))
 rintro _ _ ⟨v1,rfl,rfl⟩
 refine Z0 (Yn (ab 0 (Y2 (fun fz gz m F h=>∃(k:Nat) (zs:LI),(k<=ys.length)/\(zs.length<=xs.length+k)/\F=sF [1] fz [(5,Z4 zs),(6,.i k)]/\h=[]/\m=ys.length-k) _ _ _ ⟨0,xs,ob,ob,rfl,rfl,rfl⟩ (wk [] (fc (x:=ZQ xs v1) (Zd.forget _ _) (Yb fl))) ?_)))
 rintro m F h ⟨k,zs,Yg,Zj,rfl,rfl,rfl⟩
 refine YP 2 (iw (Ya ys) (Y7 ((k:Int)<(ys.length:Int)) (fun Za=>?_) (fun Za=>?_)))
 ·refine ak (aq (ab 1 (az (Z2 3 ?_))))
  obtain ⟨x1,Z3⟩:=Zu ys k om
  refine Zr (Zm none (k:Int) 1 (Y1 Z3)) (Z2 1 (ic [] (Gk zs x1) ?_))
  rintro _ _ ⟨v2,rfl,rfl⟩
  exact Z0 (az (Z2 1 (ZJ k (Z0 (ZK ⟨k+1,(TI zs x1),ob,(by have:=Ev zs x1;omega),rfl,rfl,rfl⟩ (wk [] (fc (x:=ZQ (TI zs x1) v2) (Zd.forget _ _) (ZM k fl))))))))
 exact ax 0 (ar (Zp (r1 [] ⟨zs,rfl,rfl,ob⟩)))
theorem Pc (xs:LI) (ys:LI) (hz:xs.length<=100000000:=by exact ob) (hy:ys.length<=100000000:=by exact ob):Zk 281 [Z4 xs,Z4 ys] [] (fun r h=>∃(zs:LI) (v:Value),r=ZQ zs v/\h=[.tail v 1]/\zs.length<=xs.length/\∀z∈zs,z∈xs):=by
 refine ZG 28 Tryz.func281 (Zy (ar (iL (Z8 []) 0 1 fun v1=>?_)))
 refine Z0 (Yn (ab 0 (Y2 (fun fz gz m F h=>∃(k:Nat) (zs:LI) (u:Value),(k<=xs.length)/\(zs.length<=k)/\(∀z∈zs,z∈xs)/\F=sF [0,1] fz [(5,ZQ zs u),(6,.i k)]/\h=[.tail u 1]/\m=xs.length-k) _ _ _ ⟨0,[],v1,ob,ob,(fun z hz=>by cases hz),rfl,rfl,rfl⟩ (wk [0] (fr (Yb fl))) ?_)))
 rintro m F h ⟨k,zs,u,Yg,Zj,Zw,rfl,rfl,rfl⟩
 refine YP 2 (iw (Ya xs) (Y7 ((k:Int)<(xs.length:Int)) (fun Za=>?_) (fun Za=>?_)))
 ·refine ak (aq (ab 1 (Y0 3 ?_)))
  obtain ⟨x1,Z3⟩:=Zu xs k om
  refine Zr (Zm none (k:Int) 1 (Y1 Z3)) (Z2 1 (Zx [] (Tn ys x1) (ie (XN (x1∈ys) (fun Zg=>?_) (fun Zg=>?_)))))
  ·exact az (Z2 3 (Zr (Zm none (k:Int) 1 (Y1 Z3)) (Z2 1 (iL (Z8 [x1]) 1 1 fun v2=>ZT 0 [(25,Z4 [x1])] (ip 1 (Z8 (zs++[x1])) (Z8 zs) (Z8 [x1]) u none 1 (YK _) (YK _) (Wx _) (by simp<;>omega) (by simp [Ww,Z8]) fun v3=>Z0 (az (Z2 1 (ZJ k (Z0 (ZK ⟨k+1,(zs++[x1]),v3,ob,ob,(by first|exact Zw|exact XU Zw (Y3 Z3)),rfl,rfl,rfl⟩ (wk [0] (fr (ZM k fl)))))))))))))
  exact ak (az (Z2 1 (ZJ k (Z0 (ZK ⟨k+1,zs,u,ob,ob,(by first|exact Zw|exact XU Zw (Y3 Z3)),rfl,rfl,rfl⟩ (wk [0] (fr (ZM k fl))))))))
 exact ax 0 (ar (Zp (r1 [0] ⟨zs,u,rfl,rfl,⟨by omega,Zw⟩⟩)))
theorem Lb (xs:LI) (q:Int) (hz:xs.length<=100000000:=by exact ob):Zk 296 [Z4 xs,.i q] [] (fun r h=>∃(zs:LI) (v:Value),r=ZQ zs v/\h=[.tail v 1]/\zs.length<=xs.length/\∀z∈zs,z∈xs):=by
 refine ZG 28 Tryz.func296 (Zy (ar (iL (Z8 []) 0 1 fun v1=>?_)))
 refine Z0 (Yn (ab 0 (Y2 (fun fz gz m F h=>∃(k:Nat) (zs:LI) (u:Value),(k<=xs.length)/\(zs.length<=k)/\(∀z∈zs,z∈xs)/\F=sF [0,1] fz [(5,ZQ zs u),(6,.i k)]/\h=[.tail u 1]/\m=xs.length-k) _ _ _ ⟨0,[],v1,ob,ob,(fun z hz=>by cases hz),rfl,rfl,rfl⟩ (wk [0] (fr (Yb fl))) ?_)))
 rintro m F h ⟨k,zs,u,Yg,Zj,Zw,rfl,rfl,rfl⟩
 refine YP 2 (iw (Ya xs) (Y7 ((k:Int)<(xs.length:Int)) (fun Za=>?_) (fun Za=>?_)))
 ·refine ak (aq (ab 1 (Y0 2 ?_)))
  obtain ⟨x1,Z3⟩:=Zu xs k om
  refine Zr (Zm none (k:Int) 1 (Y1 Z3)) (Y7 (x1<q) (fun Zg=>?_) (fun Zg=>?_))
  ·exact az (Z2 3 (Zr (Zm none (k:Int) 1 (Y1 Z3)) (Z2 1 (iL (Z8 [x1]) 1 1 fun v2=>ZT 0 [(25,Z4 [x1])] (ip 1 (Z8 (zs++[x1])) (Z8 zs) (Z8 [x1]) u none 1 (YK _) (YK _) (Wx _) (by simp<;>omega) (by simp [Ww,Z8]) fun v3=>Z0 (az (Z2 1 (ZJ k (Z0 (ZK ⟨k+1,(zs++[x1]),v3,ob,ob,(by first|exact Zw|exact XU Zw (Y3 Z3)),rfl,rfl,rfl⟩ (wk [0] (fr (ZM k fl)))))))))))))
  exact ak (az (Z2 1 (ZJ k (Z0 (ZK ⟨k+1,zs,u,ob,ob,(by first|exact Zw|exact XU Zw (Y3 Z3)),rfl,rfl,rfl⟩ (wk [0] (fr (ZM k fl))))))))
 exact ax 0 (ar (Zp (r1 [0] ⟨zs,u,rfl,rfl,⟨by omega,Zw⟩⟩)))
theorem B6 (op:Int) (v:Int) :Zk 90 [.i op,.i v] [] (Yr (YG (Zz op v))):=by
 exact ZG 10 Tryz.func90 (ar (iA [.i 0,.i 0,.i 0,nl,nl] fun b1=>ie (Y0 2 (iL (Z8 [v]) 1 1 fun v1=>iL (YU []) 0 2 fun v2=>Z2 1 (ZH 2 b1 [.i op,.i 0,.i 0,ZQ [v] v1,Qd [] v2] (ie (ZC (r3 [] [.agg [.i op,.i 0,.i 0,ZQ [v] v1,Qd [] v2]] [0] [(b1,b1)] ⟨rfl,rfl⟩ (Zd.agg (.cons li (.cons li (.cons li (.cons (Zd.sl _ (Yv Z8 rfl)) (.cons (Zd.sl _ (Yv YU rfl)) .nil))))))))))))))
theorem JZ (op:Int) (xs:LI) (hl:xs.length<=1000000000:=by exact ob):Zk 196 [.i op,Z4 xs] [] (fun r h=>∃(v:Value),r=Xe (xs.map (Zz op)) v/\h=[.tail v 5]):=by
 refine ZG 24 Tryz.func196 (Zy (ar (iL (ZD []) 0 5 fun v1=>?_)))
 refine Z0 (Yn (ab 0 (Y2 (fun fz gz m F h=>∃(k:Nat) (v:Value),(k<=xs.length)/\F=sF [0,1] fz [(5,Xe ((xs.take k).map (Zz op)) v),(6,.i k)]/\h=[.tail v 5]/\m=xs.length-k) _ _ _ ⟨0,v1,ob,rfl,rfl,rfl⟩ (wk [0] (fc (x:=Xe [] v1) (Zd.slh _ (Yv ZD rfl)) (Yb fl))) ?_)))
 rintro m F h ⟨k,v,Yg,rfl,rfl,rfl⟩
 refine YP 2 (iw (Ya xs) (Y7 ((k:Int)<(xs.length:Int)) (fun Za=>?_) (fun Za=>?_)))
 ·refine ak (aq (ab 1 (az (Z2 4 ?_))))
  obtain ⟨x1,Z3⟩:=Zu xs k om
  exact Zr (Zm none (k:Int) 1 (Y1 Z3)) (Z2 1 (Zx [] (B6 op x1) (iL [YG (Zz op x1)] 1 5 fun v2=>ZT 0 [(21,.sl [YG (Zz op x1)] none)] (ip 1 (ZD ((xs.take (k+1)).map (Zz op))) (ZD ((xs.take k).map (Zz op))) [YG (Zz op x1)] v none 5 (Xv _) (TM rfl) rfl (by simp<;>omega) (by rw [V6 Z3];simp [VL]) fun v3=>Z0 (az (Z2 1 (ZJ k (Z0 (ZK ⟨k+1,v3,ob,rfl,rfl,rfl⟩ (wk [0] (fr (ZM k fl))))))))))))
 exact ax 0 (ar (Zp (r2 [0] [Xe ((xs.take k).map (Zz op)) v] ⟨v,rfl,rfl⟩ (Zd.slh _ (Yv ZD (by rw [Vw om]))))))
theorem Z9r (n:Zl) (s:Z6) (i:Nat) (mm:Nat) (hn:X4 n:=by exact ob) (hf:FS n.decls n.routines.length mm s:=by exact ob) (hi:i<s.args.length:=by exact ob):Zk 295 [Yt n,YG s,.i i] [] (fun r h=>∃(wr:Bool),r=.b wr/\h=[]):=by
 have hal:=hf.alen
 refine ZG 42 Tryz.func295 (ar (iA (YY n) fun b1=>iA (XE s) fun b2=>?_))
 refine Z0 (Yn (ab 0 (Y2 (fun fz gz m F h=>∃(k:Nat),(k<=s.args.length)/\F=sF [2,3,4] fz [(7,.i k)]/\h=gz/\m=s.args.length-k) _ _ _ ⟨0,ob,rfl,rfl,rfl⟩ (wk [0,0] (Yb fl)) ?_)))
 rintro m F h ⟨k,Yg,rfl,rfl,rfl⟩
 refine Yk 3 [0] (iw (Ya s.args) (Y7 ((k:Int)<(s.args.length:Int)) (fun Za=>?_) (fun Za=>?_)))
 ·refine ak (aq (ab 1 (aD 27 (Zi 23 27 [0,1,2,3] (db (b:=((k:Int) != (i:Int))) 18 (fun Zb=>?_) (fun Zb=>?_))))))
  ·refine ZI 20 23 [4,5,6] [0] ?_
   obtain ⟨x1,Z3⟩:=Zu s.args k om
   refine dx 7 (Zm none (k:Int) 1 (Y1 Z3)) (ZI 15 19 [8,9,10,11] [0] ?_)
   obtain ⟨x2,Zs⟩:=Zu s.args i om
   refine dx 12 (Zm none (i:Int) 1 (Y1 Zs)) (Zi 10 14 [13,14,15,16] (db (b:=(x1==x2)) 31 (fun ZA=>?_) (fun ZA=>?_)))
   ·refine Zi 6 10 [17,18,19,20] (db (b:=(decide ((k:Int)>(i:Int)))) 35 (fun Yp=>?_) (fun Yp=>?_))
    ·exact Zi 0 6 [21,22,23,24,25,26] (de (We (ar (Zp (r1 [] ⟨true,rfl,rfl⟩)))))
    refine ZI 3 6 [21,22,23] [1,0] (Z9 24 (Yz 24 [] [] [] (F9 n s k (hnum:=hf.call)) (Zi 0 2 [25,26] (de (ac (WG n s.op s.num k) Iff.rfl (fun Zg=>?_) (fun Zg=>?_))))))
    ·exact ar (Zp (r1 [] ⟨true,rfl,rfl⟩))
    exact ak (az (Z2 1 (ZJ k (Z0 (ZK ⟨k+1,ob,rfl,rfl,rfl⟩ (wk [0,0] (ZM k fl)))))))
   exact Zi 0 10 [17,18,19,20,21,22,23,24,25,26] (de (WC (ak (az (Z2 1 (ZJ k (Z0 (ZK ⟨k+1,ob,rfl,rfl,rfl⟩ (wk [0,0] (ZM k fl))))))))))
  exact Zi 0 23 [4,5,6,7,8,9,10,11,12,13,14,15,16,17,18,19,20,21,22,23,24,25,26] (de (WC (ak (az (Z2 1 (ZJ k (Z0 (ZK ⟨k+1,ob,rfl,rfl,rfl⟩ (wk [0,0] (ZM k fl))))))))))
 exact ax 0 (ar (Zp (r1 [] ⟨false,rfl,rfl⟩)))
theorem Ph (n:Zl) (s:Z6) (i:Nat) (mm:Nat) (os:LI) (ls:LI) (hn:X4 n:=by exact ob) (hf:FS n.decls n.routines.length mm s:=by exact ob) (hi:i<s.args.length:=by exact ob) (ho:os.length<=100000000:=by exact ob) (hl:ls.length<=100000000:=by exact ob):Zk 279 [Yt n,YG s,.i i,Z4 os,Z4 ls] [] (fun r h=>∃(wr:Bool),r=.b wr/\h=[]):=by
 refine ZG 34 Tryz.func279 (ar (iA (YY n) fun b1=>iA (XE s) fun b2=>Z0 (Zv 4 [0] ?_)))
 obtain ⟨x1,Z3⟩:=Zu s.args i om
 refine Zr (Zm none (i:Int) 1 (Y1 Z3)) (Z2 1 (Zx [] (Tn ls x1) (Z2 1 (ib (b:=(decide (x1∈ls))) 18 (fun Zb=>?_) (fun Zb=>?_)))))
 ·exact Zp (r1 [] ⟨true,rfl,rfl⟩)
 refine ZL 4 [0] (Zr (Zm none (i:Int) 1 (Y1 Z3)) (Z2 1 (Zx [] (Tn os x1) (Z2 3 (ib (b:=(!(decide (x1∈os)))) 28 (fun ZA=>?_) (fun ZA=>?_))))))
 ·exact Zp (r1 [] ⟨true,rfl,rfl⟩)
 refine ZL 3 [1,0] (ic [] (Z9r n s i mm) ?_)
 rintro _ _ ⟨wr1,rfl,rfl⟩
 exact Zp (r1 [] ⟨wr1,rfl,rfl⟩)
theorem Z96 (n:Zl) (us:LI) (s:Z6) (os:LI) (ls:LI) (mm:Nat) (hn:X4 n:=by exact ob) (hf:FS n.decls n.routines.length mm s:=by exact ob) (hvl:us.length=mm:=by exact ob) (hm:mm<=100000000:=by exact ob) (ho:os.length<=100000000:=by exact ob) (hl:ls.length<=100000000:=by exact ob):Zk 245 [Yt n,Z4 us,YG s,Z4 os,Z4 ls] [] (fun r h=>∃(zs:LI),r=Z4 zs/\h=[]/\zs.length<=s.args.length/\∀z∈zs,z∈s.args):=by
 have hal:=hf.alen
 refine ZG 43 Tryz.func245 (ar (iA (YY n) fun b1=>iA (XE s) fun b2=>Z0 (ar (iL (Z8 []) 0 1 fun v1=>?_))))
 refine Z0 (Yn (ab 0 (Y2 (fun fz gz m F h=>∃(k:Nat) (zs:LI) (u:Value),(k<=s.args.length)/\(zs.length<=k)/\(∀z∈zs,z∈s.args)/\F=sF [1,3,4,5,7] fz [(11,ZQ zs u),(12,.i k)]/\h=[Ze gz 1,Ze gz 2,.tail u 1]/\m=s.args.length-k) _ _ _ ⟨0,[],v1,ob,ob,(fun z hz=>by cases hz),rfl,rfl,rfl⟩ (wk [1,1,0] (fr (Yb fl))) ?_)))
 rintro m F h ⟨k,zs,u,Yg,Zj,Zw,rfl,rfl,rfl⟩
 refine Yk 3 [0] (iw (Ya s.args) (Y7 ((k:Int)<(s.args.length:Int)) (fun Za=>?_) (fun Za=>?_)))
 ·obtain ⟨a1,ha1⟩:=Zu s.args k om
  have har:=hf.args a1 (Y3 ha1)
  refine ak (aq (ab 1 (Zv 4 [1,0] (Zx [] (Hr n us s k a1 (hnum:=hf.call) (ha:=ha1)) (Z2 1 (ib (b:=TB n us s.op s.num a1 k) 26 (fun Zb=>?_) (fun Zb=>?_)))))))
  ·refine ZL 5 [1,0] (ic [] (Ph n s k mm os ls) ?_)
   rintro _ _ ⟨wr1,rfl,rfl⟩
   refine YD wr1 Iff.rfl (fun Zg=>?_) (fun Zg=>?_)
   ·exact az (ZL 4 [0] (Zr (Zm none (k:Int) 1 (Y1 ha1)) (Z2 1 (iL (Z8 [a1]) 1 1 fun v2=>ZT 0 [(40,Z4 [a1])] (ip 3 (Z8 (zs++[a1])) (Z8 zs) (Z8 [a1]) u none 1 (YK _) (YK _) (Wx _) (by simp<;>omega) (by simp [Ww,Z8]) fun v3=>Z0 (az (Z2 1 (ZJ k (Z0 (ZK ⟨k+1,(zs++[a1]),v3,ob,ob,(by first|exact Zw|exact XU Zw (Y3 ha1)),rfl,rfl,rfl⟩ (wk [2,2,0] (fr (ZM k fl)))))))))))))
   exact ak (az (Z2 1 (ZJ k (Z0 (ZK ⟨k+1,zs,u,ob,ob,(by first|exact Zw|exact XU Zw (Y3 ha1)),rfl,rfl,rfl⟩ (ZF 3 (fr (ZM k fl))))))))
  exact Z0 (WC (ak (az (Z2 1 (ZJ k (Z0 (ZK ⟨k+1,zs,u,ob,ob,(by first|exact Zw|exact XU Zw (Y3 ha1)),rfl,rfl,rfl⟩ (ZF 3 (fr (ZM k fl))))))))))
 exact ax 0 (ar (Zp (r2 [] [ZQ zs u] ⟨zs,rfl,rfl,⟨by omega,Zw⟩⟩ (Zd.forget _ _))))
theorem Z9k (n:Zl) (us:LI) (s:Z6) (os:LI) (ls:LI) (mm:Nat) (hn:X4 n:=by exact ob) (hf:FS n.decls n.routines.length mm s:=by exact ob) (hvl:us.length=mm:=by exact ob) (hm:mm<=100000000:=by exact ob) (ho:os.length<=100000000:=by exact ob) (hl:ls.length<=100000000:=by exact ob):Zk 247 [Yt n,Z4 us,YG s,Z4 os,Z4 ls] [] (fun r h=>∃(zs:LI) (v:Value),r=ZQ zs v/\h=[.tail v 1]/\zs.length<=os.length/\∀z∈zs,z∈os):=by
 have hal:=hf.alen
 refine ZG 55 Tryz.func247 (ar (iA (YY n) fun b1=>iA (XE s) fun b2=>Z0 (Yk 4 [0] (ib (b:=(s.op==7)) 16 (fun Zb=>?_) (fun Zb=>?_)))))
 ·refine Z0 (We (Y0 2 (ic [] (Pc os ls) ?_)))
  rintro _ _ ⟨zs1,v1,rfl,rfl,Yd⟩
  have hco:=Yd
  exact Zp (r1 [0] ⟨zs1,v1,rfl,rfl,(by first|exact hco|exact ⟨by omega,Zw⟩)⟩)
 refine VW [0] (ac (s.op==8) Zq (fun Za=>?_) (fun Za=>?_))
 ·refine Y0 2 (ic [] (Pc os ls) ?_)
  rintro _ _ ⟨zs2,v2,rfl,rfl,YS⟩
  have hco:=YS
  exact Zp (r1 [0] ⟨zs2,v2,rfl,rfl,(by first|exact hco|exact ⟨by omega,Zw⟩)⟩)
 refine ak (Y0 1 (ic [] (T4 os) ?_))
 rintro _ _ ⟨v3,rfl,rfl⟩
 refine Z0 (Yn (ab 0 (Y2 (fun fz gz m F h=>∃(k:Nat) (zs:LI) (u:Value),(k<=s.args.length)/\(zs.length<=os.length)/\(∀z∈zs,z∈os)/\F=sF [1,3,4,5,7] fz [(11,ZQ zs u),(12,.i k)]/\h=[Ze gz 1,Ze gz 2,.tail u 1]/\m=s.args.length-k) _ _ _ ⟨0,os,v3,ob,ob,(fun z hz=>hz),rfl,rfl,rfl⟩ (wk [1,1,0] (fr (Yb fl))) ?_)))
 rintro m F h ⟨k,zs,u,Yg,Zj,Zw,rfl,rfl,rfl⟩
 refine Yk 3 [0] (iw (Ya s.args) (Y7 ((k:Int)<(s.args.length:Int)) (fun Zg=>?_) (fun Zg=>?_)))
 ·obtain ⟨a1,ha1⟩:=Zu s.args k om
  have har:=hf.args a1 (Y3 ha1)
  refine ak (aq (ab 1 (Zv 4 [1,0] (Zx [] (Hr n us s k a1 (hnum:=hf.call) (ha:=ha1)) (Z2 1 (ib (b:=TB n us s.op s.num a1 k) 38 (fun ZA=>?_) (fun ZA=>?_)))))))
  ·refine ZL 5 [1,0] (ic [] (Ph n s k mm os ls) ?_)
   rintro _ _ ⟨wr1,rfl,rfl⟩
   refine YD (!wr1) (p:=¬(wr1=true)) (Yl Iff.rfl) (fun ZE=>?_) (fun ZE=>?_)
   ·refine az (ZL 4 [0] (Zr (Zm none (k:Int) 1 (Y1 ha1)) (ZT 1 [(47,Z4 zs)] (ic [] (Pp zs a1) ?_))))
    rintro _ _ ⟨v4,rfl,rfl⟩
    exact Z0 (az (Z2 1 (ZJ k (Z0 (ZK ⟨k+1,(QA zs a1),v4,ob,(by first|exact Zj|exact VH (EJ _ _) Zj),(by first|exact Zw|exact (fun z hz=>Zw z (Dx hz))),rfl,rfl,rfl⟩ (wk [1,1,0] (fr (ZM k fl))))))))
   exact ak (az (Z2 1 (ZJ k (Z0 (ZK ⟨k+1,zs,u,ob,(by first|exact Zj|exact VH (EJ _ _) Zj),(by first|exact Zw|exact (fun z hz=>Zw z (Dx hz))),rfl,rfl,rfl⟩ (ZF 3 (fr (ZM k fl))))))))
  exact Z0 (WC (ak (az (Z2 1 (ZJ k (Z0 (ZK ⟨k+1,zs,u,ob,(by first|exact Zj|exact VH (EJ _ _) Zj),(by first|exact Zw|exact (fun z hz=>Zw z (Dx hz))),rfl,rfl,rfl⟩ (ZF 3 (fr (ZM k fl))))))))))
 exact ax 0 (ar (Zp (r1 [2] ⟨zs,u,rfl,rfl,(by first|exact hco|exact ⟨by omega,Zw⟩)⟩)))
theorem Z9l (n:Zl) (s:Z6) (os:LI) (ls:LI) (mm:Nat) (hn:X4 n:=by exact ob) (hf:FS n.decls n.routines.length mm s:=by exact ob) (ho:os.length<=100000000:=by exact ob) (hl:ls.length<=100000000:=by exact ob):Zk 248 [Yt n,YG s,Z4 os,Z4 ls] [] (fun r h=>∃(zs:LI),r=Z4 zs/\h=[]/\zs.length<=s.args.length/\∀z∈zs,z∈s.args):=by
 have hal:=hf.alen
 refine ZG 50 Tryz.func248 (ar (iA (YY n) fun b1=>iA (XE s) fun b2=>Z0 (ar (iL (Z8 []) 0 1 fun v1=>?_))))
 refine Z0 (Yn (ab 0 (Y2 (fun fz gz m F h=>∃(k:Nat) (zs:LI) (u:Value),(k<=s.args.length)/\(zs.length<=k)/\(∀z∈zs,z∈s.args)/\F=sF [2,3,4,5] fz [(9,ZQ zs u),(10,.i k)]/\h=[Ze gz 1,Ze gz 2,.tail u 1]/\m=s.args.length-k) _ _ _ ⟨0,[],v1,ob,ob,(fun z hz=>by cases hz),rfl,rfl,rfl⟩ (wk [1,1,0] (fr (Yb fl))) ?_)))
 rintro m F h ⟨k,zs,u,Yg,Zj,Zw,rfl,rfl,rfl⟩
 refine Yk 3 [0] (iw (Ya s.args) (Y7 ((k:Int)<(s.args.length:Int)) (fun Za=>?_) (fun Za=>?_)))
 ·obtain ⟨a1,ha1⟩:=Zu s.args k om
  have har:=hf.args a1 (Y3 ha1)
  refine ak (aq (ab 1 (Zv 3 [1,0] (Zx [] (F9 n s k (hnum:=hf.call)) (XD 13 [2,3,4,5,9,10] [(31,.b (WG n s.op s.num k&&(decide (a1∈os))))] (fun gz=>gz) ?_ (fun hj1=>?_))))))
  ·refine Xw [2,3,4,5,9,10] [(41,.b ((WG n s.op s.num k&&(decide (a1∈os)))&&(!(decide (a1∈ls)))))] (fun gz=>gz) ?_ ?_
   ·refine Z2 1 (ib (b:=(WG n s.op s.num k&&(decide (a1∈os)))) 32 (fun Zb=>?_) (fun Zb=>?_))
    ·exact ZL 4 [0] (Zr (Zm none (k:Int) 1 (Y1 ha1)) (Z2 1 (Zx [] (Tn ls a1) (Z0 (ZF 3 (Zt (!(decide (a1∈ls))) Zb fl))))))
    exact Z0 (ZF 3 (Zt false Zb fl))
   refine ac ((WG n s.op s.num k&&(decide (a1∈os)))&&(!(decide (a1∈ls)))) (p:=((WG n s.op s.num k=true)/\(a1∈os))/\(¬(a1∈ls))) (YJ (YJ Iff.rfl dq) (Yl dq)) (fun Zg=>?_) (fun Zg=>?_)
   ·refine az (ZL 4 [0] (Zr (Zm none (k:Int) 1 (Y1 ha1)) (ZT 1 [(42,Z4 zs)] (ic [] (Gk zs a1) ?_))))
    rintro _ _ ⟨v2,rfl,rfl⟩
    exact Z0 (az (Z2 1 (ZJ k (Z0 (ZK ⟨k+1,(TI zs a1),v2,ob,(by first|omega|(have:=Ev zs a1;omega)),(by first|exact Zw|exact (fun z hz=>(Lq.1 hz).elim (Zw z) (fun e=>e▸Y3 ha1))),rfl,rfl,rfl⟩ (wk [1,1,0] (fr (ZM k fl))))))))
   exact ak (az (Z2 1 (ZJ k (Z0 (ZK ⟨k+1,zs,u,ob,(by first|omega|(have:=Ev zs a1;omega)),(by first|exact Zw|exact (fun z hz=>(Lq.1 hz).elim (Zw z) (fun e=>e▸Y3 ha1))),rfl,rfl,rfl⟩ (ZF 3 (fr (ZM k fl))))))))
  refine Z2 1 (ib (b:=WG n s.op s.num k) 23 (fun ZA=>?_) (fun ZA=>?_))
  ·exact ZL 4 [0] (Zr (Zm none (k:Int) 1 (Y1 ha1)) (Z2 1 (Zx [] (Tn os a1) (Z2 1 (Yq (ZF 3 (Zt (decide (a1∈os)) ZA fl)) hj1)))))
  exact Z2 8 (Yq (ZF 3 (Zt false ZA fl)) hj1)
 exact ax 0 (ar (Zp (r2 [] [ZQ zs u] ⟨zs,rfl,rfl,⟨by omega,Zw⟩⟩ (Zd.forget _ _))))
theorem Hs (rt:Yh) (b:Z7) (hp:rt.params.length<=4294967296:=by exact ob) (hl:rt.lent.length<=4294967296:=by exact ob):Zk 82 [K5 rt,Y9 b] [] (Yr (K5 (Yh.mk rt.params rt.lent rt.result b))):=by
 refine ZG 15 Tryz.func82 (ar (iA (TX rt) fun b1=>iA (Xx b) fun b2=>iA [nl,nl,.i 0,nl,.i 0] fun b3=>ie (aD 11 (ZI 4 11 [0,1,3,4,6,7,8] [2,2,2,1] (Z9 2 (dc 2 [] [1,2,2] [b2,b1,b1] (T4 rt.params) ?_))))))
 rintro _ _ ⟨v1,rfl,rfl⟩
 refine Z9 5 (dc 5 [] [1,2] [b2,b1] (T4 rt.lent) ?_)
 rintro _ _ ⟨v2,rfl,rfl⟩
 exact Zi 1 2 [9] (Z9 10 (YO 10 2 [] [] b3 [ZQ rt.params v1,ZQ rt.lent v2,.i rt.result,Vu b.steps,.i b.result] (de (ZC (r3 [] [.agg [ZQ rt.params v1,ZQ rt.lent v2,.i rt.result,Vu b.steps,.i b.result]] [0] [(b3,b3)] ⟨rfl,rfl⟩ (Zd.agg (.cons (Zd.sl _ (Yv Z8 ob)) (.cons (Zd.sl _ (Yv Z8 ob)) (.cons li (.cons (Zd.sl _ (Yv ZD ob)) (.cons li .nil)))))))))))
theorem Z91 (n:Zl) (us:LI) (fds:LI) (kd:Z7) (os:LI) (ls:LI) (mm:Nat) (bb:Nat) (hn:X4 n:=by exact ob) (hf:fB n.decls n.routines.length (mm+fds.length) kd:=by exact ob) (hop:Uw WU kd:=by exact ob) (hul:us.length=mm:=by exact ob) (hfl:fds.length<=3:=by exact ob) (hm:mm+3+4*kd.sz<=100000:=by exact ob) (hor:∀v∈os,0<=v/\v<(mm:Int)) (hol:os.length+3+4*kd.sz<=730:=by exact ob) (hal:ls.length+2000*kd.sz<=1000000:=by exact ob) (hbz:kd.sz<=500:=by exact ob) (hb:kd.sz<bb:=by exact ob) (ih:∀(us2:LI) (b2:Z7) (os2:LI) (as2:LI) (m2:Nat),(fB n.decls n.routines.length m2 b2)->(Uw WU b2)->(us2.length=m2)->(m2+4*b2.sz<=100000)->(∀v∈os2,0<=v/\v<(m2:Int))->(os2.length+4*b2.sz<=730)->(as2.length+2000*b2.sz<=1000000)->(b2.sz<=500)->(b2.sz<bb)->Zk 202 [Yt n,Z4 us2,Y9 b2,Z4 os2,Z4 as2] [] (fun r h=>∃(y:Z7),r=Y9 y/\h=[]/\KB n.decls n.routines.length m2 y (4500*b2.sz))):Zk 280 [Yt n,Z4 us,Z4 fds,Y9 kd,Z4 os,Z4 ls] [] (fun r h=>∃(y:Z7),r=Y9 y/\h=[]/\KB n.decls n.routines.length (mm+fds.length) y (4500*kd.sz+1470)):=by
 refine ZG 115 Tryz.func280 (ar (iA (YY n) fun b1=>iA (Xx kd) fun b2=>iA [nl,.i 0] fun b3=>ie (Y0 1 (iw (Ya us) (Z0 (Y0 2 (ic [] (KF us fds) ?_)))))))
 rintro _ _ ⟨v1,rfl,rfl⟩
 refine Z0 (Zv 2 [2] (io (.i (((us++fds).length:Nat):Int)) (.i (((Z8 (us++fds)).length:Nat):Int)) (li (by rw [Ya])) (Zx [] (Z1g kd (((us++fds).length:Nat):Int)) ?_)))
 have hub:=HA (n:=(((us++fds).length:Nat):Int)) kd []
 simp only [XL,Vm] at hub
 refine Z0 (ar (iL (Z8 []) 0 1 fun v2=>Z0 (ar (iL (Z8 []) 0 1 fun v3=>?_))))
 refine Z0 (Yn (ab 0 (Y2 (fun fz gz m F h=>∃(k:Nat) (ms:LI) (u:Value) (dr:LI) (w:Value),(k<=os.length)/\(ms.length<=k)/\(dr.length<=k)/\(∀v∈ms,0<=v/\v<(mm:Int))/\(∀v∈dr,0<=v/\v<(mm:Int))/\F=sF [2,4,5,6,9,12,13,15] fz [(14,Z4 (us++fds)),(16,ZQ ms u),(17,ZQ dr w),(18,.i k)]/\h=[Ze gz 3,Ze gz 4,Ze gz 5,.tail u 1,.tail w 1]/\m=os.length-k) _ _ _ ⟨0,[],v2,[],v3,ob,ob,ob,(fun v hv=>by cases hv),(fun v hv=>by cases hv),rfl,rfl,rfl⟩ (wk [3,3,3,1,0] (fc (x:=ZQ (us++fds) v1) (Zd.forget _ _) (fw (Yb fl)))) ?_)))
 rintro m F h ⟨k,ms,u,dr,w,Yg,Zj,Zw,Yy,XW,rfl,rfl,rfl⟩
 refine YP 2 (iw (Ya os) (Y7 ((k:Int)<(os.length:Int)) (fun Za=>?_) (fun Za=>?_)))
 ·obtain ⟨o1,ho1⟩:=Zu os k om
  have hor1:=hor o1 (Y3 ho1)
  refine ak (aq (ab 1 (Y0 3 (Zr (Zm none (k:Int) 1 (Y1 ho1)) (Z2 1 (Zx [] (Tn (Tq (((us++fds).length:Nat):Int) kd []) o1) (Xw [2,4,5,6,9,12,13,14,15,16,17,18] [(53,.b ((decide (o1∈(Tq (((us++fds).length:Nat):Int) kd [])))||(decide (o1∈ls))))] (fun gz=>gz) ?_ ?_)))))))
  ·refine Z2 1 (ib (b:=(decide (o1∈(Tq (((us++fds).length:Nat):Int) kd [])))) 46 (fun Zb=>?_) (fun Zb=>?_))
   ·exact Z0 (ZF 5 (Zt true Zb fl))
   exact Z2 3 (Zr (Zm none (k:Int) 1 (Y1 ho1)) (Z2 1 (Zx [] (Tn ls o1) (Z0 (ZF 5 (Zt (decide (o1∈ls)) Zb fl))))))
  refine ac ((decide (o1∈(Tq (((us++fds).length:Nat):Int) kd [])))||(decide (o1∈ls))) (p:=(o1∈(Tq (((us++fds).length:Nat):Int) kd []))∨(o1∈ls)) (Yf dq dq) (fun Zg=>?_) (fun Zg=>?_)
  ·exact az (Z2 3 (Zr (Zm none (k:Int) 1 (Y1 ho1)) (Z2 1 (iL (Z8 [o1]) 1 1 fun v4=>ZT 0 [(59,Z4 [o1])] (ip 4 (Z8 (ms++[o1])) (Z8 ms) (Z8 [o1]) u none 1 (YK _) (YK _) (Wx _) (by simp<;>omega) (by simp [Ww,Z8]) fun v5=>Z0 (az (Z2 1 (ZJ k (Z0 (ZK ⟨k+1,(ms++[o1]),v5,dr,w,ob,ob,ob,(by first|exact Yy|exact XU Yy hor1),(by first|exact XW|exact XU XW hor1),rfl,rfl,rfl⟩ (wk [2,2,2,0,1] (fw (fr (ZM k fl))))))))))))))
  exact az (Z2 3 (Zr (Zm none (k:Int) 1 (Y1 ho1)) (Z2 1 (iL (Z8 [o1]) 1 1 fun v6=>ZT 0 [(66,Z4 [o1])] (ip 5 (Z8 (dr++[o1])) (Z8 dr) (Z8 [o1]) w none 1 (YK _) (YK _) (Wx _) (by simp<;>omega) (by simp [Ww,Z8]) fun v7=>Z0 (az (Z2 1 (ZJ k (Z0 (ZK ⟨k+1,ms,u,(dr++[o1]),v7,ob,ob,ob,(by first|exact Yy|exact XU Yy hor1),(by first|exact XW|exact XU XW hor1),rfl,rfl,rfl⟩ (wk [2,2,2,2,0] (fw (fr (ZM k fl))))))))))))))
 refine ax 0 (ar (iL (Z8 []) 0 1 fun v8=>?_))
 refine Z0 (Yn (ab 2 (Y2 (fun fz gz m F h=>∃(k:Nat) (ps:LI) (w2:Value),(k<=fds.length)/\(ps.length<=k)/\(∀v∈ps,(mm:Int)<=v/\v<((mm+fds.length:Nat):Int))/\F=sF [2,5,6,9,12,13,14,15,16,17] fz [(19,ZQ ps w2),(20,.i k)]/\h=[Ze gz 1,Ze gz 2,Ze gz 3,Ze gz 4,Ze gz 5,.tail w2 1]/\m=fds.length-k) _ _ _ ⟨0,[],v8,ob,ob,(fun v hv=>by cases hv),rfl,rfl,rfl⟩ (wk [1,1,1,1,1,0] (fr (Yb fl))) ?_)))
 rintro m F h ⟨k,ps,w2,Ug,W8,W4,rfl,rfl,rfl⟩
 refine YP 2 (iw (Ya fds) (Y7 ((k:Int)<(fds.length:Int)) (fun ZE=>?_) (fun ZE=>?_)))
 ·refine ak (aq (ab 3 (Y0 2 ?_)))
  obtain ⟨x1,Z3⟩:=Zu fds k om
  refine Zr (Zm none (k:Int) 1 (Y1 Z3)) (Xw [2,5,6,9,12,13,14,15,16,17,19,20] [(86,.b ((x1 != 0)&&(decide (((us.length+k:Nat):Int)∈(Tq (((us++fds).length:Nat):Int) kd [])))))] (fun gz=>gz) ?_ ?_)
  ·refine Z2 3 (ib (b:=(x1 != 0)) 80 (fun ZA=>?_) (fun ZA=>?_))
   ·exact Z2 3 (ia (((us.length+k:Nat):Int)) (((us.length:Int))+((k:Int))) (Zx [] (Tn (Tq (((us++fds).length:Nat):Int) kd []) ((us.length+k:Nat):Int)) (Z0 (ZF 6 (Zt (decide (((us.length+k:Nat):Int)∈(Tq (((us++fds).length:Nat):Int) kd []))) ZA fl)))))
   exact Z0 (ZF 6 (Zt false ZA fl))
  refine ac ((x1 != 0)&&(decide (((us.length+k:Nat):Int)∈(Tq (((us++fds).length:Nat):Int) kd [])))) (p:=(x1≠0)/\(((us.length+k:Nat):Int)∈(Tq (((us++fds).length:Nat):Int) kd []))) (YJ Y4 dq) (fun Yi=>?_) (fun Yi=>?_)
  ·exact az (Z2 3 (ia (((us.length+k:Nat):Int)) (((us.length:Int))+((k:Int))) (iL (Z8 [((us.length+k:Nat):Int)]) 1 1 fun v9=>ZT 0 [(91,Z4 [((us.length+k:Nat):Int)])] (ip 6 (Z8 (ps++[((us.length+k:Nat):Int)])) (Z8 ps) (Z8 [((us.length+k:Nat):Int)]) w2 none 1 (YK _) (YK _) (Wx _) (by simp<;>omega) (by simp [Ww,Z8]) fun v10=>Z0 (az (Z2 1 (ZJ k (Z0 (ZK ⟨k+1,(ps++[((us.length+k:Nat):Int)]),v10,ob,ob,(by first|exact W4|exact XU W4 om),rfl,rfl,rfl⟩ (wk [2,2,2,2,2,0] (fr (ZM k fl))))))))))))
  exact ak (az (Z2 1 (ZJ k (Z0 (ZK ⟨k+1,ps,w2,ob,ob,(by first|exact W4|exact XU W4 om),rfl,rfl,rfl⟩ (ZF 6 (fr (ZM k fl))))))))
 refine ax 2 (ar (ZT 1 [(93,Z4 ps)] (ic [] (JZ 14 ps) ?_)))
 rintro _ _ ⟨v11,rfl,rfl⟩
 refine ZT 1 [(95,Z4 dr)] (ic [] (JZ 15 dr) ?_)
 rintro _ _ ⟨v12,rfl,rfl⟩
 refine ZT 0 [(96,Vu (dr.map (Zz 15)))] (ip 1 (ZD ((ps.map (Zz 14))++(dr.map (Zz 15)))) (ZD (ps.map (Zz 14))) (ZD (dr.map (Zz 15))) v11 none 5 (Xv _) (Xv _) (UK _) (by simp<;>omega) (by simp [V3,ZD]) fun v13=>?_)
 refine Z0 (aD 12 (ZI 5 12 [0,1,2,3,4,6,7] [4,3] (Jm (fun fz gz F h=>∃(y1:Z7) (b4:Nat) (zs1:LI),(zs1.length<=ls.length/\∀z∈zs1,z∈ls)/\(KB n.decls n.routines.length (mm+fds.length) y1 (4500*kd.sz))/\F=sF [12,21] fz [(22,.p b4 0)]/\h=[.obj b4 (Xx y1),Ze gz 0,Ze gz 1,Ze gz 2,Ze gz 3,Ze gz 4,Ze gz 6,Ze gz 7]) ?_ ?_)))
 ·refine VJ 5 10 ?_ ?_
  ·refine dp 5 5 [1,2] [b2,b1] (Z8 (ms++ps)) (Z8 ms) (Z8 ps) u (some w2) 1 (YK _) (YK _) (Wx _) (by simp<;>omega) (by simp [Ww,Z8]) fun v14=>VJ 8 10 ?_ ?_
   ·refine dc 8 [] [1,2] [b2,b1] (Lb ls (us.length:Int)) ?_
    rintro _ _ ⟨zs1,v15,rfl,rfl,Xk⟩
    have hbl:=Xk
    refine YA 3 3 [] [(103,Z4 (ms++ps)),(106,Z4 zs1)] (VJ 9 10 ?_ ?_)
    ·refine dc 9 [] [] [] (ih (us++fds) kd (ms++ps) zs1 (mm+fds.length) hf hop (by rw [Ys,hul]) ob (fun v hv=>by rcases Xj.1 hv with h|h;exact (by have:=Yy v h;omega);exact (by have:=W4 v h;omega)) (by rw [Ys];omega) ob ob ob) ?_
     rintro _ _ ⟨y1,rfl,rfl,XZ⟩
     have hkb:=XZ
     have hkl:=hkb.len
     exact Z9 10 (dA 10 [] [] [nl,.i 0] fun b4=>Z9 11 (YO 11 0 [] [] b4 (Xx y1) (de (ZU ⟨_,b4,_,(by assumption),(by assumption),rfl,rfl⟩ (wk [0,2,2,2,2,2,2,2] fl)))))
    refine dA 10 [1,2] [b2,b1] [nl,.i 0] fun b5=>Z9 9 (dc 9 [] [] [] (ih (us++fds) kd (ms++ps) zs1 (mm+fds.length) hf hop (by rw [Ys,hul]) ob (fun v hv=>by rcases Xj.1 hv with h|h;exact (by have:=Yy v h;omega);exact (by have:=W4 v h;omega)) (by rw [Ys];omega) ob ob ob) ?_)
    rintro _ _ ⟨y2,rfl,rfl,Wy⟩
    have hkb:=Wy
    have hkl:=hkb.len
    exact Z9 11 (YO 11 0 [] [] b5 (Xx y2) (de (ZU ⟨_,b5,_,(by assumption),(by assumption),rfl,rfl⟩ (wk [0,2,2,2,2,2,2,2] fl))))
   refine dA 10 [1,2] [b2,b1] [nl,.i 0] fun b6=>Z9 8 (dc 8 [] [2,3] [b2,b1] (Lb ls (us.length:Int)) ?_)
   rintro _ _ ⟨zs2,v16,rfl,rfl,WW⟩
   have hbl:=WW
   refine YA 2 2 [] [(103,Z4 (ms++ps)),(106,Z4 zs2)] (Z9 9 (dc 9 [] [] [] (ih (us++fds) kd (ms++ps) zs2 (mm+fds.length) hf hop (by rw [Ys,hul]) ob (fun v hv=>by rcases Xj.1 hv with h|h;exact (by have:=Yy v h;omega);exact (by have:=W4 v h;omega)) (by rw [Ys];omega) ob ob ob) ?_))
   rintro _ _ ⟨y3,rfl,rfl,Vt⟩
   have hkb:=Vt
   have hkl:=hkb.len
   exact Z9 11 (YO 11 1 [] [] b6 (Xx y3) (de (ZU ⟨_,b6,_,(by assumption),(by assumption),rfl,rfl⟩ (wk [0,2,2,2,2,2,2,2] fl))))
  refine dA 10 [1,2] [b2,b1] [nl,.i 0] fun b7=>YA 4 4 [] [(102,Z4 ps)] (Z9 5 (dp 5 6 [2,3] [b2,b1] (Z8 (ms++ps)) (Z8 ms) (Z8 ps) u none 1 (YK _) (YK _) (Wx _) (by simp<;>omega) (by simp [Ww,Z8]) fun v17=>Z9 8 (dc 8 [] [2,3] [b2,b1] (Lb ls (us.length:Int)) ?_)))
  rintro _ _ ⟨zs3,v18,rfl,rfl,T2⟩
  have hbl:=T2
  refine YA 2 2 [] [(103,Z4 (ms++ps)),(106,Z4 zs3)] (Z9 9 (dc 9 [] [] [] (ih (us++fds) kd (ms++ps) zs3 (mm+fds.length) hf hop (by rw [Ys,hul]) ob (fun v hv=>by rcases Xj.1 hv with h|h;exact (by have:=Yy v h;omega);exact (by have:=W4 v h;omega)) (by rw [Ys];omega) ob ob ob) ?_))
  rintro _ _ ⟨y4,rfl,rfl,Tj⟩
  have hkb:=Tj
  have hkl:=hkb.len
  exact Z9 11 (YO 11 2 [] [] b7 (Xx y4) (de (ZU ⟨_,b7,_,(by assumption),(by assumption),rfl,rfl⟩ (wk [0,2,2,2,2,2,2,2] fl))))
 rintro F h ⟨y1,b4,zs1,Xk,XZ,rfl,rfl⟩
 have hbl:=Xk
 have hkb:=XZ
 have hkl:=hkb.len
 exact aD 8 (ZI 3 8 [0,1,2,4,5] [0,0] (Z9 3 (dp 3 1 [0] [b4] (ZD (((ps.map (Zz 14))++(dr.map (Zz 15)))++y1.steps)) (ZD ((ps.map (Zz 14))++(dr.map (Zz 15)))) (ZD y1.steps) v13 none 5 (Xv _) (Xv _) (UK _) (by simp<;>omega) (by simp [V3,ZD]) fun v19=>Zi 1 2 [6] (Z9 7 (YO 7 3 [] [] b3 [Xe (((ps.map (Zz 14))++(dr.map (Zz 15)))++y1.steps) v19,.i y1.result] (de (ZC (r3 [] [.agg [Xe (((ps.map (Zz 14))++(dr.map (Zz 15)))++y1.steps) v19,.i y1.result]] [0] [(b3,b3)] ⟨(Z7.mk (((ps.map (Zz 14))++(dr.map (Zz 15)))++y1.steps) y1.result),rfl,rfl,((hkb.put (fun v hv=>by have:=W4 v hv;omega) (fun v hv=>by have:=XW v hv;omega)).le om)⟩ (Zd.agg (.cons (Zd.forget _ _) (.cons (lr _) .nil)))))))))))
theorem Z92 (n:Zl) (us:LI) (s:Z6) (os:LI) (ls:LI) (mm:Nat) (bb:Nat) (hn:X4 n:=by exact ob) (hf:FS n.decls n.routines.length mm s:=by exact ob) (h11:s.op<=11:=by exact ob) (hop:J5 WU s.kids:=by exact ob) (hul:us.length=mm:=by exact ob) (hm:mm+4*s.sz<=100000:=by exact ob) (hor:∀v∈os,0<=v/\v<(mm:Int)) (hol:os.length+4*s.sz<=730:=by exact ob) (hal:ls.length+2000*s.sz<=1000000:=by exact ob) (hbz:s.sz<=500:=by exact ob) (hb:s.sz<=bb:=by exact ob) (ih:∀(us2:LI) (b2:Z7) (os2:LI) (as2:LI) (m2:Nat),(fB n.decls n.routines.length m2 b2)->(Uw WU b2)->(us2.length=m2)->(m2+4*b2.sz<=100000)->(∀v∈os2,0<=v/\v<(m2:Int))->(os2.length+4*b2.sz<=730)->(as2.length+2000*b2.sz<=1000000)->(b2.sz<=500)->(b2.sz<bb)->Zk 202 [Yt n,Z4 us2,Y9 b2,Z4 os2,Z4 as2] [] (fun r h=>∃(y:Z7),r=Y9 y/\h=[]/\KB n.decls n.routines.length m2 y (4500*b2.sz))):Zk 246 [Yt n,Z4 us,YG s,Z4 os,Z4 ls] [] (fun r h=>∃(y:Z6),r=YG y/\h=[]/\KT n.decls n.routines.length mm y (4500*Xl s.kids+4420)):=by
 have XB:=hn.decls
 have hkf:=hf.few XB
 have hsa:=hf.alen
 refine ZG 62 Tryz.func246 (ar (iA (YY n) fun b1=>iA (XE s) fun b2=>iA [.i 0,.i 0,.i 0,nl,nl] fun b3=>ie (ar (iL (YU []) 0 2 fun v1=>Z0 (Zv 4 [3,2] (ic [] (B5 n.decls s.num) ?_))))))
 rintro _ _ ⟨v2,rfl,rfl⟩
 refine Z0 (Yn (ab 0 (Y2 (fun fz gz m F h=>∃(k:Nat) (ks:List Z7) (u:Value),(k<=s.kids.length)/\(ks.length=k)/\(KK n.decls n.routines.length (QC n.decls s.op s.num mm) ks (4500*Xl (s.kids.take k)+1470*k))/\F=sF [1,3,4,5,7,10] fz [(11,Qd ks u),(12,Z4 (ZV n.decls s.num)),(13,.i k)]/\h=[Ze gz 2,Ze gz 3,Ze gz 4,.tail u 2]/\m=s.kids.length-k) _ _ _ ⟨0,[],v1,ob,ob,(KK.nil.le (A8 _)),rfl,rfl,rfl⟩ (wk [2,2,2,1] (fr (fc (x:=ZQ (ZV n.decls s.num) v2) (Zd.forget _ _) (Yb fl)))) ?_)))
 rintro m F h ⟨k,ks,u,Yg,Zj,Zw,rfl,rfl,rfl⟩
 refine Yk 3 [1] (iw (Uj s.kids) (Y7 ((k:Int)<(s.kids.length:Int)) (fun Za=>?_) (fun Za=>?_)))
 ·refine ak (aq (ab 1 (ar (iL (Z8 []) 0 1 fun v3=>?_))))
  refine Z0 (X9 (VW [2] (Wm (fun fz gz F h=>∃(fds:LI),(QC n.decls s.op s.num mm k=mm+fds.length)/\(fds.length<=3)/\F=sF [1,3,4,5,7,10,11,12,13] fz [(14,Z4 fds)]/\h=[Ze gz 1,Ze gz 2,Ze gz 3,Ze gz 4]) ?_ ?_)))
  ·refine ac (s.op==8) Zq (fun Zg=>?_) (fun Zg=>?_)
   ·refine aE 8 (ZI 4 8 [0,1,2,3] [3] ?_)
    obtain ⟨x1,Z3⟩:=Zu (ZV n.decls s.num) k (by have:=hf.k8 (by assumption);omega)
    have hcf:=UA XB x1
    exact dx 4 (Zm none (k:Int) 1 (Y1 Z3)) (Zi 2 3 [5] (Z9 6 (Yz 6 [] [] [] (JA n.decls x1) (Zi 0 1 [7] (de (ZU ⟨ZX n.decls x1,(Mu (by assumption) Z3),ob,rfl,rfl⟩ (wk [1,1,1,1] fl)))))))
   exact ak (ZU ⟨[],(by rw [Mv (by assumption)];rfl),ob,rfl,rfl⟩ (wk [1,1,1,1] fl))
  rintro F h ⟨fds,Kx,GM,rfl,rfl⟩
  refine aE 15 (ZI 8 15 [0,1,2,3,4,5,6] [2,1] ?_)
  obtain ⟨x2,Zs⟩:=Zu s.kids k om
  have hkz:=TK Zs
  have hfk:=G6 hf.kids Zs
  rw [Vm,Kx] at hfk
  have hok:=EI.1 hop x2 (Y3 Zs)
  have hbt:=Ib Zs
  have hba:=FG Zs
  refine dx 7 (Zm none (k:Int) 2 (Tf Zs)) (Zi 4 7 [8,9,10] (Z9 11 (dc 11 [] [] [] (Z91 n us fds x2 os ls mm bb (hf:=hfk) (hop:=hok) (hor:=hor) (ih:=ih)) ?_)))
  rintro _ _ ⟨y1,rfl,rfl,ZY⟩
  have hkb:=ZY
  exact Z9 12 (WQ 12 [] [] [Y9 y1] (YU [y1]) (Q5 [y1]).symm 1 2 fun v4=>YA 2 2 [] [(51,Wj [y1])] (Z9 13 (dp 13 4 [] [] (YU (ks++[y1])) (YU ks) (YU [y1]) u none 2 (Ko _) (Ko _) (Iv _) (by simp<;>omega) (by simp [Cf,YU]) fun v5=>Zi 0 1 [14] (de (az (Z2 1 (ZJ k (Z0 (ZK ⟨k+1,(ks++[y1]),v5,ob,ob,((Zw.snoc Zj (by rw [Kx];exact hkb)).le om),rfl,rfl,rfl⟩ (wk [2,2,2,0] (fw (ZM k fl))))))))))))
 refine ax 0 (aD 10 (ZI 3 10 [0,1,2,3,4,5,7] [1,1,1] (Z9 6 (dc 6 [] [1,1] [b2,b2] (T4 s.args) ?_))))
 rintro _ _ ⟨v6,rfl,rfl⟩
 exact Zi 1 2 [8] (Z9 9 (YO 9 1 [] [] b3 [.i s.op,.i s.num,.i 0,ZQ s.args v6,Qd ks u] (de (ZC (r3 [] [.agg [.i s.op,.i s.num,.i 0,ZQ s.args v6,Qd ks u]] [0] [(b3,b3)] ⟨(Z6.mk s.op s.num 0 s.args ks),rfl,rfl,((KT.of (into:=0) hf h11 om om Zw).le (by have:=NO (xs:=s.kids) (k:=k) om;omega))⟩ (Zd.agg (.cons (lr _) (.cons (lr _) (.cons (lr _) (.cons (Zd.forget _ _) (.cons (Zd.forget _ _) .nil)))))))))))
theorem Z8z (n:Zl) (us:LI) (b:Z7) (os:LI) (ls:LI) (mm:Nat) (hn:X4 n) (hf:fB n.decls n.routines.length mm b) (hop:Uw WU b) (hul:us.length=mm) (hm:mm+4*b.sz<=100000) (hor:∀v∈os,0<=v/\v<(mm:Int)) (hol:os.length+4*b.sz<=730) (hal:ls.length+2000*b.sz<=1000000) (hbz:b.sz<=500) (ih:∀(us2:LI) (b2:Z7) (os2:LI) (as2:LI) (m2:Nat),(fB n.decls n.routines.length m2 b2)->(Uw WU b2)->(us2.length=m2)->(m2+4*b2.sz<=100000)->(∀v∈os2,0<=v/\v<(m2:Int))->(os2.length+4*b2.sz<=730)->(as2.length+2000*b2.sz<=1000000)->(b2.sz<=500)->(b2.sz<b.sz)->Zk 202 [Yt n,Z4 us2,Y9 b2,Z4 os2,Z4 as2] [] (fun r h=>∃(y:Z7),r=Y9 y/\h=[]/\KB n.decls n.routines.length m2 y (4500*b2.sz))):Zk 202 [Yt n,Z4 us,Y9 b,Z4 os,Z4 ls] [] (fun r h=>∃(y:Z7),r=Y9 y/\h=[]/\KB n.decls n.routines.length mm y (4500*b.sz)):=by
 have XB:=hn.decls
 have hbe:=b.sz_eq
 have ZO:=To b
 obtain ⟨hfs,hr1,hr2⟩:=(G5 b).1 hf
 have hos:=Dw.1 ((LZ b).1 hop)
 have hdn:=Ip hos
 have hdl:=hdn b.steps.length (X5 _)
 rw [Vv] at hdl
 refine ZG 149 Tryz.func202 (ar (iA (YY n) fun b1=>iA (Xx b) fun b2=>iA [nl,.i 0] fun b3=>ie (ar (iL (ZD []) 0 5 fun v1=>Z0 (Y0 1 (ic [] (T4 us) ?_))))))
 rintro _ _ ⟨v2,rfl,rfl⟩
 refine Z0 (Y0 1 (ic [] (T4 os) ?_))
 rintro _ _ ⟨v3,rfl,rfl⟩
 refine Z0 (Yn (ab 0 (Y2 (fun fz gz m F h=>∃(k:Nat) (vs:LI) (w:Value) (ms:LI) (u:Value) (xs:List Z6) (v:Value),(k<=b.steps.length)/\(vs.length=mm+k)/\(CL n.decls n.routines.length mm xs k (4500*Yj (b.steps.take k)))/\(ms.length<=os.length+k)/\(∀v∈ms,0<=v/\v<((mm+k:Nat):Int))/\F=sF [4,5,7,10] fz [(11,Xe xs v),(12,ZQ vs w),(13,ZQ ms u),(14,.i k)]/\h=[Ze gz 3,Ze gz 4,Ze gz 5,.tail u 1,.tail v 5,.tail w 1]/\m=b.steps.length-k) _ _ _ ⟨0,us,v2,os,v3,[],v1,ob,ob,CL.nil,ob,hor,rfl,rfl,rfl⟩ (wk [3,3,3,0,1,0] (fw (fr (Yb fl)))) ?_)))
 rintro m F h ⟨k,vs,w,ms,u,xs,v,Yg,Zj,Zw,Yy,XW,rfl,rfl,rfl⟩
 refine Yk 3 [1] (iw (VY b.steps) (Y7 ((k:Int)<(b.steps.length:Int)) (fun Za=>?_) (fun Za=>?_)))
 ·refine ak (aq (ab 1 (Zv 3 [1] ?_)))
  obtain ⟨x1,Z3⟩:=Zu b.steps k om
  have Xu:=Fb Z3
  have hfS:=(IT x1).1 (G7 hfs Z3)
  rw [hdn k om] at hfS
  have hoS:=(H6 x1).1 (hos x1 (Y3 Z3))
  have htk:=Z1n Z3
  have hse:=(x1).sz_eq
  have hal4:=hfS.alen
  have hxl:=Zw.len
  have htl:=B7 b.steps (k+1)
  have hsd:=Z1l b.steps (k+1)
  have hul2:=MT (n:=((vs.length+1:Nat):Int)) (b.steps.drop (k+1)) []
  have hul3:=HB (n:=((vs.length+1:Nat):Int)) (Ts ((vs.length+1:Nat):Int) (b.steps.drop (k+1)) []) b.result
  simp only [XL,Vm] at hul2
  refine Zr (Zm none (k:Int) 5 (VS Z3)) (Z2 1 (iA [.i 0,.i 0,.i 0,nl,nl] fun b4=>ZH 0 b4 (XE x1) (ie (Y0 1 (iw (Ya vs) (Z0 (ar (Kc 3 [(41,Z4 vs)] [3,0] (Zx [] (MI n vs x1 ob ob) (Z0 (Zv 2 [2] (ia (((vs.length+1:Nat):Int)) (((vs.length:Int))+(1)) (Z2 1 (ZJ k (iL (Z8 []) 0 1 fun v4=>ZT 0 [(49,Z4 [])] (Zx [] (Z14 b ((vs.length+1:Nat):Int) (k+1) [] (hk:=om) (hz:=(by simp only [XL];omega))) (Z2 1 (ic [] (Zaa (T5 ((vs.length+1:Nat):Int) (Ts ((vs.length+1:Nat):Int) (b.steps.drop (k+1)) []) b.result) ls) ?_))))))))))))))))))
  rintro _ _ ⟨zs1,rfl,rfl,ZY⟩
  have hun:=ZY
  refine Z0 (ar (Kc 6 [(55,Z4 vs),(57,Z4 ms)] [4,1] (ic [] (Z96 n vs x1 ms zs1 (mm+k) (hf:=hfS)) ?_)))
  rintro _ _ ⟨zs2,rfl,rfl,Yd⟩
  have hdu:=Yd
  have hq1:=Zw.cnts (op:=14) (.inl rfl) (vs:=zs2) (fun v hv=>hfS.args v (hdu.2 v hv))
  have hl1:=hq1.len
  refine ic [] (JZ 14 zs2) ?_
  rintro _ _ ⟨v5,rfl,rfl⟩
  refine ZT 0 [(60,Vu (zs2.map (Zz 14)))] (ip 7 (ZD (xs++(zs2.map (Zz 14)))) (ZD xs) (ZD (zs2.map (Zz 14))) v none 5 (Xv _) (Xv _) (UK _) (by simp<;>omega) (by simp [V3,ZD]) fun v6=>Z0 (ar (Kc 6 [(64,Z4 vs),(66,Z4 ms)] [6,3] (ic [] (Z92 n vs x1 ms zs1 (mm+k) b.sz (hf:=hfS) (h11:=hoS.1) (hop:=hoS.2) (hor:=XW) (ih:=ih)) ?_))))
  rintro _ _ ⟨y1,rfl,rfl,YI⟩
  have hkt:=YI
  have hq2:=hq1.kt hkt
  have hl2:=hq2.len
  refine TH [YG y1] (ZD [y1]) (VL [y1]).symm 1 5 fun v7=>ZT 0 [(69,Vu [y1])] (ip 1 (ZD ((xs++(zs2.map (Zz 14)))++[y1])) (ZD (xs++(zs2.map (Zz 14)))) (ZD [y1]) v6 none 5 (Xv _) (Xv _) (UK _) (by simp<;>omega) (by simp [V3,ZD]) fun v8=>Z0 (ar (Kc 5 [(72,Z4 vs),(74,Z4 ms)] [7,4] (ic [] (Z9k n vs x1 ms zs1 (mm+k) (hf:=hfS)) ?_))))
  rintro _ _ ⟨zs3,v9,rfl,rfl,YS⟩
  have hla:=YS
  refine Z0 (ar (Kc 4 [(79,Z4 zs3)] [8,5] (ic [] (Z9l n x1 zs3 zs1 (mm+k) (hf:=hfS)) ?_)))
  rintro _ _ ⟨zs4,rfl,rfl,Xk⟩
  have hld:=Xk
  have hq3:=hq2.cnts (op:=15) (.inr rfl) (vs:=zs4) (fun v hv=>by have:=hfS.args v (hld.2 v hv);omega)
  have hl3:=hq3.len
  refine Z0 (Y0 2 (ic [] (JZ 15 zs4) ?_))
  rintro _ _ ⟨v10,rfl,rfl⟩
  refine ZT 0 [(84,Vu (zs4.map (Zz 15)))] (ip 2 (ZD (((xs++(zs2.map (Zz 14)))++[y1])++(zs4.map (Zz 15)))) (ZD ((xs++(zs2.map (Zz 14)))++[y1])) (ZD (zs4.map (Zz 15))) v8 none 5 (Xv _) (Xv _) (UK _) (by simp<;>omega) (by simp [V3,ZD]) fun v11=>?_)
  refine Z0 (Yn (ab 2 (Y2 (fun fz gz m F h=>∃(j:Nat) (m3:LI) (u3:Value) (v3:Value) (w3:Value),(j<=zs4.length)/\(m3.length<=os.length+k)/\(∀v∈m3,0<=v/\v<((mm+k:Nat):Int))/\F=sF [4,5,7,10,14,16,17,18,19] fz [(11,Xe (((xs++(zs2.map (Zz 14)))++[y1])++(zs4.map (Zz 15))) v3),(12,ZQ vs w3),(13,ZQ m3 u3),(20,.i j)]/\h=[Ze gz 7,Ze gz 8,Ze gz 9,.tail u3 1,.tail v3 5,.tail w3 1]/\m=zs4.length-j) _ _ _ ⟨0,zs3,v9,v11,w,ob,ob,(fun v hv=>XW v (hla.2 v hv)),rfl,rfl,rfl⟩ (wk [7,7,7,2,0,6] (fw (fr (Yb fl)))) ?_)))
  rintro m F h ⟨j,m3,u3,v3,w3,Ug,W8,W4,rfl,rfl,rfl⟩
  refine YP 2 (iw (Ya zs4) (Y7 ((j:Int)<(zs4.length:Int)) (fun Zg=>?_) (fun Zg=>?_)))
  ·refine ak (aq (ab 3 (az (Z2 3 ?_))))
   obtain ⟨x2,Zs⟩:=Zu zs4 j om
   refine Zr (Zm none (j:Int) 1 (Y1 Zs)) (ZT 1 [(92,Z4 m3)] (ic [] (Pp m3 x2) ?_))
   rintro _ _ ⟨v12,rfl,rfl⟩
   exact Z0 (az (Z2 1 (ZJ j (Z0 (ZK ⟨j+1,(QA m3 x2),v12,v3,w3,ob,(VH (EJ _ _) W8),(fun v hv=>W4 v (Dx hv)),rfl,rfl,rfl⟩ (wk [1,1,1,0,1,1] (fw (fr (ZM j fl)))))))))
  refine ax 2 (Y0 2 (iL (Z8 [ZZ n vs x1]) 1 1 fun v13=>ZT 0 [(100,Z4 [ZZ n vs x1])] (ip 6 (Z8 (vs++[ZZ n vs x1])) (Z8 vs) (Z8 [ZZ n vs x1]) w3 none 1 (YK _) (YK _) (Wx _) (by simp<;>omega) (by simp [Ww,Z8]) fun v14=>Z0 (ar (Xw [4,5,7,10,11,12,13,14,16,17] [(108,.b (((ZZ n vs x1) != 0)&&(decide ((vs.length:Int)∈zs1))))] (fun gz=>gz) ?_ ?_)))))
  ·refine Z2 3 (ib (b:=((ZZ n vs x1) != 0)) 104 (fun Zb=>?_) (fun Zb=>?_))
   ·exact Z2 2 (Zx [] (Tn zs1 (vs.length:Int)) (Z0 (ZF 7 (Zt (decide ((vs.length:Int)∈zs1)) Zb fl))))
   exact Z0 (ZF 7 (Zt false Zb fl))
  refine ac (((ZZ n vs x1) != 0)&&(decide ((vs.length:Int)∈zs1))) (p:=((ZZ n vs x1)≠0)/\((vs.length:Int)∈zs1)) (YJ Y4 dq) (fun ZE=>?_) (fun ZE=>?_)
  ·exact az (Z2 2 (iL (Z8 [(vs.length:Int)]) 1 1 fun v15=>ZT 0 [(111,Z4 [(vs.length:Int)])] (ip 6 (Z8 (m3++[(vs.length:Int)])) (Z8 m3) (Z8 [(vs.length:Int)]) u3 none 1 (YK _) (YK _) (Wx _) (by simp<;>omega) (by simp [Ww,Z8]) fun v16=>Z0 (az (Z2 1 (ZJ k (Z0 (ZK ⟨k+1,(vs++[ZZ n vs x1]),v14,(m3++[(vs.length:Int)]),v16,(((xs++(zs2.map (Zz 14)))++[y1])++(zs4.map (Zz 15))),v3,ob,ob,(by first|exact hq3.le om|exact (hq3.cnt (op:=15) (.inr rfl) om).le om),ob,(by first|exact XU (fun v hv=>by have:=W4 v hv;omega) om|exact (fun v hv=>by have:=W4 v hv;omega)),rfl,rfl,rfl⟩ (wk [4,4,4,0,3,1] (fw (fr (ZM k fl))))))))))))
  refine ar (YD ((ZZ n vs x1) != 0) Y4 (fun Yi=>?_) (fun Yi=>?_))
  ·exact az (Z2 2 (Zx [] (B6 15 (vs.length:Int)) (TH [YG (Zz 15 (vs.length:Int))] (ZD [(Zz 15 (vs.length:Int))]) (VL [(Zz 15 (vs.length:Int))]).symm 1 5 fun v17=>ZT 0 [(118,Vu [(Zz 15 (vs.length:Int))])] (ip 7 (ZD ((((xs++(zs2.map (Zz 14)))++[y1])++(zs4.map (Zz 15)))++[(Zz 15 (vs.length:Int))])) (ZD (((xs++(zs2.map (Zz 14)))++[y1])++(zs4.map (Zz 15)))) (ZD [(Zz 15 (vs.length:Int))]) v3 none 5 (Xv _) (Xv _) (UK _) (by simp<;>omega) (by simp [V3,ZD]) fun v18=>Z0 (az (Z2 1 (ZJ k (Z0 (ZK ⟨k+1,(vs++[ZZ n vs x1]),v14,m3,u3,((((xs++(zs2.map (Zz 14)))++[y1])++(zs4.map (Zz 15)))++[(Zz 15 (vs.length:Int))]),v18,ob,ob,(by first|exact hq3.le om|exact (hq3.cnt (op:=15) (.inr rfl) om).le om),ob,(by first|exact XU (fun v hv=>by have:=W4 v hv;omega) om|exact (fun v hv=>by have:=W4 v hv;omega)),rfl,rfl,rfl⟩ (wk [4,4,4,4,0,1] (fw (fr (ZM k fl)))))))))))))
  exact ak (az (Z2 1 (ZJ k (Z0 (ZK ⟨k+1,(vs++[ZZ n vs x1]),v14,m3,u3,(((xs++(zs2.map (Zz 14)))++[y1])++(zs4.map (Zz 15))),v3,ob,ob,(by first|exact hq3.le om|exact (hq3.cnt (op:=15) (.inr rfl) om).le om),ob,(by first|exact XU (fun v hv=>by have:=W4 v hv;omega) om|exact (fun v hv=>by have:=W4 v hv;omega)),rfl,rfl,rfl⟩ (wk [2,2,2,2,2,0] (fw (fr (ZM k fl)))))))))
 have hxl:=Zw.len
 have htl:=B7 b.steps k
 refine ax 0 (Yk 3 [1] ?_)
 obtain ⟨x3,YL⟩:=Zu vs b.result.toNat om
 refine Zr (Zm (some w) b.result 1 (Y1 YL)) (Xw [7,10,11] [(138,.b ((x3 != 0)&&((decide (b.result∈ls))||(!(decide (b.result∈ms))))))] (fun gz=>gz) ?_ ?_)
 ·refine Z2 3 (ib (b:=(x3 != 0)) 126 (fun ZA=>?_) (fun ZA=>?_))
  ·refine ZL 3 [1] (Zx [] (Tn ls b.result) (Z2 1 (ib (b:=(decide (b.result∈ls))) 131 (fun Yp=>?_) (fun Yp=>?_))))
   ·exact Z0 (ZF 6 (Zt true (And.intro ZA Yp) fl))
   exact Kc 3 [(132,Z4 ms)] [1] (Zx [] (Tn ms b.result) (Z0 (ZF 6 (Zt (!(decide (b.result∈ms))) (And.intro ZA Yp) fl))))
  exact Z0 (ZF 6 (Zt false ZA fl))
 refine ac ((x3 != 0)&&((decide (b.result∈ls))||(!(decide (b.result∈ms))))) (p:=(x3≠0)/\((b.result∈ls)∨(¬(b.result∈ms)))) (YJ Y4 (Yf dq (Yl dq))) (fun Xg=>?_) (fun Xg=>?_)
 ·exact az (ZL 3 [1] (Zx [] (B6 14 b.result) (TH [YG (Zz 14 b.result)] (ZD [Zz 14 b.result]) (VL [Zz 14 b.result]).symm 1 5 fun v19=>ZT 0 [(143,Vu [Zz 14 b.result])] (ip 5 (ZD (xs++[Zz 14 b.result])) (ZD xs) (ZD [Zz 14 b.result]) v none 5 (Xv _) (Xv _) (UK _) (by simp<;>omega) (by simp [V3,ZD]) fun v20=>Z0 (Zv 4 [3] (ZH 2 b3 [Xe (xs++[Zz 14 b.result]) v20,.i b.result] (ie (ZC (r3 [] [.agg [Xe (xs++[Zz 14 b.result]) v20,.i b.result]] [0] [(b3,b3)] ⟨(Z7.mk (xs++[Zz 14 b.result]) b.result),rfl,rfl,(((Zw.cnt (op:=14) (.inl rfl) om).block om).le (by have:=B7 b.steps k;omega))⟩ (Zd.agg (.cons (Zd.forget _ _) (.cons (lr _) .nil))))))))))))
 exact ak (Zv 4 [1] (ZH 0 b3 [Xe xs v,.i b.result] (ie (ZC (r3 [] [.agg [Xe xs v,.i b.result]] [0] [(b3,b3)] ⟨(Z7.mk xs b.result),rfl,rfl,((Zw.block om).le (by have:=B7 b.steps k;omega))⟩ (Zd.agg (.cons (Zd.forget _ _) (.cons (lr _) .nil))))))))
theorem Z8y (n:Zl) (us:LI) (b:Z7) (os:LI) (ls:LI) (mm:Nat) (hn:X4 n:=by exact ob) (hf:fB n.decls n.routines.length mm b:=by exact ob) (hop:Uw WU b:=by exact ob) (hul:us.length=mm:=by exact ob) (hm:mm+4*b.sz<=100000:=by exact ob) (hor:∀v∈os,0<=v/\v<(mm:Int)) (hol:os.length+4*b.sz<=730:=by exact ob) (hal:ls.length+2000*b.sz<=1000000:=by exact ob) (hbz:b.sz<=500:=by exact ob):Zk 202 [Yt n,Z4 us,Y9 b,Z4 os,Z4 ls] [] (fun r h=>∃(y:Z7),r=Y9 y/\h=[]/\KB n.decls n.routines.length mm y (4500*b.sz)):=by
 have key:∀k:Nat,∀(us2:LI) (b2:Z7) (os2:LI) (as2:LI) (m2:Nat),(fB n.decls n.routines.length m2 b2)->(Uw WU b2)->(us2.length=m2)->(m2+4*b2.sz<=100000)->(∀v∈os2,0<=v/\v<(m2:Int))->(os2.length+4*b2.sz<=730)->(as2.length+2000*b2.sz<=1000000)->(b2.sz<=500)->(b2.sz<k)->Zk 202 [Yt n,Z4 us2,Y9 b2,Z4 os2,Z4 as2] [] (fun r h=>∃(y:Z7),r=Y9 y/\h=[]/\KB n.decls n.routines.length m2 y (4500*b2.sz)):=by
  intro k
  induction k with
  | zero=>intro us2 b2 os2 as2 m2 h1 h2 h3 h4 h5 h6 h7 h8 h9;omega
  | succ k ih=>intro us2 b2 os2 as2 m2 h1 h2 h3 h4 h5 h6 h7 h8 h9;exact Z8z n us2 b2 os2 as2 m2 hn h1 h2 h3 h4 h5 h6 h7 h8 fun us3 b3 os3 as3 m3 q1 q2 q3 q4 q5 q6 q7 q8 q9=>ih us3 b3 os3 as3 m3 q1 q2 q3 q4 q5 q6 q7 q8 om
 exact key (b.sz+1) us b os ls mm hf hop hul hm hor hol hal hbz om
theorem Z90 (n:Zl) (rt:Yh) (qz:Nat) (hn:X4 n:=by exact ob) (hr:RF n.decls n.routines.length qz WU rt:=by exact ob) (hqz:qz<=181:=by exact ob):Zk 146 [Yt n,K5 rt] [] (fun r h=>∃(y:Z7),r=Y9 y/\h=[]/\KB n.decls n.routines.length rt.params.length y (4500*qz+10)):=by
 have hrp:rt.params.length<=3:=(Qk.bd (f:=⟨rt.params,rt.result,default⟩) hr.sig).1
 have hrl:=hr.lent.1
 have hrz:=hr.body.2
 refine ZG 65 Tryz.func146 (ar (iA (YY n) fun b1=>iA (TX rt) fun b2=>iA [nl,.i 0] fun b3=>ie (Zv 4 [1,1] (iw (Ya rt.params) (Zx [] (Z1g rt.body (rt.params.length:Int)) ?_)))))
 have hub:=HA (n:=(rt.params.length:Int)) rt.body []
 simp only [XL,Vm] at hub
 refine Z0 (ar (iL (Z8 []) 0 1 fun v1=>Z0 (ar (iL (Z8 []) 0 1 fun v2=>?_))))
 refine Z0 (Yn (ab 0 (Y2 (fun fz gz m F h=>∃(k:Nat) (os:LI) (u:Value) (dr:LI) (w:Value),(k<=rt.params.length)/\(os.length<=k)/\(dr.length<=k)/\(∀v∈os,0<=v/\v<(rt.params.length:Int))/\(∀v∈dr,0<=v/\v<(rt.params.length:Int))/\F=sF [2,3,4,5] fz [(6,ZQ os u),(7,ZQ dr w),(8,.i k)]/\h=[Ze gz 2,Ze gz 3,Ze gz 4,.tail u 1,.tail w 1]/\m=rt.params.length-k) _ _ _ ⟨0,[],v1,[],v2,ob,ob,ob,(fun v hv=>by cases hv),(fun v hv=>by cases hv),rfl,rfl,rfl⟩ (wk [2,2,2,1,0] (fw (Yb fl))) ?_)))
 rintro m F h ⟨k,os,u,dr,w,Yg,Zj,Zw,Yy,XW,rfl,rfl,rfl⟩
 refine Yk 3 [1] (iw (Ya rt.params) (Y7 ((k:Int)<(rt.params.length:Int)) (fun Za=>?_) (fun Za=>?_)))
 ·refine ak (aq (ab 1 (Zv 3 [1] ?_)))
  obtain ⟨x1,Z3⟩:=Zu rt.params k om
  refine Zr (Zm none (k:Int) 1 (Y1 Z3)) (Xw [2,3,4,5,6,7,8] [(37,.b ((x1 != 0)&&(!(decide ((k:Int)∈rt.lent)))))] (fun gz=>gz) ?_ ?_)
  ·refine Z2 3 (ib (b:=(x1 != 0)) 31 (fun Zb=>?_) (fun Zb=>?_))
   ·exact ZL 3 [1] (Zx [] (Tn rt.lent (k:Int)) (Z0 (ZF 5 (Zt (!(decide ((k:Int)∈rt.lent))) Zb fl))))
   exact Z0 (ZF 5 (Zt false Zb fl))
  refine ac ((x1 != 0)&&(!(decide ((k:Int)∈rt.lent)))) (p:=(x1≠0)/\(¬((k:Int)∈rt.lent))) (YJ Y4 (Yl dq)) (fun Zg=>?_) (fun Zg=>?_)
  ·refine Y0 2 (Zx [] (Tn (Tq (rt.params.length:Int) rt.body []) (k:Int)) (ie (XN ((k:Int)∈(Tq (rt.params.length:Int) rt.body [])) (fun ZE=>?_) (fun ZE=>?_))))
   ·exact az (Z2 2 (iL (Z8 [(k:Int)]) 1 1 fun v3=>ZT 0 [(43,Z4 [(k:Int)])] (ip 4 (Z8 (os++[(k:Int)])) (Z8 os) (Z8 [(k:Int)]) u none 1 (YK _) (YK _) (Wx _) (by simp<;>omega) (by simp [Ww,Z8]) fun v4=>Z0 (az (Z2 1 (ZJ k (Z0 (ZK ⟨k+1,(os++[(k:Int)]),v4,dr,w,ob,ob,ob,(by first|exact Yy|exact XU Yy om),(by first|exact XW|exact XU XW om),rfl,rfl,rfl⟩ (wk [2,2,2,0,1] (fw (ZM k fl)))))))))))
   exact az (Z2 2 (iL (Z8 [(k:Int)]) 1 1 fun v5=>ZT 0 [(47,Z4 [(k:Int)])] (ip 5 (Z8 (dr++[(k:Int)])) (Z8 dr) (Z8 [(k:Int)]) w none 1 (YK _) (YK _) (Wx _) (by simp<;>omega) (by simp [Ww,Z8]) fun v6=>Z0 (az (Z2 1 (ZJ k (Z0 (ZK ⟨k+1,os,u,(dr++[(k:Int)]),v6,ob,ob,ob,(by first|exact Yy|exact XU Yy om),(by first|exact XW|exact XU XW om),rfl,rfl,rfl⟩ (wk [2,2,2,2,0] (fw (ZM k fl)))))))))))
  exact ak (az (Z2 1 (ZJ k (Z0 (ZK ⟨k+1,os,u,dr,w,ob,ob,ob,(by first|exact Yy|exact XU Yy om),(by first|exact XW|exact XU XW om),rfl,rfl,rfl⟩ (ZF 5 (fw (ZM k fl))))))))
 refine ax 0 (Zv 6 [2,1,1] (iL (Z8 []) 0 1 fun v7=>ZT 0 [(54,Z4 os),(55,Z4 [])] (ic [] (Z8y n rt.params rt.body os [] rt.params.length (hf:=hr.body.1) (hop:=hr.op) (hor:=Yy) (hal:=(by simp only [XL];omega))) ?_)))
 rintro _ _ ⟨y1,rfl,rfl,YI⟩
 have hkb:=YI
 have hkl:=hkb.len
 refine iA [nl,.i 0] fun b4=>ZH 0 b4 (Xx y1) (ie (aD 9 (E5 4 9 [0,2,3,5,6] [(57,Z4 dr)] [0,0] (Z9 1 (dc 1 [] [0,0] [b4,b4] (JZ 15 dr) ?_)))))
 rintro _ _ ⟨v8,rfl,rfl⟩
 exact Z9 4 (dp 4 0 [0] [b4] (ZD ((dr.map (Zz 15))++y1.steps)) (ZD (dr.map (Zz 15))) (ZD y1.steps) v8 none 5 (Xv _) (Xv _) (UK _) (by simp<;>omega) (by simp [V3,ZD]) fun v9=>Zi 1 2 [7] (Z9 8 (YO 8 3 [] [] b3 [Xe ((dr.map (Zz 15))++y1.steps) v9,.i y1.result] (de (ZC (r3 [] [.agg [Xe ((dr.map (Zz 15))++y1.steps) v9,.i y1.result]] [0] [(b3,b3)] ⟨(Z7.mk ((dr.map (Zz 15))++y1.steps) y1.result),rfl,rfl,((hkb.put1 (op:=15) (.inr rfl) XW).le om)⟩ (Zd.agg (.cons (Zd.forget _ _) (.cons (lr _) .nil)))))))))
theorem Z93 (n:Zl) (qz:Nat) (hn:FO n qz WU:=by exact ob) (hqz:qz<=181:=by exact ob):Zk 85 [Yt n] [] (fun r h=>∃(n2:Zl),r=Yt n2/\h=[]/\FO n2 (4500*qz+10) JO):=by
 have hnl:=hn.fn.len
 have XB:=hn.fn.decls.ok
 have hok:=hn.fn.ok
 refine ZG 36 Tryz.func85 (ar (iA (YY n) fun b1=>iA [nl,nl] fun b2=>ie (Zv 2 [1] (Zx [] (F7 n.decls) (iL (X8 []) 0 5 fun v1=>Z2 1 (iA [nl,nl] fun b3=>?_))))))
 refine ZH 0 b3 [ZP n.decls,U4 [] v1] (ie (Yn (ab 0 (Y2 (fun fz gz m F h=>∃(k:Nat) (rs:List Yh) (u:Value),(k<=n.routines.length)/\(rs.length=k)/\(∀r∈rs,RF n.decls n.routines.length (4500*qz+10) JO r)/\F=sF [1,2,3] fz [(4,.i k)]/\h=[.obj b3 [ZP n.decls,U4 rs u],Ze gz 2,Ze gz 3,.tail u 5]/\m=n.routines.length-k) _ _ _ ⟨0,[],v1,ob,ob,(fun r hr=>by cases hr),rfl,rfl,rfl⟩ (wk [0,1,1,0] (Yb fl)) ?_))))
 rintro m F h ⟨k,rs,u,Yg,Zj,Zw,rfl,rfl,rfl⟩
 refine Yk 3 [2] (iw (Ul n.routines) (Y7 ((k:Int)<(n.routines.length:Int)) (fun Za=>?_) (fun Za=>?_)))
 ·refine ak (aq (ab 1 (aE 19 (ZI 14 19 [0,1,2,3,4] [0,2] ?_))))
  obtain ⟨x1,Z3⟩:=Zu n.routines k om
  have hrf:=hn.rf (Y3 Z3)
  have hrp:(x1).params.length<=3:=(Qk.bd (f:=⟨(x1).params,(x1).result,default⟩) hrf.sig).1
  have hrl:=hrf.lent.1
  have hrz:=hrf.body.2
  refine dx 5 (Zm none (k:Int) 5 (WV Z3)) (ZI 8 13 [6,7,8,9,10] [2,2] (dx 11 (Zm none (k:Int) 5 (WV Z3)) (Zi 6 7 [12] (Z9 13 (dc 13 [] [2,0] [b1,b3] (Z90 n x1 qz (hr:=hrf)) ?_)))))
  rintro _ _ ⟨y1,rfl,rfl,ZY⟩
  have hkb:=ZY
  exact Z9 14 (Yz 14 [] [0] [b3] (Hs x1 y1 (hp:=om) (hl:=om)) (Z9 15 (dL 15 [0] [b3] (X8 [Yh.mk x1.params x1.lent x1.result y1]) 1 5 fun v2=>YA 3 3 [] [(32,KA [Yh.mk x1.params x1.lent x1.result y1])] (Z9 16 (dp 16 4 [] [] (X8 (rs++[Yh.mk x1.params x1.lent x1.result y1])) (X8 rs) (X8 [Yh.mk x1.params x1.lent x1.result y1]) u none 5 (Qp _) (Qp _) (Da _) (by simp<;>omega) (by simp [D9,X8]) fun v3=>Zi 1 2 [17] (Z9 18 (YO 18 2 [] [] b3 [ZP n.decls,U4 (rs++[Yh.mk x1.params x1.lent x1.result y1]) v3] (de (az (Z2 1 (ZJ k (Z0 (ZK ⟨k+1,(rs++[Yh.mk x1.params x1.lent x1.result y1]),v3,ob,ob,(XU Zw (by first|exact hrf.with hkb.fb hkb.sz hkb.op|(rw [Z7.eta];exact hrf.with hkb.fb hkb.sz hkb.op))),rfl,rfl,rfl⟩ (wk [0,2,2,0] (ZM k fl)))))))))))))))
 exact ax 0 (Zv 1 [0] (ZH 1 b2 [ZP n.decls,U4 rs u] (ie (ZC (r3 [] [.agg [ZP n.decls,U4 rs u]] [0] [(b2,b2)] ⟨(Zl.mk n.decls rs),rfl,rfl,(FO.fin hn.fn om Zw).1⟩ (Zd.agg (.cons (lr _) (.cons (Zd.forget _ _) .nil))))))))
theorem Z8v (n:Zl) (us:LI) (s:Z6) (mm:Nat) (hn:X4 n:=by exact ob) (hf:FS n.decls n.routines.length mm s:=by exact ob) (hvl:us.length=mm:=by exact ob) (hm:mm<=100000000:=by exact ob):Zk 204 [Yt n,Z4 us,YG s] [] (fun r h=>∃(zs:LI),r=Z4 zs/\h=[]/\zs.length<=s.args.length/\∀z∈zs,z∈s.args):=by
 have hal:=hf.alen
 refine ZG 31 Tryz.func204 (ar (iA (YY n) fun b1=>iA (XE s) fun b2=>Z0 (ar (iL (Z8 []) 0 1 fun v1=>?_))))
 refine Z0 (Yn (ab 0 (Y2 (fun fz gz m F h=>∃(k:Nat) (zs:LI) (u:Value),(k<=s.args.length)/\(zs.length<=k)/\(∀z∈zs,z∈s.args)/\F=sF [1,3,5] fz [(7,ZQ zs u),(8,.i k)]/\h=[Ze gz 1,Ze gz 2,.tail u 1]/\m=s.args.length-k) _ _ _ ⟨0,[],v1,ob,ob,(fun z hz=>by cases hz),rfl,rfl,rfl⟩ (wk [1,1,0] (fr (Yb fl))) ?_)))
 rintro m F h ⟨k,zs,u,Yg,Zj,Zw,rfl,rfl,rfl⟩
 refine Yk 3 [0] (iw (Ya s.args) (Y7 ((k:Int)<(s.args.length:Int)) (fun Za=>?_) (fun Za=>?_)))
 ·obtain ⟨a1,ha1⟩:=Zu s.args k om
  have har:=hf.args a1 (Y3 ha1)
  refine ak (aq (ab 1 (Zv 4 [1,0] (Zx [] (Hr n us s k a1 (hnum:=hf.call) (ha:=ha1)) (ie (ac (TB n us s.op s.num a1 k) Iff.rfl (fun Zg=>?_) (fun Zg=>?_)))))))
  ·exact az (ZL 4 [0] (Zr (Zm none (k:Int) 1 (Y1 ha1)) (Z2 1 (iL (Z8 [a1]) 1 1 fun v2=>ZT 0 [(28,Z4 [a1])] (ip 3 (Z8 (zs++[a1])) (Z8 zs) (Z8 [a1]) u none 1 (YK _) (YK _) (Wx _) (by simp<;>omega) (by simp [Ww,Z8]) fun v3=>Z0 (az (Z2 1 (ZJ k (Z0 (ZK ⟨k+1,(zs++[a1]),v3,ob,ob,(by first|exact Zw|exact XU Zw (Y3 ha1)),rfl,rfl,rfl⟩ (wk [2,2,0] (fr (ZM k fl)))))))))))))
  exact ak (az (Z2 1 (ZJ k (Z0 (ZK ⟨k+1,zs,u,ob,ob,(by first|exact Zw|exact XU Zw (Y3 ha1)),rfl,rfl,rfl⟩ (ZF 3 (fr (ZM k fl))))))))
 exact ax 0 (ar (Zp (r2 [] [ZQ zs u] ⟨zs,rfl,rfl,⟨by omega,Zw⟩⟩ (Zd.forget _ _))))
theorem Z9i (n:Zl) (us:LI) (s:Z6) (mm:Nat) (bb:Nat) (hn:X4 n:=by exact ob) (hf:FS n.decls n.routines.length mm s:=by exact ob) (h11:s.op<=11:=by exact ob) (hop:J5 WU s.kids:=by exact ob) (hul:us.length=mm:=by exact ob) (hm:mm+4*s.sz<=100000:=by exact ob) (hbz:s.sz<=500:=by exact ob) (hb:s.sz<=bb:=by exact ob) (ih:∀(us2:LI) (b2:Z7) (mi2:LI) (m2:Nat),(fB n.decls n.routines.length m2 b2)->(Uw WU b2)->(us2.length=m2)->(m2+4*b2.sz<=100000)->(∀v∈mi2,0<=v/\v<(m2:Int))->(mi2.length<=3)->(b2.sz<=500)->(b2.sz<bb)->Zk 147 [Yt n,Z4 us2,Y9 b2,Z4 mi2] [] (fun r h=>∃(y:Z7),r=Y9 y/\h=[]/\KB n.decls n.routines.length m2 y (60*b2.sz))):Zk 205 [Yt n,Z4 us,YG s] [] (fun r h=>∃(y:Z6),r=YG y/\h=[]/\KT n.decls n.routines.length mm y (60*Xl s.kids+23)):=by
 have XB:=hn.decls
 have hkf:=hf.few XB
 have hsa:=hf.alen
 refine ZG 72 Tryz.func205 (ar (iA (YY n) fun b1=>iA (XE s) fun b2=>iA [.i 0,.i 0,.i 0,nl,nl] fun b3=>ie (ar (iL (YU []) 0 2 fun v1=>Z0 (Zv 4 [3,2] (ic [] (B5 n.decls s.num) ?_))))))
 rintro _ _ ⟨v2,rfl,rfl⟩
 refine Z0 (Yn (ab 0 (Y2 (fun fz gz m F h=>∃(k:Nat) (ks:List Z7) (u:Value),(k<=s.kids.length)/\(ks.length=k)/\(KK n.decls n.routines.length (QC n.decls s.op s.num mm) ks (60*Xl (s.kids.take k)+6*k))/\F=sF [1,3,5,6] fz [(7,Qd ks u),(8,Z4 (ZV n.decls s.num)),(9,.i k)]/\h=[Ze gz 2,Ze gz 3,Ze gz 4,.tail u 2]/\m=s.kids.length-k) _ _ _ ⟨0,[],v1,ob,ob,(KK.nil.le (A8 _)),rfl,rfl,rfl⟩ (wk [2,2,2,1] (fr (fc (x:=ZQ (ZV n.decls s.num) v2) (Zd.forget _ _) (Yb fl)))) ?_)))
 rintro m F h ⟨k,ks,u,Yg,Zj,Zw,rfl,rfl,rfl⟩
 refine Yk 3 [1] (iw (Uj s.kids) (Y7 ((k:Int)<(s.kids.length:Int)) (fun Za=>?_) (fun Za=>?_)))
 ·refine ak (aq (ab 1 (ar (iL (Z8 []) 0 1 fun v3=>?_))))
  refine Z0 (X9 (VW [2] (Wm (fun fz gz F h=>∃(fds:LI),(QC n.decls s.op s.num mm k=mm+fds.length)/\(fds.length<=3)/\F=sF [1,3,5,6,7,8,9] fz [(10,Z4 fds)]/\h=[Ze gz 1,Ze gz 2,Ze gz 3,Ze gz 4]) ?_ ?_)))
  ·refine ac (s.op==8) Zq (fun Zg=>?_) (fun Zg=>?_)
   ·refine aE 8 (ZI 4 8 [0,1,2,3] [3] ?_)
    obtain ⟨x1,Z3⟩:=Zu (ZV n.decls s.num) k (by have:=hf.k8 (by assumption);omega)
    have hcf:=UA XB x1
    exact dx 4 (Zm none (k:Int) 1 (Y1 Z3)) (Zi 2 3 [5] (Z9 6 (Yz 6 [] [] [] (JA n.decls x1) (Zi 0 1 [7] (de (ZU ⟨ZX n.decls x1,(Mu (by assumption) Z3),ob,rfl,rfl⟩ (wk [1,1,1,1] fl)))))))
   exact ak (ZU ⟨[],(by rw [Mv (by assumption)];rfl),ob,rfl,rfl⟩ (wk [1,1,1,1] fl))
  rintro F h ⟨fds,Kx,GM,rfl,rfl⟩
  refine Y0 2 (iw (Ya us) (ic [] (Pg fds us.length) ?_))
  rintro _ _ ⟨xs1,rfl,rfl,ZY⟩
  have hhf:=ZY
  refine Z0 (aD 13 (ZI 7 13 [0,1,2,4,5,6] [2,1] ?_))
  obtain ⟨x2,Zs⟩:=Zu s.kids k om
  have hkz:=TK Zs
  have hfk:=G6 hf.kids Zs
  rw [Vm,Kx] at hfk
  have hok:=EI.1 hop x2 (Y3 Zs)
  have hbt:=Ib Zs
  have hba:=FG Zs
  refine dx 7 (Zm none (k:Int) 2 (Tf Zs)) (Zi 4 6 [8,9] (Jm (fun fz gz F h=>∃(y1:Z7) (b4:Nat),(KB n.decls n.routines.length (mm+fds.length) y1 (60*x2.sz))/\F=sF [1,3,5,6,7,8,9,11] fz [(12,.p b4 0)]/\h=[.obj b4 (Xx y1),Ze gz 0,Ze gz 1,Ze gz 2,Ze gz 3]) ?_ ?_))
  ·refine VJ 3 11 ?_ ?_
   ·refine dc 3 [] [1,2] [b2,b1] (KF us fds) ?_
    rintro _ _ ⟨v4,rfl,rfl⟩
    refine YA 3 3 [] [(44,Z4 (us++fds))] (VJ 10 11 ?_ ?_)
    ·refine dc 10 [] [] [] (ih (us++fds) x2 xs1 (mm+fds.length) hfk hok (by rw [Ys,hul]) ob (fun v hv=>by have:=hhf.2 v hv;omega) ob ob ob) ?_
     rintro _ _ ⟨y1,rfl,rfl,Yd⟩
     have hkb:=Yd
     have hkl:=hkb.len
     exact Z9 11 (dA 11 [] [] [nl,.i 0] fun b4=>Z9 12 (YO 12 0 [] [] b4 (Xx y1) (de (ZU ⟨_,b4,(by assumption),rfl,rfl⟩ (wk [0,1,1,1,1] fl)))))
    refine dA 11 [1,2] [b2,b1] [nl,.i 0] fun b5=>Z9 10 (dc 10 [] [] [] (ih (us++fds) x2 xs1 (mm+fds.length) hfk hok (by rw [Ys,hul]) ob (fun v hv=>by have:=hhf.2 v hv;omega) ob ob ob) ?_)
    rintro _ _ ⟨y2,rfl,rfl,YI⟩
    have hkb:=YI
    have hkl:=hkb.len
    exact Z9 12 (YO 12 0 [] [] b5 (Xx y2) (de (ZU ⟨_,b5,(by assumption),rfl,rfl⟩ (wk [0,1,1,1,1] fl))))
   refine dA 11 [1,2] [b2,b1] [nl,.i 0] fun b6=>Z9 3 (dc 3 [] [2,3] [b2,b1] (KF us fds) ?_)
   rintro _ _ ⟨v5,rfl,rfl⟩
   refine YA 2 2 [] [(44,Z4 (us++fds))] (Z9 10 (dc 10 [] [] [] (ih (us++fds) x2 xs1 (mm+fds.length) hfk hok (by rw [Ys,hul]) ob (fun v hv=>by have:=hhf.2 v hv;omega) ob ob ob) ?_))
   rintro _ _ ⟨y3,rfl,rfl,YS⟩
   have hkb:=YS
   have hkl:=hkb.len
   exact Z9 12 (YO 12 1 [] [] b6 (Xx y3) (de (ZU ⟨_,b6,(by assumption),rfl,rfl⟩ (wk [0,1,1,1,1] fl))))
  rintro F h ⟨y1,b4,Yd,rfl,rfl⟩
  have hkb:=Yd
  have hkl:=hkb.len
  refine aE 12 (ZI 6 12 [0,1,3,4,6,7] [0,0] (Z9 2 (dc 2 [] [0,0] [b4,b4] (JZ 14 xs1) ?_)))
  rintro _ _ ⟨v6,rfl,rfl⟩
  exact Z9 5 (dp 5 0 [0] [b4] (ZD ((xs1.map (Zz 14))++y1.steps)) (ZD (xs1.map (Zz 14))) (ZD y1.steps) v6 none 5 (Xv _) (Xv _) (UK _) (by simp<;>omega) (by simp [V3,ZD]) fun v7=>YA 3 4 [8] [(60,.agg [Vu ((xs1.map (Zz 14))++y1.steps),.i y1.result])] (Z9 9 (WQ 9 [] [] [Y9 (Z7.mk ((xs1.map (Zz 14))++y1.steps) y1.result)] (YU [Z7.mk ((xs1.map (Zz 14))++y1.steps) y1.result]) (Q5 [Z7.mk ((xs1.map (Zz 14))++y1.steps) y1.result]).symm 1 2 fun v8=>YA 2 2 [] [(61,Wj [Z7.mk ((xs1.map (Zz 14))++y1.steps) y1.result])] (Z9 10 (dp 10 6 [] [] (YU (ks++[Z7.mk ((xs1.map (Zz 14))++y1.steps) y1.result])) (YU ks) (YU [Z7.mk ((xs1.map (Zz 14))++y1.steps) y1.result]) u none 2 (Ko _) (Ko _) (Iv _) (by simp<;>omega) (by simp [Cf,YU]) fun v9=>Zi 0 1 [11] (de (az (Z2 1 (ZJ k (Z0 (ZK ⟨k+1,(ks++[Z7.mk ((xs1.map (Zz 14))++y1.steps) y1.result]),v9,ob,ob,((Zw.snoc Zj (by rw [Kx];exact hkb.put1 (op:=14) (.inl rfl) (fun v hv=>by have:=hhf.2 v hv;omega))).le om),rfl,rfl,rfl⟩ (wk [4,4,4,0] (fw (ZM k fl))))))))))))))
 refine ax 0 (aD 10 (ZI 3 10 [0,1,2,3,4,5,7] [1,1,1] (Z9 6 (dc 6 [] [1,1] [b2,b2] (T4 s.args) ?_))))
 rintro _ _ ⟨v10,rfl,rfl⟩
 exact Zi 1 2 [8] (Z9 9 (YO 9 1 [] [] b3 [.i s.op,.i s.num,.i 0,ZQ s.args v10,Qd ks u] (de (ZC (r3 [] [.agg [.i s.op,.i s.num,.i 0,ZQ s.args v10,Qd ks u]] [0] [(b3,b3)] ⟨(Z6.mk s.op s.num 0 s.args ks),rfl,rfl,((KT.of (into:=0) hf h11 om om Zw).le (by have:=NO (xs:=s.kids) (k:=k) om;omega))⟩ (Zd.agg (.cons (lr _) (.cons (lr _) (.cons (lr _) (.cons (Zd.forget _ _) (.cons (Zd.forget _ _) .nil)))))))))))
theorem Z9h (n:Zl) (us:LI) (b:Z7) (mi:LI) (mm:Nat) (hn:X4 n) (hf:fB n.decls n.routines.length mm b) (hop:Uw WU b) (hul:us.length=mm) (hm:mm+4*b.sz<=100000) (hmr:∀v∈mi,0<=v/\v<(mm:Int)) (hml:mi.length<=3) (hbz:b.sz<=500) (ih:∀(us2:LI) (b2:Z7) (mi2:LI) (m2:Nat),(fB n.decls n.routines.length m2 b2)->(Uw WU b2)->(us2.length=m2)->(m2+4*b2.sz<=100000)->(∀v∈mi2,0<=v/\v<(m2:Int))->(mi2.length<=3)->(b2.sz<=500)->(b2.sz<b.sz)->Zk 147 [Yt n,Z4 us2,Y9 b2,Z4 mi2] [] (fun r h=>∃(y:Z7),r=Y9 y/\h=[]/\KB n.decls n.routines.length m2 y (60*b2.sz))):Zk 147 [Yt n,Z4 us,Y9 b,Z4 mi] [] (fun r h=>∃(y:Z7),r=Y9 y/\h=[]/\KB n.decls n.routines.length mm y (60*b.sz)):=by
 have XB:=hn.decls
 have hbe:=b.sz_eq
 have ZO:=To b
 obtain ⟨hfs,hr1,hr2⟩:=(G5 b).1 hf
 have hos:=Dw.1 ((LZ b).1 hop)
 have hdn:=Ip hos
 have hdl:=hdn b.steps.length (X5 _)
 rw [Vv] at hdl
 refine ZG 80 Tryz.func147 (ar (iA (YY n) fun b1=>iA (Xx b) fun b2=>iA [nl,.i 0] fun b3=>ie (ar (iL (ZD []) 0 5 fun v1=>Z0 (Y0 1 (ic [] (T4 us) ?_))))))
 rintro _ _ ⟨v2,rfl,rfl⟩
 refine Z0 (Y0 1 (ic [] (T4 mi) ?_))
 rintro _ _ ⟨v3,rfl,rfl⟩
 refine Z0 (Yn (ab 0 (Y2 (fun fz gz m F h=>∃(k:Nat) (vs:LI) (w:Value) (ow:LI) (u:Value) (xs:List Z6) (v:Value) (z0:Nat),(k<=b.steps.length)/\(vs.length=mm+k)/\(CL n.decls n.routines.length mm xs k z0)/\(z0+2*ow.length<=60*Yj (b.steps.take k)+2*mi.length)/\(∀v∈ow,0<=v/\v<((mm+k:Nat):Int))/\F=sF [4,6,8] fz [(9,Xe xs v),(10,ZQ vs w),(11,ZQ ow u),(12,.i k)]/\h=[Ze gz 3,Ze gz 4,Ze gz 5,.tail u 1,.tail v 5,.tail w 1]/\m=b.steps.length-k) _ _ _ ⟨0,us,v2,mi,v3,[],v1,0,ob,ob,CL.nil,(by simp),hmr,rfl,rfl,rfl⟩ (wk [3,3,3,0,1,0] (fw (fr (Yb fl)))) ?_)))
 rintro m F h ⟨k,vs,w,ow,u,xs,v,z0,Yg,Zj,Zw,Yy,XW,rfl,rfl,rfl⟩
 refine Yk 3 [1] (iw (VY b.steps) (Y7 ((k:Int)<(b.steps.length:Int)) (fun Za=>?_) (fun Za=>?_)))
 ·refine ak (aq (ab 1 (Zv 3 [1] ?_)))
  obtain ⟨x1,Z3⟩:=Zu b.steps k om
  have Xu:=Fb Z3
  have hfS:=(IT x1).1 (G7 hfs Z3)
  rw [hdn k om] at hfS
  have hoS:=(H6 x1).1 (hos x1 (Y3 Z3))
  have htk:=Z1n Z3
  have hse:=(x1).sz_eq
  have hal4:=hfS.alen
  have hxl:=Zw.len
  have htl:=B7 b.steps (k+1)
  refine Zr (Zm none (k:Int) 5 (VS Z3)) (Z2 1 (iA [.i 0,.i 0,.i 0,nl,nl] fun b4=>ZH 0 b4 (XE x1) (ie (ar (Kc 3 [(33,Z4 vs)] [3,0] (Zx [] (MI n vs x1 ob ob) (Z0 (ar (Kc 4 [(38,Z4 vs)] [3,0] (ic [] (Z8v n vs x1 (mm+k) (hf:=hfS)) ?_))))))))))
  rintro _ _ ⟨zs1,rfl,rfl,ZY⟩
  have hdu:=ZY
  have hq1:=Zw.cnts (op:=14) (.inl rfl) (vs:=zs1) (fun v hv=>hfS.args v (hdu.2 v hv))
  have hl1:=hq1.len
  refine ic [] (JZ 14 zs1) ?_
  rintro _ _ ⟨v4,rfl,rfl⟩
  refine ZT 0 [(41,Vu (zs1.map (Zz 14)))] (ip 6 (ZD (xs++(zs1.map (Zz 14)))) (ZD xs) (ZD (zs1.map (Zz 14))) v none 5 (Xv _) (Xv _) (UK _) (by simp<;>omega) (by simp [V3,ZD]) fun v5=>Z0 (ar (Kc 4 [(45,Z4 vs)] [5,2] (ic [] (Z9i n vs x1 (mm+k) b.sz (hf:=hfS) (h11:=hoS.1) (hop:=hoS.2) (ih:=ih)) ?_))))
  rintro _ _ ⟨y1,rfl,rfl,Yd⟩
  have hkt:=Yd
  have hq2:=hq1.kt hkt
  have hl2:=hq2.len
  refine TH [YG y1] (ZD [y1]) (VL [y1]).symm 1 5 fun v6=>ZT 0 [(48,Vu [y1])] (ip 1 (ZD ((xs++(zs1.map (Zz 14)))++[y1])) (ZD (xs++(zs1.map (Zz 14)))) (ZD [y1]) v5 none 5 (Xv _) (Xv _) (UK _) (by simp<;>omega) (by simp [V3,ZD]) fun v7=>Z0 (X9 (YD ((ZZ n vs x1) != 0) Y4 (fun Zg=>?_) (fun Zg=>?_))))
  ·exact az (Z2 2 (iw (Ya vs) (iL (Z8 [(vs.length:Int)]) 1 1 fun v8=>ZT 0 [(55,Z4 [(vs.length:Int)])] (ip 8 (Z8 (ow++[(vs.length:Int)])) (Z8 ow) (Z8 [(vs.length:Int)]) u none 1 (YK _) (YK _) (Wx _) (by simp<;>omega) (by simp [Ww,Z8]) fun v9=>Z0 (az (Z2 2 (iL (Z8 [ZZ n vs x1]) 1 1 fun v10=>ZT 0 [(59,Z4 [ZZ n vs x1])] (ip 10 (Z8 (vs++[ZZ n vs x1])) (Z8 vs) (Z8 [ZZ n vs x1]) w none 1 (YK _) (YK _) (Wx _) (by simp<;>omega) (by simp [Ww,Z8]) fun v11=>Z0 (az (Z2 1 (ZJ k (Z0 (ZK ⟨k+1,(vs++[ZZ n vs x1]),v11,(ow++[(vs.length:Int)]),v9,((xs++(zs1.map (Zz 14)))++[y1]),v7,_,ob,ob,hq2,(by (try simp only [Ys,YZ,XL]);omega),(by first|exact XU (fun v hv=>by have:=XW v hv;omega) om|exact (fun v hv=>by have:=XW v hv;omega)),rfl,rfl,rfl⟩ (wk [8,8,8,2,3,0] (fw (fr (ZM k fl)))))))))))))))))
  exact ak (az (Z2 2 (iL (Z8 [ZZ n vs x1]) 1 1 fun v12=>ZT 0 [(59,Z4 [ZZ n vs x1])] (ip 9 (Z8 (vs++[ZZ n vs x1])) (Z8 vs) (Z8 [ZZ n vs x1]) w none 1 (YK _) (YK _) (Wx _) (by simp<;>omega) (by simp [Ww,Z8]) fun v13=>Z0 (az (Z2 1 (ZJ k (Z0 (ZK ⟨k+1,(vs++[ZZ n vs x1]),v13,ow,u,((xs++(zs1.map (Zz 14)))++[y1]),v7,_,ob,ob,hq2,(by (try simp only [Ys,YZ,XL]);omega),(by first|exact XU (fun v hv=>by have:=XW v hv;omega) om|exact (fun v hv=>by have:=XW v hv;omega)),rfl,rfl,rfl⟩ (wk [6,6,6,6,2,0] (fw (fr (ZM k fl)))))))))))))
 have hxl:=Zw.len
 have htl:=B7 b.steps k
 refine ax 0 (Yk 3 [1] ?_)
 obtain ⟨x2,Zs⟩:=Zu vs b.result.toNat om
 refine Zr (Zm (some w) b.result 1 (Y1 Zs)) (YD (x2 != 0) Y4 (fun ZE=>?_) (fun ZE=>?_))
 ·refine az (ZL 3 [1] (Zx [] (B6 14 b.result) (TH [YG (Zz 14 b.result)] (ZD [Zz 14 b.result]) (VL [Zz 14 b.result]).symm 1 5 fun v14=>ZT 0 [(71,Vu [Zz 14 b.result])] (ip 5 (ZD (xs++[Zz 14 b.result])) (ZD xs) (ZD [Zz 14 b.result]) v none 5 (Xv _) (Xv _) (UK _) (by simp<;>omega) (by simp [V3,ZD]) fun v15=>Z0 (aD 8 (E5 4 8 [0,1,4,5] [(74,Z4 ow)] [3] (Z9 2 (dc 2 [] [1] [b2] (JZ 15 ow) ?_))))))))
  rintro _ _ ⟨v16,rfl,rfl⟩
  exact YA 3 3 [] [(75,Vu (ow.map (Zz 15)))] (Z9 3 (dp 3 1 [1] [b2] (ZD ((xs++[Zz 14 b.result])++(ow.map (Zz 15)))) (ZD (xs++[Zz 14 b.result])) (ZD (ow.map (Zz 15))) v15 none 5 (Xv _) (Xv _) (UK _) (by simp<;>omega) (by simp [V3,ZD]) fun v17=>Zi 1 2 [6] (Z9 7 (YO 7 3 [] [] b3 [Xe ((xs++[Zz 14 b.result])++(ow.map (Zz 15))) v17,.i b.result] (de (ZC (r3 [] [.agg [Xe ((xs++[Zz 14 b.result])++(ow.map (Zz 15))) v17,.i b.result]] [0] [(b3,b3)] ⟨(Z7.mk ((xs++[Zz 14 b.result])++(ow.map (Zz 15))) b.result),rfl,rfl,((((Zw.cnt (op:=14) (.inl rfl) om).cnts (op:=15) (.inr rfl) (fun v hv=>by have:=XW v hv;omega)).block om).le (by have:=B7 b.steps k;omega))⟩ (Zd.agg (.cons (Zd.forget _ _) (.cons (lr _) .nil))))))))))
 refine ak (aD 8 (E5 4 8 [0,1,4,5] [(74,Z4 ow)] [1] (Z9 2 (dc 2 [] [1] [b2] (JZ 15 ow) ?_))))
 rintro _ _ ⟨v18,rfl,rfl⟩
 exact YA 3 3 [] [(75,Vu (ow.map (Zz 15)))] (Z9 3 (dp 3 5 [1] [b2] (ZD (xs++(ow.map (Zz 15)))) (ZD xs) (ZD (ow.map (Zz 15))) v none 5 (Xv _) (Xv _) (UK _) (by simp<;>omega) (by simp [V3,ZD]) fun v19=>Zi 1 2 [6] (Z9 7 (YO 7 2 [] [] b3 [Xe (xs++(ow.map (Zz 15))) v19,.i b.result] (de (ZC (r3 [] [.agg [Xe (xs++(ow.map (Zz 15))) v19,.i b.result]] [0] [(b3,b3)] ⟨(Z7.mk (xs++(ow.map (Zz 15))) b.result),rfl,rfl,(((Zw.cnts (op:=15) (.inr rfl) (fun v hv=>by have:=XW v hv;omega)).block om).le (by have:=B7 b.steps k;omega))⟩ (Zd.agg (.cons (Zd.forget _ _) (.cons (lr _) .nil))))))))))
theorem Z9g (n:Zl) (us:LI) (b:Z7) (mi:LI) (mm:Nat) (hn:X4 n:=by exact ob) (hf:fB n.decls n.routines.length mm b:=by exact ob) (hop:Uw WU b:=by exact ob) (hul:us.length=mm:=by exact ob) (hm:mm+4*b.sz<=100000:=by exact ob) (hmr:∀v∈mi,0<=v/\v<(mm:Int)) (hml:mi.length<=3:=by exact ob) (hbz:b.sz<=500:=by exact ob):Zk 147 [Yt n,Z4 us,Y9 b,Z4 mi] [] (fun r h=>∃(y:Z7),r=Y9 y/\h=[]/\KB n.decls n.routines.length mm y (60*b.sz)):=by
 have key:∀k:Nat,∀(us2:LI) (b2:Z7) (mi2:LI) (m2:Nat),(fB n.decls n.routines.length m2 b2)->(Uw WU b2)->(us2.length=m2)->(m2+4*b2.sz<=100000)->(∀v∈mi2,0<=v/\v<(m2:Int))->(mi2.length<=3)->(b2.sz<=500)->(b2.sz<k)->Zk 147 [Yt n,Z4 us2,Y9 b2,Z4 mi2] [] (fun r h=>∃(y:Z7),r=Y9 y/\h=[]/\KB n.decls n.routines.length m2 y (60*b2.sz)):=by
  intro k
  induction k with
  | zero=>intro us2 b2 mi2 m2 h1 h2 h3 h4 h5 h6 h7 h9;omega
  | succ k ih=>intro us2 b2 mi2 m2 h1 h2 h3 h4 h5 h6 h7 h9;exact Z9h n us2 b2 mi2 m2 hn h1 h2 h3 h4 h5 h6 h7 fun us3 b3 mi3 m3 q1 q2 q3 q4 q5 q6 q7 q9=>ih us3 b3 mi3 m3 q1 q2 q3 q4 q5 q6 q7 om
 exact key (b.sz+1) us b mi mm hf hop hul hm hmr hml hbz om
theorem Z9z (rt:Yh) (hp:rt.params.length<=1000000:=by exact ob) (hl:rt.lent.length<=1000000:=by exact ob):Zk 148 [K5 rt] [] (fun r h=>∃(os:LI),r=Z4 os/\h=[]/\os.length<=rt.params.length/\∀v∈os,0<=v/\v<(rt.params.length:Int)):=by
 refine ZG 31 Tryz.func148 (ar (iA (TX rt) fun b1=>Z0 (ar (iL (Z8 []) 0 1 fun v1=>?_))))
 refine Z0 (Yn (ab 0 (Y2 (fun fz gz m F h=>∃(k:Nat) (os:LI) (u:Value),(k<=rt.params.length)/\(os.length<=k)/\(∀v∈os,0<=v/\v<(rt.params.length:Int))/\F=sF [1] fz [(3,ZQ os u),(4,.i k)]/\h=[Ze gz 1,.tail u 1]/\m=rt.params.length-k) _ _ _ ⟨0,[],v1,ob,ob,(fun v hv=>by cases hv),rfl,rfl,rfl⟩ (wk [1,0] (fr (Yb fl))) ?_)))
 rintro m F h ⟨k,os,u,Yg,Zj,Zw,rfl,rfl,rfl⟩
 refine Yk 3 [0] (iw (Ya rt.params) (Y7 ((k:Int)<(rt.params.length:Int)) (fun Za=>?_) (fun Za=>?_)))
 ·refine ak (aq (ab 1 (Zv 3 [0] ?_)))
  obtain ⟨x1,Z3⟩:=Zu rt.params k om
  refine Zr (Zm none (k:Int) 1 (Y1 Z3)) (Xw [1,3,4] [(25,.b ((x1 != 0)&&(!(decide ((k:Int)∈rt.lent)))))] (fun gz=>gz) ?_ ?_)
  ·refine Z2 3 (ib (b:=(x1 != 0)) 19 (fun Zb=>?_) (fun Zb=>?_))
   ·exact ZL 3 [0] (Zx [] (Tn rt.lent (k:Int)) (Z0 (wk [0,0] (Zt (!(decide ((k:Int)∈rt.lent))) Zb fl))))
   exact Z0 (wk [0,0] (Zt false Zb fl))
  refine ac ((x1 != 0)&&(!(decide ((k:Int)∈rt.lent)))) (p:=(x1≠0)/\(¬((k:Int)∈rt.lent))) (YJ Y4 (Yl dq)) (fun Zg=>?_) (fun Zg=>?_)
  ·exact az (Z2 2 (iL (Z8 [(k:Int)]) 1 1 fun v2=>ZT 0 [(28,Z4 [(k:Int)])] (ip 2 (Z8 (os++[(k:Int)])) (Z8 os) (Z8 [(k:Int)]) u none 1 (YK _) (YK _) (Wx _) (by simp<;>omega) (by simp [Ww,Z8]) fun v3=>Z0 (az (Z2 1 (ZJ k (Z0 (ZK ⟨k+1,(os++[(k:Int)]),v3,ob,ob,(by first|exact Zw|exact XU Zw om),rfl,rfl,rfl⟩ (wk [2,0] (fr (ZM k fl)))))))))))
  exact ak (az (Z2 1 (ZJ k (Z0 (ZK ⟨k+1,os,u,ob,ob,(by first|exact Zw|exact XU Zw om),rfl,rfl,rfl⟩ (wk [0,0] (fr (ZM k fl))))))))
 exact ax 0 (ar (Zp (r2 [] [ZQ os u] ⟨os,rfl,rfl,⟨by omega,Zw⟩⟩ (Zd.forget _ _))))
theorem Z9f (n:Zl) (qz:Nat) (hn:FO n qz WU:=by exact ob) (hqz:qz<=181:=by exact ob):Zk 86 [Yt n] [] (fun r h=>∃(n2:Zl),r=Yt n2/\h=[]/\FO n2 (60*qz) JO):=by
 have hnl:=hn.fn.len
 have XB:=hn.fn.decls.ok
 have hok:=hn.fn.ok
 refine ZG 39 Tryz.func86 (ar (iA (YY n) fun b1=>iA [nl,nl] fun b2=>ie (Zv 2 [1] (Zx [] (F7 n.decls) (iL (X8 []) 0 5 fun v1=>Z2 1 (iA [nl,nl] fun b3=>?_))))))
 refine ZH 0 b3 [ZP n.decls,U4 [] v1] (ie (Yn (ab 0 (Y2 (fun fz gz m F h=>∃(k:Nat) (rs:List Yh) (u:Value),(k<=n.routines.length)/\(rs.length=k)/\(∀r∈rs,RF n.decls n.routines.length (60*qz) JO r)/\F=sF [1,2,3] fz [(4,.i k)]/\h=[.obj b3 [ZP n.decls,U4 rs u],Ze gz 2,Ze gz 3,.tail u 5]/\m=n.routines.length-k) _ _ _ ⟨0,[],v1,ob,ob,(fun r hr=>by cases hr),rfl,rfl,rfl⟩ (wk [0,1,1,0] (Yb fl)) ?_))))
 rintro m F h ⟨k,rs,u,Yg,Zj,Zw,rfl,rfl,rfl⟩
 refine Yk 3 [2] (iw (Ul n.routines) (Y7 ((k:Int)<(n.routines.length:Int)) (fun Za=>?_) (fun Za=>?_)))
 ·refine ak (aq (ab 1 (Zv 3 [2] ?_)))
  obtain ⟨x1,Z3⟩:=Zu n.routines k om
  have hrf:=hn.rf (Y3 Z3)
  have hrp:(x1).params.length<=3:=(Qk.bd (f:=⟨(x1).params,(x1).result,default⟩) hrf.sig).1
  have hrl:=hrf.lent.1
  have hrz:=hrf.body.2
  refine Zr (Zm none (k:Int) 5 (WV Z3)) (Z2 1 (iA [nl,nl,.i 0,nl,.i 0] fun b4=>ZH 0 b4 (TX x1) (ie (aE 16 (ZI 7 16 [0,1,2,3,4,5,6,7,8] [1,0,3,0,0,0] (Z9 9 (dc 9 [] [0,0,3,0,1] [b4,b4,b1,b4,b3] (Z9z x1) ?_)))))))
  rintro _ _ ⟨os1,rfl,rfl,ZY⟩
  have hop:=ZY
  refine Z9 10 (dc 10 [] [0,1] [b4,b3] (Z9g n x1.params x1.body os1 _ (hf:=hrf.body.1) (hop:=hrf.op) (hul:=rfl) (hmr:=hop.2)) ?_)
  rintro _ _ ⟨y1,rfl,rfl,Yd⟩
  have hkb0:=Yd
  have hkb:=hkb0.le (z2:=60*qz) om
  exact Z9 11 (Yz 11 [] [1] [b3] (Hs x1 y1 (hp:=om) (hl:=om)) (Z9 12 (dL 12 [1] [b3] (X8 [Yh.mk x1.params x1.lent x1.result y1]) 1 5 fun v2=>YA 3 3 [] [(35,KA [Yh.mk x1.params x1.lent x1.result y1])] (Z9 13 (dp 13 5 [] [] (X8 (rs++[Yh.mk x1.params x1.lent x1.result y1])) (X8 rs) (X8 [Yh.mk x1.params x1.lent x1.result y1]) u none 5 (Qp _) (Qp _) (Da _) (by simp<;>omega) (by simp [D9,X8]) fun v3=>Zi 1 2 [14] (Z9 15 (YO 15 3 [] [] b3 [ZP n.decls,U4 (rs++[Yh.mk x1.params x1.lent x1.result y1]) v3] (de (az (Z2 1 (ZJ k (Z0 (ZK ⟨k+1,(rs++[Yh.mk x1.params x1.lent x1.result y1]),v3,ob,ob,(XU Zw (by first|exact hrf.with hkb.fb hkb.sz hkb.op|(rw [Z7.eta];exact hrf.with hkb.fb hkb.sz hkb.op))),rfl,rfl,rfl⟩ (wk [0,3,3,0] (ZM k fl)))))))))))))))
 exact ax 0 (Zv 1 [0] (ZH 1 b2 [ZP n.decls,U4 rs u] (ie (ZC (r3 [] [.agg [ZP n.decls,U4 rs u]] [0] [(b2,b2)] ⟨(Zl.mk n.decls rs),rfl,rfl,(FO.fin hn.fn om Zw).1⟩ (Zd.agg (.cons (lr _) (.cons (Zd.forget _ _) .nil))))))))
theorem Zi7 (s:Z6) :Zk 224 [YG s] [] (Yr (.b ((s.op==14)||(s.op==15)))):=by
 refine ZG 11 Tryz.func224 (ar (iA (XE s) fun b1=>Z0 (ar (XD 8 [] [(10,.b ((s.op==14)||(s.op==15)))] (fun gz=>gz) ?_ (fun hj1=>?_)))))
 ·exact Zp (BS)
 refine ZL 4 [0] (ib (b:=(s.op==14)) 6 (fun Zb=>?_) (fun Zb=>?_))
 ·exact Z2 4 (Yq (wk [0] (Zt true Zb fl)) hj1)
 exact ZL 4 [0] (Yq (wk [0] (Zt (s.op==15) Zb fl)) hj1)
theorem Rz (b:Nat) (ga:Hd) (gb:Hd) (gc:Hd) (gd:Hd) (ge:Hd) (gf:Hd) (n:Zl) (s:Z6) (L:Zo) (ln:LI) (q:Int) (i:Nat) (kb0:Z7) (m:LI) (hn:X4 n:=by exact ob) (hk:X6 n.decls L q:=by exact ob) (hf:AB n L.vars s:=by exact ob) (hop:s.op=7∨s.op=8:=by exact ob) (hkb:s.kids[i]? = some kb0:=by exact ob) (harm:(X7 n.decls s.op s.num)[i]? = some m:=by exact ob) (hbt:0<=YR n (L.vars++m) kb0:=by exact ob) (hb:L.vars.length+4*s.sz<=1000000000:=by exact ob) (hq:0<=q/\q+4*s.sz<=999999990:=by exact ob) (hln:ln.length<=4294967296:=by exact ob) (ih:∀(b2:Z7) (c:Nat) (ra:Hd) (rb:Hd) (rc:Hd) (rd:Hd) (re:Hd) (rf:Hd) (M:Zo) (mm:Nat) (p:Int),(b2.sz<s.sz)->(X6 n.decls M p)->(0<=YR n M.vars b2)->(mm<=M.vars.length)->(M.vars.length+4*b2.sz<=1000000000)->(0<=p/\p+4*b2.sz<=999999990)->Zk 170 [.p c 0,Yt n,Y9 b2,.i mm] [.obj c [.h ra,.h rb,.h rc,.h rd,.h re,.h rf,Z4 ln],rV ra M.vars,rV rb M.own,rV rc M.par,rV rd M.con,rV re M.fst,rV rf M.tok] (fun r h=>(∃(wa:Hd) (wb:Hd) (wc:Hd) (wd:Hd) (we:Hd) (wf:Hd) (M':Zo),r=.b true/\h=[.obj c [.h wa,.h wb,.h wc,.h wd,.h we,.h wf,Z4 ln],rV wa M'.vars,rV wb M'.own,rV wc M'.par,rV wd M'.con,rV we M'.fst,rV wf M'.tok]/\Wh n ln M mm b2=some M')∨(r=.b false/\h=[]/\Wh n ln M mm b2=none))):Zk 259 [.p b 0,Yt n,YG s,.i i] [.obj b [.h ga,.h gb,.h gc,.h gd,.h ge,.h gf,Z4 ln],rV ga L.vars,rV gb L.own,rV gc L.par,rV gd L.con,rV ge L.fst,rV gf L.tok] (fun r h=>(∃(c:Nat) (wa:Hd) (wb:Hd) (wc:Hd) (wd:Hd) (we:Hd) (wf:Hd) (L':Zo),r=.tup [.p c 0,.b true]/\h=[.obj c [.h wa,.h wb,.h wc,.h wd,.h we,.h wf,Z4 ln],rV wa L'.vars,rV wb L'.own,rV wc L'.par,rV wd L'.con,rV we L'.fst,rV wf L'.tok,.obj b [.h ga,.h gb,.h gc,.h gd,.h ge,.h gf,Z4 ln],rV ga L.vars,rV gb L.own,rV gc L.par,rV gd L.con,rV ge L.fst,rV gf L.tok]/\Wh n ln (WF n.decls L s.op s.num s.args i) L.vars.length kb0=some L')∨(r=.tup [.any,.b false]/\h=[.obj b [.h ga,.h gb,.h gc,.h gd,.h ge,.h gf,Z4 ln],rV ga L.vars,rV gb L.own,rV gc L.par,rV gd L.con,rV ge L.fst,rV gf L.tok]/\Wh n ln (WF n.decls L s.op s.num s.args i) L.vars.length kb0=none)):=by
 obtain ⟨e1,e2,e3,e4,e5⟩:=hk.len
 have XB:=hn.decls
 have hkz:=TL s
 have haz:=K6 s
 have hK:=Cw hk hq.1 hf hop harm
 have hm3:=DX XB harm
 have hkl:=(Xs.1 hkb).1
 have hks:=TK hkb
 refine ZG 83 Tryz.func259 (ar (iA (YY n) fun b1=>iA (XE s) fun b2=>Z0 (Zv 4 [2] (Zr (JJ 3 ga L.vars) (Z0 (Y0 1 (ic [2,2,2,2,2,2,2] (Zd7 b ga gb gc gd ge gf L ln (hlk:=hk.len)) ?_)))))))
 rintro _ _ ⟨c1,wa1,wb1,wc1,wd1,we1,wf1,rfl,rfl⟩
 refine Z0 (X9 (VW [14] (ac (s.op==8) Zq (fun Za=>?_) (fun Za=>?_))))
 ·obtain ⟨x,hxa⟩:=hf.one om
  have ha:s.args[0]? = some x:=by rw [hxa];rfl
  have hx:=hf.args x (by rw [hxa];simp)
  obtain ⟨cc,hcc,hmc⟩:=FA Za harm
  have hal:=(Xs.1 ha).1
  have hcl:=(Xs.1 hcc).1
  have hm4:=hm3
  rw [hmc] at hm4
  refine Zv 4 [15,14] (ic [] (B5 n.decls s.num) ?_)
  rintro _ _ ⟨v1,rfl,rfl⟩
  refine Z2 1 (Zr (Zm (some v1) (i:Int) 1 (Y1 hcc)) (Z0 (Zv 3 [16] (Zx [] (JA n.decls cc) (Z0 (aD 11 (ZI 5 11 [0,1,2,3,4,5] [1,15] (dx 6 (Zm none 0 1 (Y1 ha)) (Zi 2 4 [7,8] (dx 9 (Wu 5 wd1 L.con x x.toNat (hq:=rfl)) (Z9 10 (Ag 10 5 [] [] wd1 L.con x.toNat cc (de (aD 11 (ZI 5 11 [0,1,2,3,4,5] [2,15] (dx 6 (Zm none 0 1 (Y1 ha)) (Zi 2 4 [7,8] (dx 9 (Wu 6 we1 L.fst x x.toNat (hq:=rfl)) (Z9 10 (Ag 10 6 [] [] we1 L.fst x.toNat (L.vars.length:Int) (de (Zy (ab 0 (Y2 (fun fz gz m F h=>∃(k:Nat) (L3:Zo) (ka:Hd) (kb:Hd) (kc:Hd) (kd:Hd) (ke:Hd) (kf:Hd),(k<=(ZX n.decls cc).length)/\(WH L3)/\(L3.vars.length=L.vars.length+k)/\(Jq L3 x ((ZX n.decls cc).drop k)=KQ n.decls L x cc)/\F=sF [3,5,6,10,11,13] fz [(14,.i k)]/\h=[.obj c1 [.h ka,.h kb,.h kc,.h kd,.h ke,.h kf,Z4 ln],Ze gz 8,Ze gz 9,Ze gz 10,Ze gz 11,Ze gz 12,Ze gz 13,Ze gz 14,Ze gz 15,Ze gz 16,rV ka L3.vars,rV kb L3.own,rV kc L3.par,rV kd L3.con,rV ke L3.fst,rV kf L3.tok]/\m=(ZX n.decls cc).length-k) _ _ _ ⟨0,(Zo.mk L.vars L.own L.par (L.con.set x.toNat cc) (L.fst.set x.toNat (L.vars.length:Int)) L.tok),wa1,wb1,wc1,wd1,we1,wf1,ob,(WH.arm hk.len),ob,(by rw [KQ];rfl),rfl,rfl,rfl⟩ (wk [3,7,7,7,7,7,7,7,7,7,3,3,3,1,0,1] (Yb fl) (e:=(rc (rc (rc (rc (rc (rc (rc (rc (rc (rc (rv (xs:=L.vars) ob (rv (xs:=L.own) ob (rv (xs:=L.par) ob (rv (xs:=(L.con.set x.toNat cc)) ob (rv (xs:=(L.fst.set x.toNat (L.vars.length:Int))) ob (rv (xs:=L.tok) ob rz)))))))))))))))))) ?_))))))))))))))))))))))))
  rintro m F h ⟨k,L3,ka,kb,kc,kd,ke,kf,Yg,Zj,Zw,Yy,rfl,rfl,rfl⟩
  refine YP 2 (io (.i (((ZX n.decls cc).length:Nat):Int)) (.i (((Z8 (ZX n.decls cc)).length:Nat):Int)) (li (by rw [Ya])) (Y7 ((k:Int)<(((ZX n.decls cc).length:Nat):Int)) (fun Zg=>?_) (fun Zg=>?_)))
  ·refine ak (aq (ab 1 (aE 10 (Zi 7 10 [0,1,2] ?_))))
   obtain ⟨x1,Z3⟩:=Zu (ZX n.decls cc) k om
   refine dx 3 (Zm none (k:Int) 1 (Y1 Z3)) (ZI 3 6 [4,5,6] [8] (dx 7 (Zm none 0 1 (Y1 ha)) (Zi 1 2 [8] (Z9 9 (dc 9 [0,9,9,9,9,9,9] [] [] (J3 c1 ka kb kc kd ke kf L3 ln x1 0 x (hlk:=Zj)) ?_)))))
   rintro _ _ ⟨wa2,wb2,wc2,wd2,we2,wf2,rfl⟩
   exact de (az (Z2 1 (ZJ k (Z0 (ZK ⟨k+1,(L3.grow x1 0 x),wa2,wb2,wc2,wd2,we2,wf2,ob,(WH.grow Zj),(by simp [Zo.grow];omega),(by rw [Y6 Z3,Jq] at Yy;exact Yy),rfl,rfl,rfl⟩ (wk [0,6,6,6,6,6,6,6,6,6,0,0,0,0,0,0] (ZM k fl)))))))
  have hE:WF n.decls L s.op s.num s.args i=L3:=by rw [Rd Za ha hcc,<-Yy,Xq om];rfl
  refine ax 0 (aD 12 (ZI 6 12 [0,1,2,3,4,5] [9,8] (dx 6 (Zm none (i:Int) 2 (Tf hkb)) (Zi 3 5 [7,8] (Z9 9 (dc 9 [0,9,9,9,9,9,9] [] [] (ih kb0 c1 ka kb kc kd ke kf L3 L.vars.length q ob (by rw [<-hE];exact hK.1) (by rw [<-hE,hK.2];exact hbt) (by rw [<-hE,hK.2];simp) (by rw [<-hE,hK.2,Ys];omega) ob) ?_))))))
  rintro _ _ (⟨wa3,wb3,wc3,wd3,we3,wf3,M'1,rfl,rfl,ZY⟩|⟨rfl,rfl,Yd⟩)
  ·exact Zi 0 2 [10,11] (de (ZC (r2 [0,0,0,0,0,0,0,0,0,0,0,0,0,0] [.p c1 0,.b true] (.inl ⟨c1,wa3,wb3,wc3,wd3,we3,wf3,M'1,rfl,rfl,(by rw [hE];exact ZY)⟩) (lr _))))
  exact Zi 0 2 [10,11] (de (ZC (r2 [0,0,0,0,0,0,0] [.p c1 0,.b false] (.inr ⟨rfl,rfl,(by rw [hE];exact Yd)⟩) (Zd.tup (.cons (Zd.any _) (.cons (lr _) .nil))))))
 have hE:=Zco (ds:=n.decls) (L:=L) (num:=s.num) (args:=s.args) (i:=i) Za
 refine ak (aD 12 (ZI 6 12 [0,1,2,3,4,5] [15,14] (dx 6 (Zm none (i:Int) 2 (Tf hkb)) (Zi 3 5 [7,8] (Z9 9 (dc 9 [0,0,0,0,0,0,0] [] [] (ih kb0 c1 wa1 wb1 wc1 wd1 we1 wf1 L L.vars.length q ob (by rw [<-hE];exact hK.1) (by rw [<-hE,hK.2];exact hbt) (by rw [<-hE,hK.2];simp) (by rw [<-hE,hK.2,Ys];omega) ob) ?_))))))
 rintro _ _ (⟨wa4,wb4,wc4,wd4,we4,wf4,M'2,rfl,rfl,YI⟩|⟨rfl,rfl,YS⟩)
 ·exact Zi 0 2 [10,11] (de (ZC (r2 [0,0,0,0,0,0,0,0,0,0,0,0,0,0] [.p c1 0,.b true] (.inl ⟨c1,wa4,wb4,wc4,wd4,we4,wf4,M'2,rfl,rfl,(by rw [hE];exact YI)⟩) (lr _))))
 exact Zi 0 2 [10,11] (de (ZC (r2 [0,0,0,0,0,0,0] [.p c1 0,.b false] (.inr ⟨rfl,rfl,(by rw [hE];exact YS)⟩) (Zd.tup (.cons (Zd.any _) (.cons (lr _) .nil))))))
theorem Zd6 (b:Nat) (ga:Hd) (gb:Hd) (gc:Hd) (gd:Hd) (ge:Hd) (gf:Hd) (n:Zl) (s:Z6) (L:Zo) (ln:LI) (q:Int) (hn:X4 n:=by exact ob) (hk:X6 n.decls L q:=by exact ob) (hf:AB n L.vars s:=by exact ob) (hop:s.op=7∨s.op=8:=by exact ob) (hb:L.vars.length+4*s.sz<=1000000000:=by exact ob) (hq:0<=q/\q+4*s.sz<=999999990:=by exact ob) (hln:ln.length<=4294967296:=by exact ob) (ih:∀(b2:Z7) (c:Nat) (ra:Hd) (rb:Hd) (rc:Hd) (rd:Hd) (re:Hd) (rf:Hd) (M:Zo) (mm:Nat) (p:Int),(b2.sz<s.sz)->(X6 n.decls M p)->(0<=YR n M.vars b2)->(mm<=M.vars.length)->(M.vars.length+4*b2.sz<=1000000000)->(0<=p/\p+4*b2.sz<=999999990)->Zk 170 [.p c 0,Yt n,Y9 b2,.i mm] [.obj c [.h ra,.h rb,.h rc,.h rd,.h re,.h rf,Z4 ln],rV ra M.vars,rV rb M.own,rV rc M.par,rV rd M.con,rV re M.fst,rV rf M.tok] (fun r h=>(∃(wa:Hd) (wb:Hd) (wc:Hd) (wd:Hd) (we:Hd) (wf:Hd) (M':Zo),r=.b true/\h=[.obj c [.h wa,.h wb,.h wc,.h wd,.h we,.h wf,Z4 ln],rV wa M'.vars,rV wb M'.own,rV wc M'.par,rV wd M'.con,rV we M'.fst,rV wf M'.tok]/\Wh n ln M mm b2=some M')∨(r=.b false/\h=[]/\Wh n ln M mm b2=none))):Zk 209 [.p b 0,Yt n,YG s] [.obj b [.h ga,.h gb,.h gc,.h gd,.h ge,.h gf,Z4 ln],rV ga L.vars,rV gb L.own,rV gc L.par,rV gd L.con,rV ge L.fst,rV gf L.tok] (fun r h=>(∃(wa:Hd) (wb:Hd) (wc:Hd) (wd:Hd) (we:Hd) (wf:Hd) (L':Zo),r=.b true/\h=[.obj b [.h wa,.h wb,.h wc,.h wd,.h we,.h wf,Z4 ln],rV wa L'.vars,rV wb L'.own,rV wc L'.par,rV wd L'.con,rV we L'.fst,rV wf L'.tok]/\JQ n ln L s=some L')∨(r=.b false/\h=[]/\JQ n ln L s=none)):=by
 obtain ⟨e1,e2,e3,e4,e5⟩:=hk.len
 have XB:=hn.decls
 have hkz:=TL s
 have haz:=K6 s
 obtain ⟨hk1,hk2,hk3⟩:=hf.kids hop
 obtain ⟨kd,hkd⟩:=Zu s.kids 0 om
 obtain ⟨m0,hm0⟩:=Zu (X7 n.decls s.op s.num) 0 om
 obtain ⟨x,hxa⟩:=hf.one om
 have ha:s.args[0]? = some x:=by rw [hxa];rfl
 have hx:=hf.args x (by rw [hxa];simp)
 have hgx:=JU ha
 have hal:=(Xs.1 ha).1
 refine ZG 88 Tryz.func209 (ar (iA (YY n) fun b1=>iA (XE s) fun b2=>Z0 (X9 (Xw [0,4,5] [(23,.b ((s.op==8)&&(!XR L ln x)))] (fun gz=>[Ze gz 2,Ze gz 3,Ze gz 4,Ze gz 5,Ze gz 6,Ze gz 7,Ze gz 8,Ze gz 0,Ze gz 1]) ?_ ?_))))
 ·refine ZL 4 [0] (ib (b:=(s.op==8)) 15 (fun Zb=>?_) (fun Zb=>?_))
  ·exact ZL 3 [0] (Zr (Zm none 0 1 (Y1 ha)) (Z2 1 (Zx [2,2,2,2,2,2,2] (GV b ga gb gc gd ge gf L ln x (hlk:=hk.len) (hd:=hk.down)) (Z0 (ZF 9 (Zt (!XR L ln x) Zb fl))))))
  exact Z0 (wk [2,2,2,2,2,2,2,0,0] (Zt false Zb fl))
 refine ac ((s.op==8)&&(!XR L ln x)) (p:=(s.op=8)/\(¬(XR L ln x=true))) (YJ Zq (Yl Iff.rfl)) (fun Za=>?_) (fun Za=>?_)
 ·exact ar (Zp (r1 [] (.inr ⟨rfl,rfl,(by rw [JQ,Zc (by rw [hgx];exact Za)])⟩)))
 have hgo:=NU (n:=n) (ln:=ln) (L:=L) (s:=s) (by rw [hgx];exact Za) hkd
 refine ak (Zv 3 [8,7] (ic [0,0,0,0,0,0,0] (Rz b ga gb gc gd ge gf n s L ln q 0 kd m0 (hkb:=hkd) (harm:=hm0) (hbt:=(hk3 0 kd m0 hkd hm0)) (ih:=ob)) ?_))
 rintro _ _ (⟨c1,wa1,wb1,wc1,wd1,we1,wf1,L'1,rfl,rfl,YI⟩|⟨rfl,rfl,YS⟩)
 ·have hone:=YI
  obtain ⟨l1,l2⟩:=Rk hn hk hq.1 hf hop hkd hm0 (hk3 0 kd m0 hkd hm0) hone
  refine Z0 (Yn (WC (ak (Yn (ab 0 (Y2 (fun fz gz m F h=>∃(k:Nat),(1<=k/\k<=s.kids.length)/\(Uu n ln L s.op s.num s.args L'1 (s.kids.drop k) k=Uu n ln L s.op s.num s.args L'1 (s.kids.drop 1) 1)/\F=sF [0,4,5,7] fz [(9,.i k)]/\h=gz/\m=s.kids.length-k) _ _ _ ⟨1,ob,ob,rfl,rfl,rfl⟩ (ZF 16 (fc (x:=.i 1) li fl)) ?_))))))
  rintro m F h ⟨k,Yg,Zj,rfl,rfl,rfl⟩
  refine Yk 3 [14] (iw (Uj s.kids) (Y7 ((k:Int)<(s.kids.length:Int)) (fun Zg=>?_) (fun Zg=>?_)))
  ·obtain ⟨ke,hke⟩:=Zu s.kids k om
   obtain ⟨mk,hmk⟩:=Zu (X7 n.decls s.op s.num) k om
   have hcs:=Ey (n:=n) (ln:=ln) (L:=L) (op:=s.op) (num:=s.num) (args:=s.args) (one:=L'1) hke
   refine ak (aq (ab 1 (Zv 4 [15,14] (ic [7,7,7,7,7,7,7] (Rz b ga gb gc gd ge gf n s L ln q k ke mk (hkb:=hke) (harm:=hmk) (hbt:=(hk3 k ke mk hke hmk)) (ih:=ob)) ?_))))
   rintro _ _ (⟨c2,wa2,wb2,wc2,wd2,we2,wf2,L'2,rfl,rfl,Xk⟩|⟨rfl,rfl,XZ⟩)
   ·have htwo:=Xk
    obtain ⟨l3,l4⟩:=Rk hn hk hq.1 hf hop hke hmk (hk3 k ke mk hke hmk) htwo
    refine Z0 (aD 26 (ZI 15 26 [0,1,2,3,4,5,6,7,8,9,10] [14,0] (Z9 11 (Td 11 [16,2] [] [] [rV wb1 L'1.own,rV wb2 L'2.own] (Z1d L'1.own L'2.own) CX (gL (v:=wb1) 0 (gL (v:=wb2) 1 gN)) (Uv (Uv Tl)) ?_))))
    rintro _ _ ⟨rfl,rfl⟩
    refine Af [0,4,5,7,9] [(73,.b ((!(decide (L'1.own=L'2.own)))||(!(decide (L'1.tok=L'2.tok)))))] (fun gz=>gz) ?_ ?_
    ·refine Zi 11 14 [12,13,14] (db (b:=(!(decide (L'1.own=L'2.own)))) 62 (fun ZA=>?_) (fun ZA=>?_))
     ·exact Zi 0 11 [15,16,17,18,19,20,21,22,23,24,25] (de (ZF 23 (Zt true ZA fl)))
     refine ZI 3 11 [15,16,17,18,19,20,21,22] [15,2] (Z9 23 (Td 23 [20,7] [] [] [rV wf1 L'1.tok,rV wf2 L'2.tok] (Z1d L'1.tok L'2.tok) CX (gL (v:=wf1) 0 (gL (v:=wf2) 1 gN)) (Uv (Uv Tl)) ?_))
     rintro _ _ ⟨rfl,rfl⟩
     exact Zi 0 2 [24,25] (de (wk [2,2,2,2,2,2,2,1,1,1,1,1,1,1,1,1,1,1,1,1,0,0,0] (Zt (!(decide (L'1.tok=L'2.tok))) ZA fl)))
    refine ac ((!(decide (L'1.own=L'2.own)))||(!(decide (L'1.tok=L'2.tok)))) (p:=(¬(L'1.own=L'2.own))∨(¬(L'1.tok=L'2.tok))) (Yf (Yl dq) (Yl dq)) (fun ZE=>?_) (fun ZE=>?_)
    ·exact ar (Zp (r1 [] (.inr ⟨rfl,rfl,(by rw [hgo,hone];exact EB (by rw [<-Zj,hcs,htwo];exact Z09 ZE))⟩)))
    exact ak (az (Z2 1 (ZJ k (Z0 (ZK ⟨k+1,ob,(by rw [hcs,htwo,Z0a ZE] at Zj;exact Zj),rfl,rfl,rfl⟩ (wk [15,15,0,14,14,14,14,7,7,7,7,7,7,7,7,7] (ZM k fl)))))))
   have htwo:=XZ
   exact Z0 (aD 26 (Zi 0 26 [0,1,2,3,4,5,6,7,8,9,10,11,12,13,14,15,16,17,18,19,20,21,22,23,24,25] (de (We (ar (Zp (r1 [] (.inr ⟨rfl,rfl,(by rw [hgo,hone];exact EB (by rw [<-Zj,hcs,htwo];rfl))⟩))))))))
  have hE:Uu n ln L s.op s.num s.args L'1 (s.kids.drop 1) 1=true:=by rw [<-Zj,Xq om,Uu]
  exact ax 0 (Zv 7 [0] (ZH 7 b [.h ga,.h wb1,.h gc,.h gd,.h ge,.h gf,Z4 ln] (ie (Zv 7 [1] (ZH 0 b [.h ga,.h wb1,.h gc,.h gd,.h ge,.h wf1,Z4 ln] (ie (ar (Zp (r1 [0,7,2,7,7,7,5] (.inl ⟨ga,wb1,gc,gd,ge,wf1,(Zo.mk L.vars L'1.own L.par L.con L.fst L'1.tok),rfl,rfl,(by rw [hgo,hone];exact RK hE)⟩) (eq:=(rc (rv (xs:=L.vars) ob (rv (xs:=L'1.own) ob (rv (xs:=L.par) ob (rv (xs:=L.con) ob (rv (xs:=L.fst) ob (rv (xs:=L'1.tok) ob rz)))))))))))))))))
 have hone:=YS
 exact Z0 (Yn (We (ar (Zp (r1 [] (.inr ⟨rfl,rfl,(by rw [hgo,hone];rfl)⟩))))))
theorem RA (b:Nat) (ga:Hd) (gb:Hd) (gc:Hd) (gd:Hd) (ge:Hd) (gf:Hd) (n:Zl) (s:Z6) (L:Zo) (ln:LI) (q:Int) (hn:X4 n:=by exact ob) (hk:X6 n.decls L q:=by exact ob) (ht:0<=ZZ n L.vars s:=by exact ob) (hb:L.vars.length+4*s.sz<=1000000000:=by exact ob) (hq:0<=q/\q+4*s.sz<=999999990:=by exact ob) (hln:ln.length<=4294967296:=by exact ob) (ih:∀(b2:Z7) (c:Nat) (ra:Hd) (rb:Hd) (rc:Hd) (rd:Hd) (re:Hd) (rf:Hd) (M:Zo) (mm:Nat) (p:Int),(b2.sz<s.sz)->(X6 n.decls M p)->(0<=YR n M.vars b2)->(mm<=M.vars.length)->(M.vars.length+4*b2.sz<=1000000000)->(0<=p/\p+4*b2.sz<=999999990)->Zk 170 [.p c 0,Yt n,Y9 b2,.i mm] [.obj c [.h ra,.h rb,.h rc,.h rd,.h re,.h rf,Z4 ln],rV ra M.vars,rV rb M.own,rV rc M.par,rV rd M.con,rV re M.fst,rV rf M.tok] (fun r h=>(∃(wa:Hd) (wb:Hd) (wc:Hd) (wd:Hd) (we:Hd) (wf:Hd) (M':Zo),r=.b true/\h=[.obj c [.h wa,.h wb,.h wc,.h wd,.h we,.h wf,Z4 ln],rV wa M'.vars,rV wb M'.own,rV wc M'.par,rV wd M'.con,rV we M'.fst,rV wf M'.tok]/\Wh n ln M mm b2=some M')∨(r=.b false/\h=[]/\Wh n ln M mm b2=none))):Zk 151 [.p b 0,Yt n,YG s] [.obj b [.h ga,.h gb,.h gc,.h gd,.h ge,.h gf,Z4 ln],rV ga L.vars,rV gb L.own,rV gc L.par,rV gd L.con,rV ge L.fst,rV gf L.tok] (fun r h=>(∃(wa:Hd) (wb:Hd) (wc:Hd) (wd:Hd) (we:Hd) (wf:Hd) (L':Zo),r=.b true/\h=[.obj b [.h wa,.h wb,.h wc,.h wd,.h we,.h wf,Z4 ln],rV wa L'.vars,rV wb L'.own,rV wc L'.par,rV wd L'.con,rV we L'.fst,rV wf L'.tok]/\WI n ln L s=some L')∨(r=.b false/\h=[]/\WI n ln L s=none)):=by
 obtain ⟨e1,e2,e3,e4,e5⟩:=hk.len
 have XB:=hn.decls
 have hkz:=TL s
 have haz:=K6 s
 have hf:=B9 ht
 refine ZG 89 Tryz.func151 (ar (iA (YY n) fun b1=>iA (XE s) fun b2=>Z0 (aD 8 (ZI 2 8 [0,1,2,3,4,5] [1,2,0] (Z9 6 (Td 6 [3] [] [] [rV ga L.vars] (MI n L.vars s ob ob) CX (gS (gL (v:=ga) 0 (gS gN))) (Uv Tl) ?_))))))
 rintro _ _ ⟨rfl,rfl⟩
 refine Zi 0 1 [7] (de (Zy (X9 (VW [1] (ab 0 (ar (YD (s.op==14) Zq (fun Za=>?_) (fun Za=>?_))))))))
 ·obtain ⟨x,hxa⟩:=hf.one om
  have ha:s.args[0]? = some x:=by rw [hxa];rfl
  have hx:=hf.args x (by rw [hxa];simp)
  have hgx:=JU ha
  have hal:=(Xs.1 ha).1
  obtain ⟨xo,hxo⟩:=Zu L.own x.toNat om
  have hgo:=VM hxo
  have hob:=hk.bd xo (Y3 hxo)
  have hon:=hk.nn xo (Y3 hxo)
  refine Zv 3 [1] (Zr (Zm none 0 1 (Y1 ha)) (Z2 1 (Zx [3,0,2,2,2,2,2] (GV b ga gb gc gd ge gf L ln x (hlk:=hk.len) (hd:=hk.down)) (Z0 (aE 21 (ZI 15 21 [0,1,2,3,4,5] [0,7] (dx 6 (Zm none 0 1 (Y1 ha)) (ZI 7 14 [7,8,9,10,11,12,13] [0,7] (dx 14 (Zm none 0 1 (Y1 ha)) (Zi 5 6 [15] (dx 16 (Wu 2 gb L.own x x.toNat (hq:=rfl)) (Ui 17 (U9 2 gb L.own x.toNat xo hxo) (da 18 ((xo+1)) ((xo)+(1)) (dx 19 (Wu 2 gb L.own x x.toNat (hq:=rfl)) (Z9 20 (Ag 20 2 [] [] gb L.own x.toNat (xo+1) (de (X9 (YD (!XR L ln x) (p:=¬(XR L ln x=true)) (Yl Iff.rfl) (fun Zg=>?_) (fun Zg=>?_))))))))))))))))))))
  ·have hP:=(EL (n:=n) (ln:=ln) (L:=L) Za hgx).trans (Z6y Zg)
   exact ar (Zp (r1 [] (.inr ⟨rfl,rfl,(by rw [U7,hP];first|rfl|exact TF (by assumption)|exact TG (by assumption) (by assumption)|exact Th (by assumption))⟩)))
  have hP:=(EL (n:=n) (ln:=ln) (L:=L) Za hgx).trans (Z6z Zg hgo)
  obtain ⟨kx,hxv⟩:=BH hn hk hq.1 hf hP
  refine ak (Yk 2 [7] (Zx [] (JB s.op) (Xw [0,5,7] [(80,.b (W5 s.op&&((ZZ n L.vars s) != 0)))] (fun gz=>gz) ?_ ?_)))
  ·refine Z2 1 (ib (b:=W5 s.op) 77 (fun Zb=>?_) (fun Zb=>?_))
   ·exact Z0 (ZF 9 (Zt ((ZZ n L.vars s) != 0) Zb fl))
   exact Z0 (ZF 9 (Zt false Zb fl))
  refine ac (W5 s.op&&((ZZ n L.vars s) != 0)) (p:=(W5 s.op=true)/\((ZZ n L.vars s)≠0)) (YJ Iff.rfl Y4) (fun ZE=>?_) (fun ZE=>?_)
  ·refine az (Z2 2 (ic [1,1,0,0,0,0,0] (J3 b ga gb gc gd ge gf (Zo.mk L.vars (L.own.set x.toNat (xo+1)) L.par L.con L.fst L.tok) ln (ZZ n L.vars s) 1 (-1) (hlb:=(by rw [hxv];omega)) (hlk:=kx.len)) ?_))
   rintro _ _ ⟨wa1,wb1,wc1,wd1,we1,wf1,rfl⟩
   exact ie (ar (Zp (r1 [0,0,0,0,0,0,0] (.inl ⟨wa1,wb1,wc1,wd1,we1,wf1,((Zo.mk L.vars (L.own.set x.toNat (xo+1)) L.par L.con L.fst L.tok).grow (ZZ n L.vars s) 1 (-1)),rfl,rfl,(by rw [U7,hP];first|rfl|exact TF (by assumption)|exact TG (by assumption) (by assumption)|exact Th (by assumption))⟩))))
  refine Zv 2 [7] (Zx [] (JB s.op) (ie (ac (W5 s.op) Iff.rfl (fun Yi=>?_) (fun Yi=>?_))))
  ·refine az (Z2 1 (ic [1,1,0,0,0,0,0] (J3 b ga gb gc gd ge gf (Zo.mk L.vars (L.own.set x.toNat (xo+1)) L.par L.con L.fst L.tok) ln 0 0 (-1) (hlb:=(by rw [hxv];omega)) (hlk:=kx.len)) ?_))
   rintro _ _ ⟨wa2,wb2,wc2,wd2,we2,wf2,rfl⟩
   exact ie (ar (Zp (r1 [0,0,0,0,0,0,0] (.inl ⟨wa2,wb2,wc2,wd2,we2,wf2,((Zo.mk L.vars (L.own.set x.toNat (xo+1)) L.par L.con L.fst L.tok).grow 0 0 (-1)),rfl,rfl,(by rw [U7,hP];first|rfl|exact TF (by assumption)|exact TG (by assumption) (by assumption)|exact Th (by assumption))⟩))))
  exact ak (ar (Zp (r1 [1,1,0,0,0,0,0] (.inl ⟨ga,gb,gc,gd,ge,gf,(Zo.mk L.vars (L.own.set x.toNat (xo+1)) L.par L.con L.fst L.tok),rfl,rfl,(by rw [U7,hP];first|rfl|exact TF (by assumption)|exact TG (by assumption) (by assumption)|exact Th (by assumption))⟩) (eq:=(rc (rv (xs:=L.vars) ob (rv (xs:=(L.own.set x.toNat (xo+1))) ob (rv (xs:=L.par) ob (rv (xs:=L.con) ob (rv (xs:=L.fst) ob (rv (xs:=L.tok) ob rz)))))))))))
 refine ar (YD (s.op==15) Zq (fun Xg=>?_) (fun Xg=>?_))
 ·obtain ⟨x,hxa⟩:=hf.one om
  have ha:s.args[0]? = some x:=by rw [hxa];rfl
  have hx:=hf.args x (by rw [hxa];simp)
  have hgx:=JU ha
  have hal:=(Xs.1 ha).1
  refine az (ZL 3 [1] (Zr (Zm none 0 1 (Y1 ha)) (Z2 1 (ic [3,0,2,2,2,2,2] (GW b ga gb gc gd ge gf L ln x (hlk:=hk.len) (hq:=(fun y hy=>⟨hk.nn y hy,by have:=hk.bd y hy;omega⟩))) ?_))))
  rintro _ _ (⟨wa3,wb3,wc3,wd3,we3,wf3,L'1,rfl,rfl,YI⟩|⟨rfl,rfl,YS⟩)
  ·have hP:=(EM (n:=n) (ln:=ln) (L:=L) Xg hgx).trans (YI)
   obtain ⟨kx,hxv⟩:=BH hn hk hq.1 hf hP
   refine Z0 (Yn (WC (ak (Yk 2 [7] (Zx [] (JB s.op) (Xw [0,5,7] [(80,.b (W5 s.op&&((ZZ n L.vars s) != 0)))] (fun gz=>gz) ?_ ?_))))))
   ·refine Z2 1 (ib (b:=W5 s.op) 77 (fun ZA=>?_) (fun ZA=>?_))
    ·exact Z0 (ZF 9 (Zt ((ZZ n L.vars s) != 0) ZA fl))
    exact Z0 (ZF 9 (Zt false ZA fl))
   refine ac (W5 s.op&&((ZZ n L.vars s) != 0)) (p:=(W5 s.op=true)/\((ZZ n L.vars s)≠0)) (YJ Iff.rfl Y4) (fun Xm=>?_) (fun Xm=>?_)
   ·refine az (Z2 2 (ic [0,0,0,0,0,0,0] (J3 b wa3 wb3 wc3 wd3 we3 wf3 L'1 ln (ZZ n L.vars s) 1 (-1) (hlb:=(by rw [hxv];omega)) (hlk:=kx.len)) ?_))
    rintro _ _ ⟨wa4,wb4,wc4,wd4,we4,wf4,rfl⟩
    exact ie (ar (Zp (r1 [0,0,0,0,0,0,0] (.inl ⟨wa4,wb4,wc4,wd4,we4,wf4,(L'1.grow (ZZ n L.vars s) 1 (-1)),rfl,rfl,(by rw [U7,hP];first|rfl|exact TF (by assumption)|exact TG (by assumption) (by assumption)|exact Th (by assumption))⟩))))
   refine Zv 2 [7] (Zx [] (JB s.op) (ie (ac (W5 s.op) Iff.rfl (fun VZ=>?_) (fun VZ=>?_))))
   ·refine az (Z2 1 (ic [0,0,0,0,0,0,0] (J3 b wa3 wb3 wc3 wd3 we3 wf3 L'1 ln 0 0 (-1) (hlb:=(by rw [hxv];omega)) (hlk:=kx.len)) ?_))
    rintro _ _ ⟨wa5,wb5,wc5,wd5,we5,wf5,rfl⟩
    exact ie (ar (Zp (r1 [0,0,0,0,0,0,0] (.inl ⟨wa5,wb5,wc5,wd5,we5,wf5,(L'1.grow 0 0 (-1)),rfl,rfl,(by rw [U7,hP];first|rfl|exact TF (by assumption)|exact TG (by assumption) (by assumption)|exact Th (by assumption))⟩))))
   exact ak (ar (Zp (r1 [0,0,0,0,0,0,0] (.inl ⟨wa3,wb3,wc3,wd3,we3,wf3,L'1,rfl,rfl,(by rw [U7,hP];first|rfl|exact TF (by assumption)|exact TG (by assumption) (by assumption)|exact Th (by assumption))⟩))))
  have hP:=(EM (n:=n) (ln:=ln) (L:=L) Xg hgx).trans (YS)
  exact Z0 (Yn (We (ar (Zp (r1 [] (.inr ⟨rfl,rfl,(by rw [U7,hP];first|rfl|exact TF (by assumption)|exact TG (by assumption) (by assumption)|exact Th (by assumption))⟩))))))
 refine Yn (Wm (fun fz gz F h=>F=sF [0,4,5,7,17] fz [(58,.b ((s.op==16)||(s.op==17)))]/\h=gz) ?_ ?_)
 ·refine ac (s.op==16) Zq (fun VT=>?_) (fun VT=>?_)
  ·exact ak (ZU ⟨rfl,rfl⟩ (ZF 9 (fc (x:=.b (s.op==16)) (lb (by first|rfl|(rw [Zc VT])|(rw [Z5 VT])|(simp [VT];done)|(rw [XK];simp [VT];done)|omega)) fl)))
  exact T0 (ZU ⟨rfl,rfl⟩ (ZF 9 (fc (x:=.b (s.op==17)) (lb (by first|rfl|(rw [Zc VT])|(rw [Z5 VT])|(simp [VT];done)|(rw [XK];simp [VT];done)|omega)) fl)))
 rintro F h ⟨rfl,rfl⟩
 refine ac ((s.op==16)||(s.op==17)) (p:=(s.op=16)∨(s.op=17)) (Yf Zq Zq) (fun VU=>?_) (fun VU=>?_)
 ·obtain ⟨x,hxa⟩:=hf.one om
  have ha:s.args[0]? = some x:=by rw [hxa];rfl
  have hx:=hf.args x (by rw [hxa];simp)
  have hgx:=JU ha
  have hal:=(Xs.1 ha).1
  refine az (ZL 3 [2,1] (ic [3,0,2,2,2,2,2] (Zd9 b ga gb gc gd ge gf n s L ln q x) ?_))
  rintro _ _ (⟨wa6,wb6,wc6,wd6,we6,wf6,L'2,rfl,rfl,Wy⟩|⟨rfl,rfl,WW⟩)
  ·have hP:=(H9 (n:=n) (ln:=ln) (L:=L) VU hgx).trans (Wy)
   obtain ⟨kx,hxv⟩:=BH hn hk hq.1 hf hP
   refine Z0 (Yn (WC (ak (Yk 2 [7] (Zx [] (JB s.op) (Xw [0,5,7] [(80,.b (W5 s.op&&((ZZ n L.vars s) != 0)))] (fun gz=>gz) ?_ ?_))))))
   ·refine Z2 1 (ib (b:=W5 s.op) 77 (fun Yp=>?_) (fun Yp=>?_))
    ·exact Z0 (ZF 9 (Zt ((ZZ n L.vars s) != 0) Yp fl))
    exact Z0 (ZF 9 (Zt false Yp fl))
   refine ac (W5 s.op&&((ZZ n L.vars s) != 0)) (p:=(W5 s.op=true)/\((ZZ n L.vars s)≠0)) (YJ Iff.rfl Y4) (fun TT=>?_) (fun TT=>?_)
   ·refine az (Z2 2 (ic [0,0,0,0,0,0,0] (J3 b wa6 wb6 wc6 wd6 we6 wf6 L'2 ln (ZZ n L.vars s) 1 (-1) (hlb:=(by rw [hxv];omega)) (hlk:=kx.len)) ?_))
    rintro _ _ ⟨wa7,wb7,wc7,wd7,we7,wf7,rfl⟩
    exact ie (ar (Zp (r1 [0,0,0,0,0,0,0] (.inl ⟨wa7,wb7,wc7,wd7,we7,wf7,(L'2.grow (ZZ n L.vars s) 1 (-1)),rfl,rfl,(by rw [U7,hP];first|rfl|exact TF (by assumption)|exact TG (by assumption) (by assumption)|exact Th (by assumption))⟩))))
   refine Zv 2 [7] (Zx [] (JB s.op) (ie (ac (W5 s.op) Iff.rfl (fun JV=>?_) (fun JV=>?_))))
   ·refine az (Z2 1 (ic [0,0,0,0,0,0,0] (J3 b wa6 wb6 wc6 wd6 we6 wf6 L'2 ln 0 0 (-1) (hlb:=(by rw [hxv];omega)) (hlk:=kx.len)) ?_))
    rintro _ _ ⟨wa8,wb8,wc8,wd8,we8,wf8,rfl⟩
    exact ie (ar (Zp (r1 [0,0,0,0,0,0,0] (.inl ⟨wa8,wb8,wc8,wd8,we8,wf8,(L'2.grow 0 0 (-1)),rfl,rfl,(by rw [U7,hP];first|rfl|exact TF (by assumption)|exact TG (by assumption) (by assumption)|exact Th (by assumption))⟩))))
   exact ak (ar (Zp (r1 [0,0,0,0,0,0,0] (.inl ⟨wa6,wb6,wc6,wd6,we6,wf6,L'2,rfl,rfl,(by rw [U7,hP];first|rfl|exact TF (by assumption)|exact TG (by assumption) (by assumption)|exact Th (by assumption))⟩))))
  have hP:=(H9 (n:=n) (ln:=ln) (L:=L) VU hgx).trans (WW)
  exact Z0 (Yn (We (ar (Zp (r1 [] (.inr ⟨rfl,rfl,(by rw [U7,hP];first|rfl|exact TF (by assumption)|exact TG (by assumption) (by assumption)|exact Th (by assumption))⟩))))))
 refine Yn (Wm (fun fz gz F h=>F=sF [0,4,5,7] fz [(65,.b ((s.op==7)||(s.op==8)))]/\h=gz) ?_ ?_)
 ·refine ac (s.op==7) Zq (fun Qs=>?_) (fun Qs=>?_)
  ·exact ak (ZU ⟨rfl,rfl⟩ (ZF 9 (fc (x:=.b (s.op==7)) (lb (by first|rfl|(rw [Zc Qs])|(rw [Z5 Qs])|(simp [Qs];done)|(rw [XK];simp [Qs];done)|omega)) fl)))
  exact T0 (ZU ⟨rfl,rfl⟩ (ZF 9 (fc (x:=.b (s.op==8)) (lb (by first|rfl|(rw [Zc Qs])|(rw [Z5 Qs])|(simp [Qs];done)|(rw [XK];simp [Qs];done)|omega)) fl)))
 rintro F h ⟨rfl,rfl⟩
 refine ac ((s.op==7)||(s.op==8)) (p:=(s.op=7)∨(s.op=8)) (Yf Zq Zq) (fun Jt=>?_) (fun Jt=>?_)
 ·refine az (ZL 3 [2,1] (ic [3,0,2,2,2,2,2] (Zd6 b ga gb gc gd ge gf n s L ln q (ih:=ob)) ?_))
  rintro _ _ (⟨wa9,wb9,wc9,wd9,we9,wf9,L'3,rfl,rfl,Tj⟩|⟨rfl,rfl,Tk⟩)
  ·have hP:=(Ha (n:=n) (ln:=ln) (L:=L) Jt).trans (Tj)
   obtain ⟨kx,hxv⟩:=BH hn hk hq.1 hf hP
   refine Z0 (Yn (WC (ak (Yk 2 [7] (Zx [] (JB s.op) (Xw [0,5,7] [(80,.b (W5 s.op&&((ZZ n L.vars s) != 0)))] (fun gz=>gz) ?_ ?_))))))
   ·refine Z2 1 (ib (b:=W5 s.op) 77 (fun Xd=>?_) (fun Xd=>?_))
    ·exact Z0 (ZF 9 (Zt ((ZZ n L.vars s) != 0) Xd fl))
    exact Z0 (ZF 9 (Zt false Xd fl))
   refine ac (W5 s.op&&((ZZ n L.vars s) != 0)) (p:=(W5 s.op=true)/\((ZZ n L.vars s)≠0)) (YJ Iff.rfl Y4) (fun Cr=>?_) (fun Cr=>?_)
   ·refine az (Z2 2 (ic [0,0,0,0,0,0,0] (J3 b wa9 wb9 wc9 wd9 we9 wf9 L'3 ln (ZZ n L.vars s) 1 (-1) (hlb:=(by rw [hxv];omega)) (hlk:=kx.len)) ?_))
    rintro _ _ ⟨wa10,wb10,wc10,wd10,we10,wf10,rfl⟩
    exact ie (ar (Zp (r1 [0,0,0,0,0,0,0] (.inl ⟨wa10,wb10,wc10,wd10,we10,wf10,(L'3.grow (ZZ n L.vars s) 1 (-1)),rfl,rfl,(by rw [U7,hP];first|rfl|exact TF (by assumption)|exact TG (by assumption) (by assumption)|exact Th (by assumption))⟩))))
   refine Zv 2 [7] (Zx [] (JB s.op) (ie (ac (W5 s.op) Iff.rfl (fun Lh=>?_) (fun Lh=>?_))))
   ·refine az (Z2 1 (ic [0,0,0,0,0,0,0] (J3 b wa9 wb9 wc9 wd9 we9 wf9 L'3 ln 0 0 (-1) (hlb:=(by rw [hxv];omega)) (hlk:=kx.len)) ?_))
    rintro _ _ ⟨wa11,wb11,wc11,wd11,we11,wf11,rfl⟩
    exact ie (ar (Zp (r1 [0,0,0,0,0,0,0] (.inl ⟨wa11,wb11,wc11,wd11,we11,wf11,(L'3.grow 0 0 (-1)),rfl,rfl,(by rw [U7,hP];first|rfl|exact TF (by assumption)|exact TG (by assumption) (by assumption)|exact Th (by assumption))⟩))))
   exact ak (ar (Zp (r1 [0,0,0,0,0,0,0] (.inl ⟨wa9,wb9,wc9,wd9,we9,wf9,L'3,rfl,rfl,(by rw [U7,hP];first|rfl|exact TF (by assumption)|exact TG (by assumption) (by assumption)|exact Th (by assumption))⟩))))
  have hP:=(Ha (n:=n) (ln:=ln) (L:=L) Jt).trans (Tk)
  exact Z0 (Yn (We (ar (Zp (r1 [] (.inr ⟨rfl,rfl,(by rw [U7,hP];first|rfl|exact TF (by assumption)|exact TG (by assumption) (by assumption)|exact Th (by assumption))⟩))))))
 refine az (ZL 3 [2,1] (ic [3,0,2,2,2,2,2] (Zd8 b ga gb gc gd ge gf n s L ln q (hnum:=hf.num) (hargs:=hf.args) (hinto:=(fun q=>(hf.into om).2))) ?_))
 rintro _ _ (⟨wa12,wb12,wc12,wd12,we12,wf12,L'4,rfl,rfl,Ju⟩|⟨rfl,rfl,J2⟩)
 ·have hP:=(Sp (n:=n) (ln:=ln) (L:=L) Za Xg VU Jt).trans (Ju)
  obtain ⟨kx,hxv⟩:=BH hn hk hq.1 hf hP
  refine Z0 (Yn (WC (ak (Yk 2 [7] (Zx [] (JB s.op) (Xw [0,5,7] [(80,.b (W5 s.op&&((ZZ n L.vars s) != 0)))] (fun gz=>gz) ?_ ?_))))))
  ·refine Z2 1 (ib (b:=W5 s.op) 77 (fun WK=>?_) (fun WK=>?_))
   ·exact Z0 (ZF 9 (Zt ((ZZ n L.vars s) != 0) WK fl))
   exact Z0 (ZF 9 (Zt false WK fl))
  refine ac (W5 s.op&&((ZZ n L.vars s) != 0)) (p:=(W5 s.op=true)/\((ZZ n L.vars s)≠0)) (YJ Iff.rfl Y4) (fun Li=>?_) (fun Li=>?_)
  ·refine az (Z2 2 (ic [0,0,0,0,0,0,0] (J3 b wa12 wb12 wc12 wd12 we12 wf12 L'4 ln (ZZ n L.vars s) 1 (-1) (hlb:=(by rw [hxv];omega)) (hlk:=kx.len)) ?_))
   rintro _ _ ⟨wa13,wb13,wc13,wd13,we13,wf13,rfl⟩
   exact ie (ar (Zp (r1 [0,0,0,0,0,0,0] (.inl ⟨wa13,wb13,wc13,wd13,we13,wf13,(L'4.grow (ZZ n L.vars s) 1 (-1)),rfl,rfl,(by rw [U7,hP];first|rfl|exact TF (by assumption)|exact TG (by assumption) (by assumption)|exact Th (by assumption))⟩))))
  refine Zv 2 [7] (Zx [] (JB s.op) (ie (ac (W5 s.op) Iff.rfl (fun JW=>?_) (fun JW=>?_))))
  ·refine az (Z2 1 (ic [0,0,0,0,0,0,0] (J3 b wa12 wb12 wc12 wd12 we12 wf12 L'4 ln 0 0 (-1) (hlb:=(by rw [hxv];omega)) (hlk:=kx.len)) ?_))
   rintro _ _ ⟨wa14,wb14,wc14,wd14,we14,wf14,rfl⟩
   exact ie (ar (Zp (r1 [0,0,0,0,0,0,0] (.inl ⟨wa14,wb14,wc14,wd14,we14,wf14,(L'4.grow 0 0 (-1)),rfl,rfl,(by rw [U7,hP];first|rfl|exact TF (by assumption)|exact TG (by assumption) (by assumption)|exact Th (by assumption))⟩))))
  exact ak (ar (Zp (r1 [0,0,0,0,0,0,0] (.inl ⟨wa12,wb12,wc12,wd12,we12,wf12,L'4,rfl,rfl,(by rw [U7,hP];first|rfl|exact TF (by assumption)|exact TG (by assumption) (by assumption)|exact Th (by assumption))⟩))))
 have hP:=(Sp (n:=n) (ln:=ln) (L:=L) Za Xg VU Jt).trans (J2)
 exact Z0 (Yn (We (ar (Zp (r1 [] (.inr ⟨rfl,rfl,(by rw [U7,hP];first|rfl|exact TF (by assumption)|exact TG (by assumption) (by assumption)|exact Th (by assumption))⟩))))))
theorem Zd5 (c:Nat) (ga:Hd) (gb:Hd) (gc:Hd) (gd:Hd) (ge:Hd) (gf:Hd) (n:Zl) (b:Z7) (L:Zo) (ln:LI) (q:Int) (mm:Nat) (hn:X4 n) (hk:X6 n.decls L q) (ht:0<=YR n L.vars b) (hm:mm<=L.vars.length) (hb:L.vars.length+4*b.sz<=1000000000) (hq:0<=q/\q+4*b.sz<=999999990) (hln:ln.length<=4294967296) (ih:∀(s2:Z6) (c:Nat) (ra:Hd) (rb:Hd) (rc:Hd) (rd:Hd) (re:Hd) (rf:Hd) (M:Zo) (p:Int),(s2.sz<b.sz)->(X6 n.decls M p)->(0<=ZZ n M.vars s2)->(M.vars.length+4*s2.sz<=1000000000)->(0<=p/\p+4*s2.sz<=999999990)->Zk 151 [.p c 0,Yt n,YG s2] [.obj c [.h ra,.h rb,.h rc,.h rd,.h re,.h rf,Z4 ln],rV ra M.vars,rV rb M.own,rV rc M.par,rV rd M.con,rV re M.fst,rV rf M.tok] (fun r h=>(∃(wa:Hd) (wb:Hd) (wc:Hd) (wd:Hd) (we:Hd) (wf:Hd) (M':Zo),r=.b true/\h=[.obj c [.h wa,.h wb,.h wc,.h wd,.h we,.h wf,Z4 ln],rV wa M'.vars,rV wb M'.own,rV wc M'.par,rV wd M'.con,rV we M'.fst,rV wf M'.tok]/\WI n ln M s2=some M')∨(r=.b false/\h=[]/\WI n ln M s2=none))):Zk 170 [.p c 0,Yt n,Y9 b,.i mm] [.obj c [.h ga,.h gb,.h gc,.h gd,.h ge,.h gf,Z4 ln],rV ga L.vars,rV gb L.own,rV gc L.par,rV gd L.con,rV ge L.fst,rV gf L.tok] (fun r h=>(∃(wa:Hd) (wb:Hd) (wc:Hd) (wd:Hd) (we:Hd) (wf:Hd) (L':Zo),r=.b true/\h=[.obj c [.h wa,.h wb,.h wc,.h wd,.h we,.h wf,Z4 ln],rV wa L'.vars,rV wb L'.own,rV wc L'.par,rV wd L'.con,rV we L'.fst,rV wf L'.tok]/\Wh n ln L mm b=some L')∨(r=.b false/\h=[]/\Wh n ln L mm b=none)):=by
 have hbz:=b.sz_eq
 obtain ⟨vs,rt,hvs,hres,hrt⟩:=C9 ht
 have hri:=KU hres
 have Xu:=To b
 refine ZG 45 Tryz.func170 (ar (iA (YY n) fun b1=>iA (Xx b) fun b2=>?_))
 refine Z0 (Yn (ab 0 (Y2 (fun fz gz m F h=>∃(k:Nat) (q2:Int) (L2:Zo) (ka:Hd) (kb:Hd) (kc:Hd) (kd:Hd) (ke:Hd) (kf:Hd),(k<=b.steps.length)/\(X6 n.decls L2 q2)/\(0<=q2/\q2+4*Yj (b.steps.drop k)<=999999990)/\(L2.vars.length+4*Yj (b.steps.drop k)<=1000000000)/\(Xi n (b.steps.drop k) L2.vars=some vs)/\(Xt n ln L2 (b.steps.drop k)=Xt n ln L b.steps)/\(L.vars.length<=L2.vars.length)/\F=sF [0,3,5,6] fz [(9,.i k)]/\h=[Ze gz 0,Ze gz 1,.obj c [.h ka,.h kb,.h kc,.h kd,.h ke,.h kf,Z4 ln],rV ka L2.vars,rV kb L2.own,rV kc L2.par,rV kd L2.con,rV ke L2.fst,rV kf L2.tok]/\m=b.steps.length-k) _ _ _ ⟨0,q,L,ga,gb,gc,gd,ge,gf,ob,hk,(by rw [KM];omega),(by rw [KM];omega),hvs,rfl,om,rfl,rfl,rfl⟩ (ZF 9 (Yb fl)) ?_)))
 rintro m F h ⟨k,q2,L2,ka,kb,kc,kd,ke,kf,Yg,Zj,Zw,Yy,XW,Tz,Ie,rfl,rfl,rfl⟩
 refine Yk 3 [0] (iw (VY b.steps) (Y7 ((k:Int)<(b.steps.length:Int)) (fun Za=>?_) (fun Za=>?_)))
 ·obtain ⟨s1,hs1⟩:=Zu b.steps k om
  have hss:=A1 hs1
  have hdr:=Y6 hs1
  have hz:Yj (b.steps.drop k)=s1.sz+Yj (b.steps.drop (k+1)):=by rw [hdr,Yj]
  rw [hdr] at XW Tz
  obtain ⟨g1,g2⟩:=CH XW
  refine ak (aq (ab 1 (aD 9 (ZI 4 9 [0,1,2,3,4] [1,0] (dx 5 (Zm none (k:Int) 5 (VS hs1)) (Zi 2 3 [6] (Z9 7 (dc 7 [2,2,2,2,2,2,2] [] [] (ih s1 c ka kb kc kd ke kf L2 q2 ob Zj g1 om om) ?_))))))))
  rintro _ _ (⟨wa1,wb1,wc1,wd1,we1,wf1,M'1,rfl,rfl,ZY⟩|⟨rfl,rfl,Yd⟩)
  ·have hP:=ZY
   have kx:=Fa hn Zj Zw.1 g1 hP
   exact Zi 0 1 [8] (de (WC (ak (az (Z2 1 (ZJ k (Z0 (ZK ⟨k+1,(q2+4*s1.sz),M'1,wa1,wb1,wc1,wd1,we1,wf1,ob,kx.1,om,(by rw [kx.2];have:=EY n L2.vars s1;omega),(by rw [kx.2];exact g2),(by rw [<-Tz,Xt,hP];rfl),(by rw [kx.2];have:=EY n L2.vars s1;omega),rfl,rfl,rfl⟩ (wk [7,7,0,0,0,0,0,0,0] (ZM k fl))))))))))
  have hP:=Yd
  exact Zi 0 1 [8] (de (We (ar (Zp (r1 [] (.inr ⟨rfl,rfl,(by rw [KV,<-Tz,Xt,hP];rfl)⟩))))))
 rw [Xq om] at XW Tz
 have hvv:L2.vars=vs:=by rw [Xi] at XW;exact UT XW
 have hB:Wh n ln L mm b=Ud mm b.result L2:=by rw [KV,<-Tz,Xt];rfl
 obtain ⟨xr,hxr⟩:=Zu L2.vars b.result.toNat (by rw [hvv];omega)
 have hgr:=VM hxr
 have hrl:0<=b.result/\b.result<L2.vars.length:=by rw [hvv];omega
 rw [Xi] at XW
 refine ax 0 (aq (aD 16 (ZI 10 16 [0,1,2,3,4,5] [2,0] (dx 6 (Wu 3 ka L2.vars b.result b.result.toNat (hq:=rfl)) (Ui 7 (U9 3 ka L2.vars b.result.toNat xr hxr) (Zi 6 8 [8,9] (db (b:=(xr != 0)) 35 (fun Zb=>?_) (fun Zb=>?_))))))))
 ·have YI:xr≠0:=(Y4).1 Zb
  refine ZI 3 6 [10,11,12] [0] (Z9 13 (dc 13 [2,2,2,2,2,2,2] [] [] (GW c ka kb kc kd ke kf L2 ln b.result (hlk:=Zj.len) (hq:=(fun y hy=>⟨Zj.nn y hy,by have:=Zj.bd y hy;omega⟩))) ?_))
  rintro _ _ (⟨wa2,wb2,wc2,wd2,we2,wf2,L'1,rfl,rfl,YS⟩|⟨rfl,rfl,Xk⟩)
  ·have hE:=hB.trans (Z7p hgr (by assumption) YS)
   have kx:=Zj.take YS
   have hxv:L'1.vars.length=L2.vars.length:=by rw [(KH YS).2.1]
   refine Zi 0 2 [14,15] (de (WC (ak (Y0 2 (ic [0,0,0,0,0,0,0] (LH c wa2 wb2 wc2 wd2 we2 wf2 L'1 ln mm (hlk:=(by first|exact kx.len|exact Zj.len)) (hlb:=om) (hm:=om)) ?_)))))
   rintro _ _ (⟨wa3,wb3,wc3,wd3,we3,wf3,L'2,rfl,rfl,XZ⟩|⟨rfl,rfl,Wy⟩)
   ·exact Zp (r1 [0,0,0,0,0,0,0] (.inl ⟨wa3,wb3,wc3,wd3,we3,wf3,L'2,rfl,rfl,(by first|exact hE|(rw [hE];exact XZ)|(rw [hB,Ec hgr (by assumption)];exact XZ))⟩))
   exact Zp (r1 [] (.inr ⟨rfl,rfl,(by first|exact hE|(rw [hE];exact Wy)|(rw [hB,Ec hgr (by assumption)];exact Wy))⟩))
  have hE:=hB.trans (Z7o hgr (by assumption) Xk)
  exact Zi 0 2 [14,15] (de (We (ar (Zp (r1 [] (.inr ⟨rfl,rfl,(by first|exact hE|(rw [hE];exact Xk)|(rw [hB,Ec hgr (by assumption)];exact Xk))⟩))))))
 have WW:¬(xr≠0):=Y8 Y4 Zb
 refine Zi 0 6 [10,11,12,13,14,15] (de (WC (ak (Y0 2 (ic [2,2,2,2,2,2,2] (LH c ka kb kc kd ke kf L2 ln mm (hlk:=(by first|exact kx.len|exact Zj.len)) (hlb:=om) (hm:=om)) ?_)))))
 rintro _ _ (⟨wa4,wb4,wc4,wd4,we4,wf4,L'3,rfl,rfl,Vt⟩|⟨rfl,rfl,T2⟩)
 ·exact Zp (r1 [0,0,0,0,0,0,0] (.inl ⟨wa4,wb4,wc4,wd4,we4,wf4,L'3,rfl,rfl,(by first|exact hE|(rw [hE];exact Vt)|(rw [hB,Ec hgr (by assumption)];exact Vt))⟩))
 exact Zp (r1 [] (.inr ⟨rfl,rfl,(by first|exact hE|(rw [hE];exact T2)|(rw [hB,Ec hgr (by assumption)];exact T2))⟩))
theorem Ry (n:Zl) (ln:LI) (hn:X4 n) (hln:ln.length<=4294967296) (m:Nat):∀(b2:Z7) (c:Nat) (ra:Hd) (rb:Hd) (rc:Hd) (rd:Hd) (re:Hd) (rf:Hd) (M:Zo) (mm:Nat) (p:Int),(b2.sz<m+1)->(X6 n.decls M p)->(0<=YR n M.vars b2)->(mm<=M.vars.length)->(M.vars.length+4*b2.sz<=1000000000)->(0<=p/\p+4*b2.sz<=999999990)->Zk 170 [.p c 0,Yt n,Y9 b2,.i mm] [.obj c [.h ra,.h rb,.h rc,.h rd,.h re,.h rf,Z4 ln],rV ra M.vars,rV rb M.own,rV rc M.par,rV rd M.con,rV re M.fst,rV rf M.tok] (fun r h=>(∃(wa:Hd) (wb:Hd) (wc:Hd) (wd:Hd) (we:Hd) (wf:Hd) (M':Zo),r=.b true/\h=[.obj c [.h wa,.h wb,.h wc,.h wd,.h we,.h wf,Z4 ln],rV wa M'.vars,rV wb M'.own,rV wc M'.par,rV wd M'.con,rV we M'.fst,rV wf M'.tok]/\Wh n ln M mm b2=some M')∨(r=.b false/\h=[]/\Wh n ln M mm b2=none)):=by
 induction m with
 | zero=>intro b c ga gb gc gd ge gf L mm q h;have:=b.sz_pos;omega
 | succ m ih=>
  intro b c ga gb gc gd ge gf L mm q h1 hk ht hm hb hp
  exact Zd5 c ga gb gc gd ge gf n b L ln q mm hn hk ht hm hb hp hln fun s c ga gb gc gd ge gf L q h2 hk ht hb hp=>RA c ga gb gc gd ge gf n s L ln q hn hk ht hb hp hln
   fun b2 c ga gb gc gd ge gf L mm q h3 hk ht hm hb hp=>ih b2 c ga gb gc gd ge gf L mm q om hk ht hm hb hp
theorem Zdb (n:Zl) (ln:LI) (hn:X4 n) (hln:ln.length<=4294967296) (m:Nat):∀(s2:Z6) (c:Nat) (ra:Hd) (rb:Hd) (rc:Hd) (rd:Hd) (re:Hd) (rf:Hd) (M:Zo) (p:Int),(s2.sz<m+1)->(X6 n.decls M p)->(0<=ZZ n M.vars s2)->(M.vars.length+4*s2.sz<=1000000000)->(0<=p/\p+4*s2.sz<=999999990)->Zk 151 [.p c 0,Yt n,YG s2] [.obj c [.h ra,.h rb,.h rc,.h rd,.h re,.h rf,Z4 ln],rV ra M.vars,rV rb M.own,rV rc M.par,rV rd M.con,rV re M.fst,rV rf M.tok] (fun r h=>(∃(wa:Hd) (wb:Hd) (wc:Hd) (wd:Hd) (we:Hd) (wf:Hd) (M':Zo),r=.b true/\h=[.obj c [.h wa,.h wb,.h wc,.h wd,.h we,.h wf,Z4 ln],rV wa M'.vars,rV wb M'.own,rV wc M'.par,rV wd M'.con,rV we M'.fst,rV wf M'.tok]/\WI n ln M s2=some M')∨(r=.b false/\h=[]/\WI n ln M s2=none)):=by
 intro s c ga gb gc gd ge gf L q h2 hk ht hb hp
 exact RA c ga gb gc gd ge gf n s L ln q hn hk ht hb hp hln fun b2 c ga gb gc gd ge gf L mm q h3 hk ht hm hb hp=>Ry n ln hn hln m b2 c ga gb gc gd ge gf L mm q om hk ht hm hb hp
theorem Zd4 (c:Nat) (ra:Hd) (rb:Hd) (rc:Hd) (rd:Hd) (re:Hd) (rf:Hd) (n:Zl) (b2:Z7) (M:Zo) (ln:LI) (mm:Nat) (p:Int) (hn:X4 n) (hln:ln.length<=4294967296) (hk:X6 n.decls M p) (ht:0<=YR n M.vars b2) (hm:mm<=M.vars.length) (hb:M.vars.length+4*b2.sz<=1000000000) (hp:0<=p/\p+4*b2.sz<=999999990):Zk 170 [.p c 0,Yt n,Y9 b2,.i mm] [.obj c [.h ra,.h rb,.h rc,.h rd,.h re,.h rf,Z4 ln],rV ra M.vars,rV rb M.own,rV rc M.par,rV rd M.con,rV re M.fst,rV rf M.tok] (fun r h=>(∃(wa:Hd) (wb:Hd) (wc:Hd) (wd:Hd) (we:Hd) (wf:Hd) (M':Zo),r=.b true/\h=[.obj c [.h wa,.h wb,.h wc,.h wd,.h we,.h wf,Z4 ln],rV wa M'.vars,rV wb M'.own,rV wc M'.par,rV wd M'.con,rV we M'.fst,rV wf M'.tok]/\Wh n ln M mm b2=some M')∨(r=.b false/\h=[]/\Wh n ln M mm b2=none)):=Ry n ln hn hln b2.sz b2 c ra rb rc rd re rf M mm p om hk ht hm hb hp
theorem Zda (c:Nat) (ra:Hd) (rb:Hd) (rc:Hd) (rd:Hd) (re:Hd) (rf:Hd) (n:Zl) (s2:Z6) (M:Zo) (ln:LI) (p:Int) (hn:X4 n) (hln:ln.length<=4294967296) (hk:X6 n.decls M p) (ht:0<=ZZ n M.vars s2) (hb:M.vars.length+4*s2.sz<=1000000000) (hp:0<=p/\p+4*s2.sz<=999999990):Zk 151 [.p c 0,Yt n,YG s2] [.obj c [.h ra,.h rb,.h rc,.h rd,.h re,.h rf,Z4 ln],rV ra M.vars,rV rb M.own,rV rc M.par,rV rd M.con,rV re M.fst,rV rf M.tok] (fun r h=>(∃(wa:Hd) (wb:Hd) (wc:Hd) (wd:Hd) (we:Hd) (wf:Hd) (M':Zo),r=.b true/\h=[.obj c [.h wa,.h wb,.h wc,.h wd,.h we,.h wf,Z4 ln],rV wa M'.vars,rV wb M'.own,rV wc M'.par,rV wd M'.con,rV we M'.fst,rV wf M'.tok]/\WI n ln M s2=some M')∨(r=.b false/\h=[]/\WI n ln M s2=none)):=Zdb n ln hn hln s2.sz s2 c ra rb rc rd re rf M p om hk ht hb hp
theorem Z1c (rt:Yh) (hp:rt.params.length<=1000000:=by exact ob) (hl:rt.lent.length<=4294967296:=by exact ob):Zk 150 [K5 rt] [] (fun r h=>∃(c:Nat) (wa:Hd) (wb:Hd) (wc:Hd) (wd:Hd) (we:Hd) (wf:Hd),r=.p c 0/\h=[.obj c [.h wa,.h wb,.h wc,.h wd,.h we,.h wf,Z4 rt.lent],rV wa ((U3 rt).vars),rV wb ((U3 rt).own),rV wc ((U3 rt).par),rV wd ((U3 rt).con),rV we ((U3 rt).fst),rV wf ((U3 rt).tok)]):=by
 refine ZG 45 Tryz.func150 (ar (iA (TX rt) fun b1=>Z0 (Zv 2 [0] (ic [] (T4 rt.lent) ?_))))
 rintro _ _ ⟨v1,rfl,rfl⟩
 refine ZT 1 [(8,.agg [nl,nl,nl,nl,nl,nl,Z4 rt.lent])] (iA [nl,nl,nl,nl,nl,nl,Z4 rt.lent] fun b2=>?_)
 refine Wb (Z27 0 b2 [nl,nl,nl,nl,nl,nl,Z4 rt.lent] [.h hN,.h hN,.h hN,.h hN,.h hN,.h hN,Z4 rt.lent] (.cons (Zd.hd (v:=hN)) (.cons (Zd.hd (v:=hN)) (.cons (Zd.hd (v:=hN)) (.cons (Zd.hd (v:=hN)) (.cons (Zd.hd (v:=hN)) (.cons (Zd.hd (v:=hN)) (.cons (lr _) .nil)))))))) (Wb (A3) (Wb (A3) (Wb (A3) (Wb (A3) (Wb (A3) (Wb (A3) (Z0 (Yn (ab 0 (Y2 (fun fz gz m F h=>∃(k:Nat) (L2:Zo) (ka:Hd) (kb:Hd) (kc:Hd) (kd:Hd) (ke:Hd) (kf:Hd),(k<=rt.params.length)/\(WH L2)/\(L2.vars.length=k)/\(KC rt.lent (rt.params.drop k) k L2=U3 rt)/\F=sF [1,3] fz [(4,.i k)]/\h=[.obj b2 [.h ka,.h kb,.h kc,.h kd,.h ke,.h kf,Z4 rt.lent],Ze gz 8,rV ka L2.vars,rV kb L2.own,rV kc L2.par,rV kd L2.con,rV ke L2.fst,rV kf L2.tok]/\m=rt.params.length-k) _ _ _ ⟨0,(Zo.mk [] [] [] [] [] []),hN,hN,hN,hN,hN,hN,ob,⟨rfl,rfl,rfl,rfl,rfl⟩,rfl,rfl,rfl,rfl,rfl⟩ (wk [6,7,0,0,0,0,0,0] (Yb fl) (e:=(rc (rc (rv (xs:=[]) ob (rv (xs:=[]) ob (rv (xs:=[]) ob (rv (xs:=[]) ob (rv (xs:=[]) ob (rv (xs:=[]) ob rz)))))))))) ?_))))))))))
 rintro m F h ⟨k,L2,ka,kb,kc,kd,ke,kf,Yg,Zj,Zw,Yy,rfl,rfl,rfl⟩
 refine Yk 3 [1] (iw (Ya rt.params) (Y7 ((k:Int)<(rt.params.length:Int)) (fun Za=>?_) (fun Za=>?_)))
 ·refine ak (aq (ab 1 (Zv 3 [1] ?_)))
  obtain ⟨x1,Z3⟩:=Zu rt.params k om
  refine Zr (Zm none (k:Int) 1 (Y1 Z3)) (Xw [1,3,4] [(29,.b ((x1 != 0)&&(!(decide ((k:Int)∈rt.lent)))))] (fun gz=>gz) ?_ ?_)
  ·refine Z2 3 (ib (b:=(x1 != 0)) 23 (fun Zb=>?_) (fun Zb=>?_))
   ·exact ZL 3 [1] (Zx [] (Tn rt.lent (k:Int)) (Z0 (ZF 8 (Zt (!(decide ((k:Int)∈rt.lent))) Zb fl))))
   exact Z0 (ZF 8 (Zt false Zb fl))
  refine ac ((x1 != 0)&&(!(decide ((k:Int)∈rt.lent)))) (p:=(x1≠0)/\(¬((k:Int)∈rt.lent))) (YJ Y4 (Yl dq)) (fun Zg=>?_) (fun Zg=>?_)
  ·refine az (ZL 4 [1] (Zr (Zm none (k:Int) 1 (Y1 Z3)) (Z2 1 (ic [0,1,1,1,1,1,1] (J3 b2 ka kb kc kd ke kf L2 rt.lent x1 1 (-1) (hlk:=Zj)) ?_))))
   rintro _ _ ⟨wa1,wb1,wc1,wd1,we1,wf1,rfl⟩
   exact ie (az (Z2 1 (ZJ k (Z0 (ZK ⟨k+1,(L2.grow x1 1 (-1)),wa1,wb1,wc1,wd1,we1,wf1,ob,(WH.grow Zj),(by simp [Zo.grow];omega),(by rw [Y6 Z3,KC] at Yy;first|(rw [Zc Zg] at Yy;exact Yy)|(rw [Z5 Zg] at Yy;exact Yy)),rfl,rfl,rfl⟩ (wk [0,6,0,0,0,0,0,0] (ZM k fl)))))))
  refine az (ZL 4 [1] (Zr (Zm none (k:Int) 1 (Y1 Z3)) (Z2 1 (ic [0,1,1,1,1,1,1] (J3 b2 ka kb kc kd ke kf L2 rt.lent x1 0 (-1) (hlk:=Zj)) ?_))))
  rintro _ _ ⟨wa2,wb2,wc2,wd2,we2,wf2,rfl⟩
  exact ie (az (Z2 1 (ZJ k (Z0 (ZK ⟨k+1,(L2.grow x1 0 (-1)),wa2,wb2,wc2,wd2,we2,wf2,ob,(WH.grow Zj),(by simp [Zo.grow];omega),(by rw [Y6 Z3,KC] at Yy;first|(rw [Zc Zg] at Yy;exact Yy)|(rw [Z5 Zg] at Yy;exact Yy)),rfl,rfl,rfl⟩ (wk [0,6,0,0,0,0,0,0] (ZM k fl)))))))
 refine ax 0 (Zy ?_)
 have hNl:L2=U3 rt:=by rw [<-Yy,Xq om];rfl
 exact ZC (r1 [0,1,1,1,1,1,1] ⟨b2,ka,kb,kc,kd,ke,kf,rfl,rfl⟩ (eq:=(rc (rv (xs:=L2.vars) (by rw [hNl]) (rv (xs:=L2.own) (by rw [hNl]) (rv (xs:=L2.par) (by rw [hNl]) (rv (xs:=L2.con) (by rw [hNl]) (rv (xs:=L2.fst) (by rw [hNl]) (rv (xs:=L2.tok) (by rw [hNl]) rz)))))))))
theorem Zhw (n:Zl) (f:Nat) (rt:Yh) (hn:X4 n:=by exact ob) (hr:n.routines[f]? = some rt:=by exact ob) (ht:0<=YR n rt.params rt.body:=by exact ob) (hz:rt.body.sz<=100000000:=by exact ob):Zk 109 [Yt n,.i f] [] (Yr (.b (Tb n rt))):=by
 have hfl:=(Xs.1 hr).1
 have hpl:=hn.params_at hr
 have hll:=hn.lent_at hr
 obtain ⟨hk,hkv⟩:=H3 n.decls rt
 refine ZG 26 Tryz.func109 (ar (iA (YY n) fun b1=>Z0 (Zv 3 [0] (Zr (Zm none (f:Int) 5 (WV hr)) (Z2 1 (iA [nl,nl,.i 0,nl,.i 0] fun b2=>ZH 0 b2 (TX rt) (ie (Zv 1 [0] (ic [] (Z1c rt) ?_)))))))))
 rintro _ _ ⟨c1,wa1,wb1,wc1,wd1,we1,wf1,rfl,rfl⟩
 refine Z0 (Zv 6 [8,7,7] (iw (Ya rt.params) (ic [0,0,0,0,0,0,0] (Zd4 c1 wa1 wb1 wc1 wd1 we1 wf1 n rt.body (U3 rt) rt.lent rt.params.length 1 ob ob hk (by rw [hkv];exact ht) (by rw [hkv];omega) (by rw [hkv];omega) ob) ?_)))
 rintro _ _ (⟨wa2,wb2,wc2,wd2,we2,wf2,M'1,rfl,rfl,ZY⟩|⟨rfl,rfl,Yd⟩)
 ·have hB:=ZY
  obtain ⟨l1,l2⟩:=Z4t hn hk om (by rw [hkv];exact ht) (by rw [hkv];omega) hB
  refine Z2 2 (ic [0,0,0,0,0,0,0] (LH c1 wa2 wb2 wc2 wd2 we2 wf2 M'1 rt.lent 0 (hlk:=l1)) ?_)
  rintro _ _ (⟨wa3,wb3,wc3,wd3,we3,wf3,L'1,rfl,rfl,YI⟩|⟨rfl,rfl,YS⟩)
  ·exact Zp (ZW (.b true) (lb (by rw [Tb,hB];exact (Z68 YI).symm)))
  exact Zp (ZW (.b false) (lb (by rw [Tb,hB];exact (Z67 YS).symm)))
 have hB:=Yd
 exact Zp (ZW (.b false) (lb (by rw [Tb,hB])))
theorem Zhx (n:Zl) (hz:Vp n:=by exact ob):Zk 48 [Yt n] [] (Yr (.b (UJ n))):=by
 have hzl:=hz.len
 refine ZG 18 Tryz.func48 (ar (iA (YY n) fun b1=>Z0 (Yk 1 [0] (Zx [] (Z1h n) (YD (!V7 n) (p:=¬(V7 n=true)) (Yl Iff.rfl) (fun Za=>?_) (fun Za=>?_))))))
 ·exact ar (Zp (ZW (.b false) (lb (by first|rfl|omega|grind [UJ]))))
 have hV:V7 n=true:=Wf.1 Za
 obtain ⟨hok,hall⟩:=HD hz hV
 refine ak (Yn (ab 0 (Y2 (fun fz gz m F h=>∃(k:Nat),(k<=n.routines.length)/\(Qm n (n.routines.drop k)=Qm n n.routines)/\F=sF [1] fz [(3,.i k)]/\h=gz/\m=n.routines.length-k) _ _ _ ⟨0,ob,ob,rfl,rfl,rfl⟩ (wk [0] (Yb fl)) ?_)))
 rintro m F h ⟨k,Yg,Zj,rfl,rfl,rfl⟩
 refine Yk 3 [0] (iw (Ul n.routines) (Y7 ((k:Int)<(n.routines.length:Int)) (fun Zg=>?_) (fun Zg=>?_)))
 ·obtain ⟨rt,hrt⟩:=Zu n.routines k om
  have hrm:=Y3 hrt
  refine ak (aq (ab 1 (Zv 2 [0] (Zx [] (Zhw n k rt (hr:=hrt) (ht:=(hall rt hrm)) (hz:=(VH (hz.body rt hrm) om))) (YD (!Tb n rt) (p:=¬(Tb n rt=true)) (Yl Iff.rfl) (fun ZE=>?_) (fun ZE=>?_))))))
  ·refine Zy ?_
   rw [Y6 hrt] at Zj
   exact ZC (ZW (.b false) (lb (by first|rfl|omega|grind [Qm,UJ])))
  refine ak (az (Z2 1 (ZJ k (Z0 ?_))))
  have hdr:=Y6 hrt
  exact ZK ⟨k+1,ob,(by rw [hdr] at Zj;clear hdr ;grind [Qm]),rfl,rfl,rfl⟩ (wk [0] (ZM k fl))
 refine ax 0 (Zy ?_)
 try rw [Xq (xs:=n.routines) (k:=k) om] at Zj
 exact ZC (ZW (.b true) (lb (by first|rfl|omega|grind [Qm,UJ])))
end Go.Abs
