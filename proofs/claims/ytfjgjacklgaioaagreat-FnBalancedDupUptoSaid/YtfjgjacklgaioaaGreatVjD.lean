/-
  A part of the proofs of several laws (see the last file): no condition.
-/
import Derived.Test.YtfjgjacklgaioaaGreatVjC
set_option linter.all false
set_option linter.unusedVariables false
set_option linter.unusedSimpArgs false
set_option linter.unusedSectionVars false
set_option maxRecDepth 10000
set_option maxHeartbeats 4000000
namespace Go.Abs
open Go.Proofs
theorem OM (rd:Nat) (bs:LI) (p:Nat) (g:Wg) (gb:Nat) (rs:List Func) (vs:LI) (t:Int) (b:Nat) (ZL:∀z∈bs,0<=z/\z<=255) (hp:p+40000<=1000000000:=by exact ob) (hg:GP g:=by exact ob) (WA:g.funcs <+: rs:=by exact ob) (hv:vs.length+3*b<=900:=by exact ob) (hb:b<=20:=by exact ob):Zk 241 [.p rd 0,.agg (WF g gb),Z5 vs,.i t,.i b] [Yy rd bs p,XT gb rs] (fun r h=>∃(e:Z1) (p2:Nat),r=Y7 e/\h=[Yy rd bs p2,XT gb rs]/\GE g vs.length 30 e/\p<=p2/\p2<=p+40000):=by
 have CV:=F5 hb
 refine ZF 34 Tryz.func241 (ar (iA (WF g gb) fun b1=>iA [.i 0,.i 0,nl] fun b2=>ie (Zw 5 [1] (ic [2,2] (Ka rd bs p g gb rs vs t b (ZL:=ob)) ?_))))
 rintro _ _ ⟨e1,p21,rfl,rfl,ZX⟩
 have Xp:=ZX.1
 refine iA [.i 0,.i 0,nl] fun b3=>?_
 refine ZI 0 b3 (X3 e1) (ie (aq (ab 0 (Y6 (fun fz gz m F h=>∃(bq:Nat) (eQ:Z1) (pq:Nat),(GE g vs.length (bS bq) eQ)/\(bq<=b)/\(p<=pq/\pq+1900*bq<=p+1900*(b+1))/\F=sF [0,2,3,6,10,11] fz [(4,.i bq)]/\h=[.obj b3 (X3 eQ),Yy rd bs pq,Zc gz 2,Zc gz 3,Zc gz 4]/\m=bq+1) _ _ _ ⟨b,e1,p21,Xp,ob,ob,rfl,rfl,rfl⟩ (ZG 5 fl) ?_))))
 rintro m F h ⟨bq,eQ,pq,Yj,Zl,Zy,rfl,rfl,rfl⟩
 refine Yl 1 [0] (ic [] (OU eQ (hz:=(by have h1:=Yj.2;have h2:=(F5 (b:=bq) om).1;omega))) ?_)
 rintro _ _ ⟨w1,rfl,rfl,Yk⟩
 have E7:=Yk
 have hq20:=F5 (b:=bq) om
 have hq21:=F5 (b:=bq / 2) om
 have Xr:=Yj.2
 refine Xv [0,2,3,4,6,10,11] [(24,.b ((decide (w1<0))&&(decide ((bq:Int)>2))))] (fun gz=>gz) ?_ ?_
 ·refine Z2 2 (ib (b:=(decide (w1<0))) 21 (fun Zb=>?_) (fun Zb=>?_))
  ·exact Z0 (ZG 5 (Zt (decide ((bq:Int)>2)) Zb fl))
  exact Z0 (ZG 5 (Zt false Zb fl))
 refine ac ((decide (w1<0))&&(decide ((bq:Int)>2))) (p:=(w1<0)/\((bq:Int)>2)) (YL dq dq) (fun Za=>?_) (fun Za=>?_)
 ·refine ak (ab 1 (Ya 1 (Zo (C9 bq 2 om om) (Z0 (az (ZO 5 [4] (ic [1,1] (Ka rd bs pq g gb rs vs t (bq / 2) (ZL:=ob)) ?_)))))))
  rintro _ _ ⟨e2,p22,rfl,rfl,Xl⟩
  have Xp:=Xl.1
  exact ZI 2 b3 (X3 e2) (ie (ZK ⟨(bq / 2),e2,p22,Xp,ob,ob,rfl,rfl,rfl⟩ (ZG 5 (fc (x:=.i (bq / 2:Nat)) li fl))))
 exact ax 0 (Zw 1 [0] (ZI 3 b2 (X3 eQ) (ie (ZD (r3 [2,2] [Y7 eQ] [0] [(b2,b2)] ⟨eQ,pq,rfl,rfl,⟨⟨Yj.1,by omega⟩,by omega⟩⟩ (lr _))))))
theorem Z83 (rd:Nat) (bs:LI) (p:Nat) (t:Int) (ZL:∀z∈bs,0<=z/\z<=255) (hp:p+14<=1000000000:=by exact ob):Zk 274 [.p rd 0,.i t] [Yy rd bs p] (fun r h=>∃(e:Z1) (p2:Nat),r=Y7 e/\h=[Yy rd bs p2]/\(∀g:Wg,SE g 9 e)/\p<=p2/\p2<=p+14):=by
 refine ZF 45 Tryz.func274 (ar (iA [.i 0,.i 0,nl] fun b1=>ie (ar (iL (Yx []) 0 3 fun v1=>ZU 0 [(10,XH [])] (Zz [] (XX 6 0 []) (iA [.i 0,.i 0,nl] fun b2=>ZI 0 b2 (X3 (Z1.mk 6 0 [])) (ie (X9 (YH (t==3) Zq (fun Za=>?_) (fun Za=>?_))))))))))
 ·refine ar (iL (Yx []) 0 3 fun v2=>ZU 0 [(14,XH [])] (Zz [] (XX 6 2 []) (iA [.i 0,.i 0,nl] fun b3=>?_)))
  refine ZI 0 b3 (X3 (Z1.mk 6 2 [])) (ie (aD 9 (ZH 6 9 [0,1,4] [0,0] (J2 (fun fz gz F h=>∃(k1:Int) (b4:Nat),(Pk 9 k1)/\F=sF [0,4,6] fz [(7,.p b4 0)]/\h=[.obj b4 (X3 (Z1.mk 6 3 [Z1.mk 6 2 [],Z1.mk 0 k1 [],Z1.mk 6 2 []])),.obj rd [Uh bs,.i (p+1:Nat)],Zc gz 0,Zc gz 1,Zc gz 2,Zc gz 3,Zc gz 4]) ?_ ?_))))
  ·refine VN 2 7 ?_ ?_
   ·refine dc 2 [5] [0,0] [b3,b3] (Wn rd bs p 9 (ZL:=ob)) ?_
    rintro _ _ ⟨k1,rfl,rfl,ZX⟩
    have qhp1:=ZX.lt om
    refine VN 3 7 ?_ ?_
    ·refine Yo 3 [] [1,1] [b3,b3] (As k1) (VN 5 7 ?_ ?_)
     ·refine WK 5 [] [] [Y7 (Z1.mk 6 2 []),Y7 (Z1.mk 0 k1 []),Y7 (Z1.mk 6 2 [])] (Yx [Z1.mk 6 2 [],Z1.mk 0 k1 [],Z1.mk 6 2 []]) (XS [Z1.mk 6 2 [],Z1.mk 0 k1 [],Z1.mk 6 2 []]).symm 3 3 fun v3=>Yw 3 3 [] [(21,XH [Z1.mk 6 2 [],Z1.mk 0 k1 [],Z1.mk 6 2 []])] (VN 6 7 ?_ ?_)
      ·exact Yo 6 [] [] [] (XX 6 3 [Z1.mk 6 2 [],Z1.mk 0 k1 [],Z1.mk 6 2 []]) (Z9 7 (dA 7 [] [] [.i 0,.i 0,nl] fun b4=>Z9 8 (YK 8 0 [] [] b4 (X3 (Z1.mk 6 3 [Z1.mk 6 2 [],Z1.mk 0 k1 [],Z1.mk 6 2 []])) (de (ZP ⟨k1,b4,(by assumption),rfl,rfl⟩ (wk [0,1,1,1,1,1,1] fl))))))
      exact dA 7 [] [] [.i 0,.i 0,nl] fun b5=>Z9 6 (Yo 6 [] [] [] (XX 6 3 [Z1.mk 6 2 [],Z1.mk 0 k1 [],Z1.mk 6 2 []]) (Z9 8 (YK 8 0 [] [] b5 (X3 (Z1.mk 6 3 [Z1.mk 6 2 [],Z1.mk 0 k1 [],Z1.mk 6 2 []])) (de (ZP ⟨k1,b5,(by assumption),rfl,rfl⟩ (wk [0,1,1,1,1,1,1] fl))))))
     exact dA 7 [1,1] [b3,b3] [.i 0,.i 0,nl] fun b6=>Z9 5 (WK 5 [] [] [Y7 (Z1.mk 6 2 []),Y7 (Z1.mk 0 k1 []),Y7 (Z1.mk 6 2 [])] (Yx [Z1.mk 6 2 [],Z1.mk 0 k1 [],Z1.mk 6 2 []]) (XS [Z1.mk 6 2 [],Z1.mk 0 k1 [],Z1.mk 6 2 []]).symm 3 3 fun v4=>Yw 2 2 [] [(21,XH [Z1.mk 6 2 [],Z1.mk 0 k1 [],Z1.mk 6 2 []])] (Z9 6 (Yo 6 [] [] [] (XX 6 3 [Z1.mk 6 2 [],Z1.mk 0 k1 [],Z1.mk 6 2 []]) (Z9 8 (YK 8 1 [] [] b6 (X3 (Z1.mk 6 3 [Z1.mk 6 2 [],Z1.mk 0 k1 [],Z1.mk 6 2 []])) (de (ZP ⟨k1,b6,(by assumption),rfl,rfl⟩ (wk [0,1,1,1,1,1,1] fl))))))))
    exact dA 7 [1,1] [b3,b3] [.i 0,.i 0,nl] fun b7=>Z9 3 (Yo 3 [] [2,2] [b3,b3] (As k1) (Z9 5 (WK 5 [] [] [Y7 (Z1.mk 6 2 []),Y7 (Z1.mk 0 k1 []),Y7 (Z1.mk 6 2 [])] (Yx [Z1.mk 6 2 [],Z1.mk 0 k1 [],Z1.mk 6 2 []]) (XS [Z1.mk 6 2 [],Z1.mk 0 k1 [],Z1.mk 6 2 []]).symm 3 3 fun v5=>Yw 2 2 [] [(21,XH [Z1.mk 6 2 [],Z1.mk 0 k1 [],Z1.mk 6 2 []])] (Z9 6 (Yo 6 [] [] [] (XX 6 3 [Z1.mk 6 2 [],Z1.mk 0 k1 [],Z1.mk 6 2 []]) (Z9 8 (YK 8 1 [] [] b7 (X3 (Z1.mk 6 3 [Z1.mk 6 2 [],Z1.mk 0 k1 [],Z1.mk 6 2 []])) (de (ZP ⟨k1,b7,(by assumption),rfl,rfl⟩ (wk [0,1,1,1,1,1,1] fl))))))))))
   refine dA 7 [0,0] [b3,b3] [.i 0,.i 0,nl] fun b8=>Z9 2 (dc 2 [6] [1,1] [b3,b3] (Wn rd bs p 9 (ZL:=ob)) ?_)
   rintro _ _ ⟨k2,rfl,rfl,Yk⟩
   have qhp2:=Yk.lt om
   exact Z9 3 (Yo 3 [] [2,2] [b3,b3] (As k2) (Z9 5 (WK 5 [] [] [Y7 (Z1.mk 6 2 []),Y7 (Z1.mk 0 k2 []),Y7 (Z1.mk 6 2 [])] (Yx [Z1.mk 6 2 [],Z1.mk 0 k2 [],Z1.mk 6 2 []]) (XS [Z1.mk 6 2 [],Z1.mk 0 k2 [],Z1.mk 6 2 []]).symm 3 3 fun v6=>Yw 2 2 [] [(21,XH [Z1.mk 6 2 [],Z1.mk 0 k2 [],Z1.mk 6 2 []])] (Z9 6 (Yo 6 [] [] [] (XX 6 3 [Z1.mk 6 2 [],Z1.mk 0 k2 [],Z1.mk 6 2 []]) (Z9 8 (YK 8 2 [] [] b8 (X3 (Z1.mk 6 3 [Z1.mk 6 2 [],Z1.mk 0 k2 [],Z1.mk 6 2 []])) (de (ZP ⟨k2,b8,(by assumption),rfl,rfl⟩ (wk [0,1,1,1,1,1,1] fl))))))))))
  rintro F h ⟨k1,b4,ZX,rfl,rfl⟩
  have qhp1:=ZX.lt om
  refine aD 8 (ZH 5 8 [0,1,4] [0,2] (Z9 2 (dc 2 [1] [1,0] [b3,b4] (Wn rd bs (p+1) 9 (ZL:=ob)) ?_)))
  rintro _ _ ⟨k3,rfl,rfl,YG⟩
  have qhp3:=YG.lt om
  exact Z9 3 (Yo 3 [] [2,1] [b3,b4] (As k3) (Z9 5 (WK 5 [] [] [Y7 (Z1.mk 6 3 [Z1.mk 6 2 [],Z1.mk 0 k1 [],Z1.mk 6 2 []]),Y7 (Z1.mk 0 k3 []),Y7 (Z1.mk 6 2 [])] (Yx [Z1.mk 6 3 [Z1.mk 6 2 [],Z1.mk 0 k1 [],Z1.mk 6 2 []],Z1.mk 0 k3 [],Z1.mk 6 2 []]) (XS [Z1.mk 6 3 [Z1.mk 6 2 [],Z1.mk 0 k1 [],Z1.mk 6 2 []],Z1.mk 0 k3 [],Z1.mk 6 2 []]).symm 3 3 fun v7=>Yw 2 2 [] [(28,XH [Z1.mk 6 3 [Z1.mk 6 2 [],Z1.mk 0 k1 [],Z1.mk 6 2 []],Z1.mk 0 k3 [],Z1.mk 6 2 []])] (Z9 6 (Yo 6 [] [] [] (XX 6 3 [Z1.mk 6 3 [Z1.mk 6 2 [],Z1.mk 0 k1 [],Z1.mk 6 2 []],Z1.mk 0 k3 [],Z1.mk 6 2 []]) (Z9 7 (YK 7 7 [] [] b1 (X3 (Z1.mk 6 3 [Z1.mk 6 3 [Z1.mk 6 2 [],Z1.mk 0 k1 [],Z1.mk 6 2 []],Z1.mk 0 k3 [],Z1.mk 6 2 []])) (de (ZD (r3 [2] [Y7 (Z1.mk 6 3 [Z1.mk 6 3 [Z1.mk 6 2 [],Z1.mk 0 k1 [],Z1.mk 6 2 []],Z1.mk 0 k3 [],Z1.mk 6 2 []])] [0] [(b1,b1)] ⟨(Z1.mk 6 3 [Z1.mk 6 3 [Z1.mk 6 2 [],Z1.mk 0 k1 [],Z1.mk 6 2 []],Z1.mk 0 k3 [],Z1.mk 6 2 []]),(p+1)+1,rfl,rfl,⟨fun g=>SE.three (s1:=4) (s2:=1) (s3:=1) om om (SE.three (s1:=1) (s2:=1) (s3:=1) om om (SE.nil om om om) (SE.int om om) (SE.nil om om om) om) (SE.int om om) (SE.nil om om om) om,by omega⟩⟩ (lr _)))))))))))
 refine ak (Zw 1 [0] (iA [.i 0,.i 0,nl] fun b9=>ZI 0 b9 (X3 (Z1.mk 6 0 [])) (ie (YO 1 (ic [4] (Wn rd bs p 3 (ZL:=ob)) ?_)))))
 rintro _ _ ⟨k4,rfl,rfl,YR⟩
 have qhp4:=YR.lt om
 refine ia ((1+k4)) ((1)+(k4)) (Z0 (ab 0 (Y6 (fun fz gz m F h=>∃(j:Int) (eQ:Z1) (pq:Nat),(0<=j/\j<=3)/\(∀g:Wg,SE g (7-2*j.toNat) eQ)/\(p+1<=pq/\pq+4*j.toNat<=p+13)/\F=sF [0,4,8] fz [(9,.i j)]/\h=[Yy rd bs pq,.obj b9 (X3 eQ),Zc gz 4]/\m=j.toNat) _ _ _ ⟨(1+k4),(Z1.mk 6 0 []),p+1,ob,(fun g=>SE.nil om om om),ob,rfl,rfl,rfl⟩ (wk [0,0,2] fl) ?_)))
 rintro m F h ⟨j,eQ,pq,Yj,Zl,Zy,rfl,rfl,rfl⟩
 refine X9 (Y5 (j>0) (fun Zg=>?_) (fun Zg=>?_))
 ·refine ak (aq (ab 1 (aE 7 (ZH 5 7 [0,3] [1] (Z9 1 (dc 1 [0] [0] [b9] (OW rd bs pq (ZL:=ob)) ?_))))))
  rintro _ _ ⟨z1,rfl,rfl,Xl⟩
  have hz:=Xl
  exact Z9 2 (Yo 2 [] [1] [b9] (As z1) (Z9 4 (WK 4 [] [] [Y7 (Z1.mk 0 z1 []),Y7 eQ] (Yx [Z1.mk 0 z1 [],eQ]) (XS [Z1.mk 0 z1 [],eQ]).symm 2 3 fun v8=>Yw 2 2 [] [(42,XH [Z1.mk 0 z1 [],eQ])] (Z9 5 (Yo 5 [] [] [] (XX 6 1 [Z1.mk 0 z1 [],eQ]) (Z9 6 (YK 6 2 [] [] b9 (X3 (Z1.mk 6 1 [Z1.mk 0 z1 [],eQ])) (de (az (Z2 1 (ia ((j-1)) ((j)-(1)) (Z0 (ZK ⟨(j-1),(Z1.mk 6 1 [Z1.mk 0 z1 [],eQ]),pq+4,ob,(fun g=>SE.two om om (SE.int (q:=1) om om) (Zl g) om),ob,rfl,rfl,rfl⟩ (wk [2,0,1] fl))))))))))))))
 exact ax 0 (Zw 1 [1] (ZI 2 b1 (X3 eQ) (ie (ZD (r3 [1] [Y7 eQ] [0] [(b1,b1)] ⟨eQ,pq,rfl,rfl,⟨fun g=>(⟨(Zl g).1,by have:=(Zl g).2;omega⟩:SE g 9 _),by omega⟩⟩ (lr _))))))
theorem Z86 (rd:Nat) (bs:LI) (p:Nat) (g:Wg) (gb:Nat) (rs:List Func) (ZL:∀z∈bs,0<=z/\z<=255) (hp:p+1600<=1000000000:=by exact ob) (hg:GP g:=by exact ob) (WA:g.funcs <+: rs:=by exact ob):Zk 237 [.p rd 0,.agg (WF g gb)] [Yy rd bs p,XT gb rs] (fun r h=>∃(e:Z1) (p2:Nat),r=Y7 e/\h=[Yy rd bs p2,XT gb rs]/\GE g 0 200 e/\p<=p2/\p2<=p+1600):=by
 have hbv:=DH
 refine ZF 27 Tryz.func237 (ar (iA (WF g gb) fun b1=>iA [.i 0,.i 0,nl] fun b2=>ie (Ya 1 (iL (Z7 [1,1,3]) 3 1 fun v1=>ZU 0 [(8,Z5 [1,1,3])] (ic [3] (Ue rd bs p [1,1,3] (ZL:=ob)) ?_)))))
 rintro _ _ ⟨z1,rfl,rfl,ZX⟩
 have hz:=Bp (a:=1) (b:=3) ZX (by decide)
 refine Z0 (Zw 3 [3] (iL (Z7 [z1]) 1 1 fun v2=>ZU 0 [(13,Z5 [z1])] (ic [1,4] (Ka rd bs (p+1) g gb rs [z1] 0 16 (ZL:=ob) (hv:=(by simp))) ?_)))
 rintro _ _ ⟨e1,p21,rfl,rfl,Yk⟩
 have Xp:=Yk.1
 have Kb:=Yk.2
 rw [hbv.2.2.2.1] at Xp
 refine iA [.i 0,.i 0,nl] fun b3=>ZI 0 b3 (X3 e1) (ie (YO 1 (ic [1] (Wn rd bs p21 3 (ZL:=ob)) ?_)))
 rintro _ _ ⟨k1,rfl,rfl,YG⟩
 have qhp3:=YG.lt om
 refine Z0 (XW (fun fz gz F h=>∃(eQ:Z1),(GE g 1 151 eQ)/\F=sF [0,4,5,6] fz []/\h=[Zc gz 0,.obj b3 (X3 eQ),Zc gz 2,Zc gz 5]) ?_ ?_)
 ·refine ac (k1==0) Zq (fun Za=>?_) (fun Za=>?_)
  ·exact az (ZO 1 [1] (UX [Y7 e1] (Yx [e1]) (XS [e1]).symm 1 3 fun v3=>ZU 0 [(19,XH [e1])] (Zz [] (XX 5 0 [e1]) (ZI 2 b3 (X3 (Z1.mk 5 0 [e1])) (ie (ZP ⟨(Z1.mk 5 0 [e1]),(GE.one om om Xp om),rfl,rfl⟩ (wk [2,0,1,3] fl)))))))
  exact ak (ZP ⟨e1,(GE.le Xp om),rfl,rfl⟩ (wk [0,0,0,2] fl))
 rintro F h ⟨eQ,J7,rfl,rfl⟩
 refine aD 7 (ZH 4 7 [0,1,3] [1] (Z9 2 (dc 2 [0] [0] [b3] (Z83 rd bs (p21+1) z1 (ZL:=ob)) ?_)))
 rintro _ _ ⟨e2,p22,rfl,rfl,YR⟩
 have hli:=YR.1
 exact Z9 4 (WK 4 [] [] [Y7 e2,Y7 eQ] (Yx [e2,eQ]) (XS [e2,eQ]).symm 2 3 fun v4=>Yw 2 2 [] [(25,XH [e2,eQ])] (Z9 5 (Yo 5 [] [] [] (XX 13 0 [e2,eQ]) (Z9 6 (YK 6 4 [] [] b2 (X3 (Z1.mk 13 0 [e2,eQ])) (de (ZD (r3 [2,3] [Y7 (Z1.mk 13 0 [e2,eQ])] [0] [(b2,b2)] ⟨(Z1.mk 13 0 [e2,eQ]),p22,rfl,rfl,⟨GE.letS ((hli g).ge (X7 _)) J7 om,by omega⟩⟩ (lr _)))))))))
theorem Z8e (rd:Nat) (bs:LI) (p:Nat) (g:Wg) (gb:Nat) (rs:List Func) (f:Func) (i:Int) (w:Int) (ZL:∀z∈bs,0<=z/\z<=255) (hp:p+1000<=1000000000:=by exact ob) (hg:GP g:=by exact ob) (WA:g.funcs <+: rs:=by exact ob) (hi:0<=i:=by exact ob) (hf:g.funcs[i.toNat]? = some f:=by exact ob) (hw:0<=w/\w<f.params.length:=by exact ob):Zk 238 [.p rd 0,.agg (WF g gb),.i i,.i w] [Yy rd bs p,XT gb rs] (fun r h=>∃(e:Z1) (p2:Nat),r=Y7 e/\h=[Yy rd bs p2,XT gb rs]/\GE g f.params.length 200 e/\p<=p2/\p2<=p+1000):=by
 obtain ⟨hil,_⟩:=Xq.1 hf
 have hgl:=hg.len
 have hso:=(hg.sigs f (ZW hf)).bd
 have hbv:=DH
 refine ZF 136 Tryz.func238 (ar (iA (WF g gb) fun b1=>iA [.i 0,.i 0,nl] fun b2=>ie (Zw 3 [1] (Zo (Ww gb g.funcs.length 4 i.toNat 5 i) (Z2 1 (V8 (VA 3 gb 4 4 5 (i.toNat * 5+0) (Zp (Xz rs)) [Z5 f.params] 31 (Z5 f.params) (UW WA hf 0 rfl (Vn rfl))) (Z0 (Ya 1 (iw (Yf f.params) (Z0 (Ya 1 (iL (Z7 [0,1]) 2 1 fun v1=>ZU 0 [(26,Z5 [0,1])] (ic [] (Kn f.params [0,1]) ?_)))))))))))))
 rintro _ _ ⟨v2,rfl,rfl⟩
 refine Z0 (ar (iL (Yx []) 0 3 fun v3=>?_))
 refine Z0 (Yi (ab 0 (Y6 (fun fz gz m F h=>∃(k:Nat) (ys:List Z1) (u:Value) (pq:Nat),(k<=f.params.length)/\(ys.length=k)/\(∀e∈ys,GE g (f.params.length+2) 3 e)/\(p<=pq/\pq<=p+k)/\F=sF [0,2,3,5,8,9,10] fz [(11,Z5 (f.params++[0,1])),(12,QK ys u),(13,.i k)]/\h=[Zc gz 3,Zc gz 4,Yy rd bs pq,Zc gz 6,.tail u 3]/\m=f.params.length-k) _ _ _ ⟨0,[],v3,p,ob,ob,(fun e he=>by cases he),ob,rfl,rfl,rfl⟩ (wk [3,3,3,3,0] (fc (x:=ZQ (f.params++[0,1]) v2) (Ze.forget _ _) (fr (Yd fl)))) ?_)))
 rintro m F h ⟨k,ys,u,pq,Yj,Zl,Zy,Yv,rfl,rfl,rfl⟩
 refine X9 (Y5 ((k:Int)<(f.params.length:Int)) (fun Za=>?_) (fun Za=>?_))
 ·refine ak (aq (ab 1 (ar (YH ((k:Int)==w) Zq (fun Zg=>?_) (fun Zg=>?_)))))
  ·exact az (Z2 2 (ia (((f.params.length+1:Nat):Int)) (((f.params.length:Int))+(1)) (Zz [] (Qp ((f.params.length+1:Nat):Int)) (UX [Y7 (Z1.mk 12 ((f.params.length+1:Nat):Int) [])] (Yx [(Z1.mk 12 ((f.params.length+1:Nat):Int) [])]) (XS [(Z1.mk 12 ((f.params.length+1:Nat):Int) [])]).symm 1 3 fun v4=>ZU 0 [(41,XH [(Z1.mk 12 ((f.params.length+1:Nat):Int) [])])] (ip 5 (Yx (ys++[(Z1.mk 12 ((f.params.length+1:Nat):Int) [])])) (Yx ys) (Yx [(Z1.mk 12 ((f.params.length+1:Nat):Int) [])]) u none 3 (Tq _) (Tq _) (JV _) (by simp<;>omega) (by simp [JU,Yx]) fun v5=>Z0 (az (Z2 1 (ZJ k (Z0 (ZK ⟨k+1,(ys++[(Z1.mk 12 ((f.params.length+1:Nat):Int) [])]),v5,pq,ob,ob,(XJ Zy (GE.var om om om)),ob,rfl,rfl,rfl⟩ (wk [2,2,2,2,0] (fw (ZM k fl)))))))))))))
  refine aq (XW (fun fz gz F h=>∃(wb:Bool) (p5:Nat),(pq<=p5/\p5<=pq+1)/\F=sF [0,2,3,5,8,9,10,11,12,13] fz [(52,.b wb)]/\h=[Zc gz 0,Zc gz 1,Yy rd bs p5,Zc gz 3,Zc gz 4]) ?_ ?_)
  ·refine az (Z2 2 ?_)
   obtain ⟨x1,Z3⟩:=Zs f.params k om
   refine Zo (Zj none (k:Int) 1 (Y3 Z3)) (Z2 3 (ib (b:=(x1==0)) 48 (fun Zb=>?_) (fun Zb=>?_)))
   ·refine Z2 1 (ic [2] (Wn rd bs pq 2 (ZL:=ob)) ?_)
    rintro _ _ ⟨k1,rfl,rfl,Yk⟩
    have qhp2:=Yk.lt om
    exact Z0 (ZP ⟨(k1==0),pq+1,om,rfl,rfl⟩ (wk [1,1,0,0,0] fl))
   exact Z0 (ZP ⟨false,pq,ob,rfl,rfl⟩ (ZG 5 fl))
  rintro F h ⟨wb,p5,kR10_0,rfl,rfl⟩
  refine ac wb Iff.rfl (fun ZC=>?_) (fun ZC=>?_)
  ·exact az (Z2 2 (Zz [] (Qp (k:Int)) (Z2 1 (Zz [] (Qp (f.params.length:Int)) (UX [Y7 (Z1.mk 12 (k:Int) []),Y7 (Z1.mk 12 (f.params.length:Int) [])] (Yx [(Z1.mk 12 (k:Int) []),(Z1.mk 12 (f.params.length:Int) [])]) (XS [(Z1.mk 12 (k:Int) []),(Z1.mk 12 (f.params.length:Int) [])]).symm 2 3 fun v6=>ZU 0 [(58,XH [(Z1.mk 12 (k:Int) []),(Z1.mk 12 (f.params.length:Int) [])])] (Zz [] (XX 1 0 [(Z1.mk 12 (k:Int) []),(Z1.mk 12 (f.params.length:Int) [])]) (UX [Y7 (Z1.mk 1 0 [(Z1.mk 12 (k:Int) []),(Z1.mk 12 (f.params.length:Int) [])])] (Yx [(Z1.mk 1 0 [(Z1.mk 12 (k:Int) []),(Z1.mk 12 (f.params.length:Int) [])])]) (XS [(Z1.mk 1 0 [(Z1.mk 12 (k:Int) []),(Z1.mk 12 (f.params.length:Int) [])])]).symm 1 3 fun v7=>ZU 0 [(60,XH [(Z1.mk 1 0 [(Z1.mk 12 (k:Int) []),(Z1.mk 12 (f.params.length:Int) [])])])] (ip 6 (Yx (ys++[(Z1.mk 1 0 [(Z1.mk 12 (k:Int) []),(Z1.mk 12 (f.params.length:Int) [])])])) (Yx ys) (Yx [(Z1.mk 1 0 [(Z1.mk 12 (k:Int) []),(Z1.mk 12 (f.params.length:Int) [])])]) u none 3 (Tq _) (Tq _) (JV _) (by simp<;>omega) (by simp [JU,Yx]) fun v8=>Z0 (az (Z2 1 (ZJ k (Z0 (ZK ⟨k+1,(ys++[(Z1.mk 1 0 [(Z1.mk 12 (k:Int) []),(Z1.mk 12 (f.params.length:Int) [])])]),v8,p5,ob,ob,(XJ Zy (GE.two (s1:=1) (s2:=1) om om (GE.var om om om) (GE.var om om om) om)),ob,rfl,rfl,rfl⟩ (wk [3,3,3,3,0] (fw (ZM k fl))))))))))))))))
  exact az (Z2 2 (Zz [] (Qp (k:Int)) (UX [Y7 (Z1.mk 12 (k:Int) [])] (Yx [(Z1.mk 12 (k:Int) [])]) (XS [(Z1.mk 12 (k:Int) [])]).symm 1 3 fun v9=>ZU 0 [(65,XH [(Z1.mk 12 (k:Int) [])])] (ip 5 (Yx (ys++[(Z1.mk 12 (k:Int) [])])) (Yx ys) (Yx [(Z1.mk 12 (k:Int) [])]) u none 3 (Tq _) (Tq _) (JV _) (by simp<;>omega) (by simp [JU,Yx]) fun v10=>Z0 (az (Z2 1 (ZJ k (Z0 (ZK ⟨k+1,(ys++[(Z1.mk 12 (k:Int) [])]),v10,p5,ob,ob,(XJ Zy (GE.var om om om)),ob,rfl,rfl,rfl⟩ (wk [2,2,2,2,0] (fw (ZM k fl))))))))))))
 refine ax 0 (ar (ZU 2 [(68,XH ys)] (Zz [] (XX 9 i ys) (iA [.i 0,.i 0,nl] fun b3=>ZI 0 b3 (X3 (Z1.mk 9 i ys)) (ie (Zw 1 [0] (iA [.i 0,.i 0,nl] fun b4=>?_)))))))
 refine ZI 0 b4 (X3 (Z1.mk 9 i ys)) (ie (aq (aq (XW (fun fz gz F h=>∃(wb:Bool) (p5:Nat),(pq<=p5/\p5<=pq+1)/\F=sF [0,2,3,5,8,9,10,11,14,15] fz [(82,.b wb)]/\h=[Zc gz 0,Zc gz 1,Zc gz 2,Zc gz 3,Yy rd bs p5,Zc gz 5]) ?_ ?_))))
 ·refine az (ZO 3 [3] (Zo (Ww gb g.funcs.length 4 i.toNat 5 i) (Z2 1 (V8 (VA 5 gb 4 4 5 (i.toNat * 5+1) (Zp (Xz rs)) [.i f.result] 3 (.i f.result) (UW WA hf 1 rfl (Vn rfl))) (Z2 2 (ib (b:=(f.result==1)) 78 (fun ZB=>?_) (fun ZB=>?_)))))))
  ·refine Z2 1 (ic [4] (Wn rd bs pq 5 (ZL:=ob)) ?_)
   rintro _ _ ⟨k2,rfl,rfl,Xl⟩
   have qhp5:=Xl.lt om
   exact Z0 (ZP ⟨(decide (k2>0)),pq+1,ob,rfl,rfl⟩ (wk [1,1,1,1,0,0] fl))
  exact Z0 (ZP ⟨false,pq,ob,rfl,rfl⟩ (ZG 6 fl))
 rintro F h ⟨wb,p5,kR15_0,rfl,rfl⟩
 refine XW (fun fz gz F h=>∃(eQ:Z1) (p6:Nat),(GE g (f.params.length+2) 41 eQ)/\(p5<=p6/\p6<=p5+302)/\F=sF [0,2,3,5,8,9,15] fz []/\h=[.obj b4 (X3 eQ),Zc gz 2,Zc gz 3,Yy rd bs p6,Zc gz 5]) ?_ ?_
 ·refine ac wb Iff.rfl (fun Yg=>?_) (fun Yg=>?_)
  ·refine Zw 3 [3] (ic [4,4] (Ka rd bs p5 g gb rs (f.params++[0,1]) 0 4 (ZL:=ob) (hv:=(by first|omega|(simp only [Yt,YT,XA];omega)))) ?_)
   rintro _ _ ⟨e1,p21,rfl,rfl,WG⟩
   have Xp:=WG.1
   have Kb:=WG.2
   try rw [Yt] at Xp
   rw [hbv.2.1] at Xp
   refine iA [.i 0,.i 0,nl] fun b5=>?_
   refine ZI 0 b5 (X3 e1) (ie (aq (aq (XW (fun fz gz F h=>∃(wc:Bool),(True)/\F=sF [0,2,3,5,8,9,10,14,15,16] fz [(94,.b wc)]/\h=gz) ?_ ?_))))
   ·refine az (Z2 3 (ib (b:=(decide ((f.params.length:Int)>1))) 89 (fun YE=>?_) (fun YE=>?_)))
    ·refine Z2 1 ?_
     obtain ⟨x2,Zx⟩:=Zs f.params 0 om
     exact Zo (Zj none 0 1 (Y3 Zx)) (Z0 (ZP ⟨(x2==2),ob,rfl,rfl⟩ (ZG 7 fl)))
    exact Z0 (ZP ⟨false,ob,rfl,rfl⟩ (ZG 7 fl))
   rintro F h ⟨wc,kR17_0,rfl,rfl⟩
   refine XW (fun fz gz F h=>∃(eA:Z1),(GE g (f.params.length+2) 30 eA)/\F=sF [0,2,3,5,8,9,14,15,16] fz []/\h=[.obj b5 (X3 eA),Zc gz 1,Zc gz 2,Zc gz 3,Zc gz 4,Zc gz 5,Zc gz 6]) ?_ ?_
   ·refine ac wc Iff.rfl (fun Xf=>?_) (fun Xf=>?_)
    ·exact az (Zz [] (Qp 0) (Z2 1 (Zz [] (Qp (f.params.length:Int)) (UX [Y7 (Z1.mk 12 0 []),Y7 (Z1.mk 12 (f.params.length:Int) [])] (Yx [Z1.mk 12 0 [],(Z1.mk 12 (f.params.length:Int) [])]) (XS [Z1.mk 12 0 [],(Z1.mk 12 (f.params.length:Int) [])]).symm 2 3 fun v11=>ZU 0 [(98,XH [Z1.mk 12 0 [],(Z1.mk 12 (f.params.length:Int) [])])] (Zz [] (XX 11 0 [Z1.mk 12 0 [],(Z1.mk 12 (f.params.length:Int) [])]) (ZI 1 b5 (X3 (Z1.mk 11 0 [Z1.mk 12 0 [],(Z1.mk 12 (f.params.length:Int) [])])) (ie (ZP ⟨(Z1.mk 11 0 [Z1.mk 12 0 [],(Z1.mk 12 (f.params.length:Int) [])]),(GE.two (s1:=1) (s2:=1) om om (GE.var om om om) (GE.var om om om) om),rfl,rfl⟩ (wk [0,1,1,1,1,1,1] fl)))))))))
    exact ak (ZP ⟨e1,Xp,rfl,rfl⟩ (ZG 7 fl))
   rintro F h ⟨eA,Zat,rfl,rfl⟩
   exact az (ZO 2 [0,4] (UX [Y7 eA,Y7 (Z1.mk 9 i ys)] (Yx [eA,Z1.mk 9 i ys]) (XS [eA,Z1.mk 9 i ys]).symm 2 3 fun v12=>ZU 0 [(102,XH [eA,Z1.mk 9 i ys])] (Zz [] (XX 6 1 [eA,Z1.mk 9 i ys]) (ZI 4 b4 (X3 (Z1.mk 6 1 [eA,Z1.mk 9 i ys])) (ie (ZP ⟨(Z1.mk 6 1 [eA,Z1.mk 9 i ys]),p21,(GE.two (s1:=30) (s2:=10) om om Zat (GE.node (L:=f.params.length) (s:=3) (q:=10) om (fun _=>by omega) om Zy om om om) om),ob,rfl,rfl⟩ (wk [0,5,5,2,2] fl)))))))
  refine Zw 3 [3] (Zo (Ww gb g.funcs.length 4 i.toNat 5 i) (Z2 1 (V8 (VA 5 gb 4 4 5 (i.toNat * 5+1) (Zp (Xz rs)) [.i f.result] 3 (.i f.result) (UW WA hf 1 rfl (Vn rfl))) (YH (f.result==0) Zq (fun Xo=>?_) (fun Xo=>?_)))))
  ·refine aE 11 (ZH 6 11 [0,3,4,5,7] [3,1] (Z9 1 (dL 1 [1,3] [b3,b1] (Z7 [1,2]) 2 1 fun v13=>Yw 5 5 [] [(112,Z5 [1,2])] (Z9 2 (dc 2 [5] [1,3] [b3,b1] (Ue rd bs p5 [1,2] (ZL:=ob)) ?_)))))
   rintro _ _ ⟨z1,rfl,rfl,UK⟩
   have hz:=Bp (a:=1) (b:=2) UK (by decide)
   refine Z9 6 (dc 6 [0,5] [1] [b3] (Ka rd bs (p5+1) g gb rs (f.params++[0,1]) 0 4 (ZL:=ob) (hv:=(by first|omega|(simp only [Yt,YT,XA];omega)))) ?_)
   rintro _ _ ⟨e2,p22,rfl,rfl,Te⟩
   have Xp:=Te.1
   have Kb:=Te.2
   try rw [Yt] at Xp
   rw [hbv.2.1] at Xp
   exact Z9 8 (WK 8 [] [] [Y7 e2,Y7 (Z1.mk 9 i ys)] (Yx [e2,Z1.mk 9 i ys]) (XS [e2,Z1.mk 9 i ys]).symm 2 3 fun v14=>Yw 2 2 [] [(119,XH [e2,Z1.mk 9 i ys])] (Z9 9 (Yo 9 [] [] [] (XX z1 0 [e2,Z1.mk 9 i ys]) (Z9 10 (YK 10 4 [] [] b4 (X3 (Z1.mk z1 0 [e2,Z1.mk 9 i ys])) (de (ZP ⟨(Z1.mk z1 0 [e2,Z1.mk 9 i ys]),p22,(GE.two (s1:=30) (s2:=10) om om Xp (GE.node (L:=f.params.length) (s:=3) (q:=10) om (fun _=>by omega) om Zy om om om) om),ob,rfl,rfl⟩ (wk [0,5,5,1,1] fl))))))))
  exact ak (ZP ⟨(Z1.mk 9 i ys),p5,(GE.le (GE.node (L:=f.params.length) (s:=3) (q:=10) om (fun _=>by omega) om Zy om om om) om),ob,rfl,rfl⟩ (wk [0,1,1,1,1] fl))
 rintro F h ⟨eQ,p6,Kd,Zas,rfl,rfl⟩
 refine aD 16 (ZH 9 16 [0,2,3,4,5,6,7] [2,2] (dx 8 (Ww gb g.funcs.length 4 i.toNat 5 i) (Zm 7 8 [9] (Uq 10 (VA 4 gb 4 4 5 (i.toNat * 5+1) (Zp (Xz rs)) [.i f.result] 3 (.i f.result) (UW WA hf 1 rfl (Vn rfl))) (ZH 5 6 [12] [0] (Z9 1 (Yo 1 [] [0,4,2,2] [b4,gb,b1,b1] (Qp w) (Z9 11 (dc 11 [3,3] [0] [b4] (Ka rd bs p6 g gb rs f.params f.result 4 (ZL:=ob) (hv:=(by first|omega|(simp only [Yt,YT,XA];omega)))) ?_)))))))))
 rintro _ _ ⟨e3,p23,rfl,rfl,Tf⟩
 have Xp:=Tf.1
 have Kb:=Tf.2
 try rw [Yt] at Xp
 rw [hbv.2.1] at Xp
 exact Z9 13 (WK 13 [] [] [Y7 (Z1.mk 12 w []),Y7 e3,Y7 eQ] (Yx [Z1.mk 12 w [],e3,eQ]) (XS [Z1.mk 12 w [],e3,eQ]).symm 3 3 fun v15=>Yw 2 2 [] [(134,XH [Z1.mk 12 w [],e3,eQ])] (Z9 14 (Yo 14 [] [] [] (XX 8 1 [Z1.mk 12 w [],e3,eQ]) (Z9 15 (YK 15 4 [] [] b2 (X3 (Z1.mk 8 1 [Z1.mk 12 w [],e3,eQ])) (de (ZD (r3 [2,2] [Y7 (Z1.mk 8 1 [Z1.mk 12 w [],e3,eQ])] [0] [(b2,b2)] ⟨(Z1.mk 8 1 [Z1.mk 12 w [],e3,eQ]),p23,rfl,rfl,⟨GE.matchL hg (s1:=1) (s2:=30) (s3:=41) (GE.var om om om) Xp Kd om,by omega⟩⟩ (lr _)))))))))
theorem Z8f (rd:Nat) (bs:LI) (p:Nat) (g:Wg) (gb:Nat) (rs:List Func) (f:Func) (i:Int) (ZL:∀z∈bs,0<=z/\z<=255) (hp:p+1000<=1000000000:=by exact ob) (hg:GP g:=by exact ob) (WA:g.funcs <+: rs:=by exact ob) (hi:0<=i:=by exact ob) (hf:g.funcs[i.toNat]? = some f:=by exact ob) (h0:0<f.params.length:=by exact ob):Zk 239 [.p rd 0,.agg (WF g gb),.i i] [Yy rd bs p,XT gb rs] (fun r h=>∃(e:Z1) (p2:Nat),r=Y7 e/\h=[Yy rd bs p2,XT gb rs]/\GE g f.params.length 200 e/\p<=p2/\p2<=p+1000):=by
 obtain ⟨hil,_⟩:=Xq.1 hf
 have hgl:=hg.len
 have hso:=(hg.sigs f (ZW hf)).bd
 have hbv:=DH
 refine ZF 96 Tryz.func239 (ar (iA (WF g gb) fun b1=>iA [.i 0,.i 0,nl] fun b2=>ie (Zw 3 [1] (Zo (Ww gb g.funcs.length 4 i.toNat 5 i) (Z2 1 (V8 (VA 3 gb 4 4 5 (i.toNat * 5+0) (Zp (Xz rs)) [Z5 f.params] 31 (Z5 f.params) (UW WA hf 0 rfl (Vn rfl))) (Z0 (Ya 1 (iw (Yf f.params) (Z0 (Ya 1 (Zz [] (Qp (f.params.length:Int)) (UX [Y7 (Z1.mk 12 (f.params.length:Int) [])] (Yx [(Z1.mk 12 (f.params.length:Int) [])]) (XS [(Z1.mk 12 (f.params.length:Int) [])]).symm 1 3 fun v1=>Z0 (Ya 1 (ia (((f.params.length+2:Nat):Int)) (((f.params.length:Int))+(2)) (Zz [] (Qp ((f.params.length+2:Nat):Int)) (UX [Y7 (Z1.mk 12 ((f.params.length+2:Nat):Int) [])] (Yx [(Z1.mk 12 ((f.params.length+2:Nat):Int) [])]) (XS [(Z1.mk 12 ((f.params.length+2:Nat):Int) [])]).symm 1 3 fun v2=>?_)))))))))))))))))
 refine Z0 (Yi (ab 0 (Y6 (fun fz gz m F h=>∃(k:Nat) (ys:List Z1) (u:Value) (zs:List Z1) (w:Value),(1<=k/\k<=f.params.length)/\(ys.length=k)/\(zs.length=k)/\(∀e∈ys,GE g (f.params.length+3) 1 e)/\(∀e∈zs,GE g (f.params.length+3) 1 e)/\F=sF [0,2,4,6,7,8] fz [(9,QK ys u),(10,QK zs w),(11,.i k)]/\h=[Zc gz 2,Zc gz 3,Zc gz 4,Zc gz 5,.tail u 3,.tail w 3]/\m=f.params.length-k) _ _ _ ⟨1,[(Z1.mk 12 (f.params.length:Int) [])],v1,[(Z1.mk 12 ((f.params.length+2:Nat):Int) [])],v2,ob,ob,ob,(HE (GE.var om om om)),(HE (GE.var om om om)),rfl,rfl,rfl⟩ (wk [2,2,2,2,1,0] (fw (fc (x:=.i 1) li fl))) ?_)))
 rintro m F h ⟨k,ys,u,zs,w,Yj,Zl,Zy,Yv,XY,rfl,rfl,rfl⟩
 refine X9 (Y5 ((k:Int)<(f.params.length:Int)) (fun Za=>?_) (fun Za=>?_))
 ·exact ak (aq (ab 1 (Ya 2 (Zz [] (Qp (k:Int)) (UX [Y7 (Z1.mk 12 (k:Int) [])] (Yx [(Z1.mk 12 (k:Int) [])]) (XS [(Z1.mk 12 (k:Int) [])]).symm 1 3 fun v3=>ZU 0 [(38,XH [(Z1.mk 12 (k:Int) [])])] (ip 5 (Yx (ys++[(Z1.mk 12 (k:Int) [])])) (Yx ys) (Yx [(Z1.mk 12 (k:Int) [])]) u none 3 (Tq _) (Tq _) (JV _) (by simp<;>omega) (by simp [JU,Yx]) fun v4=>Z0 (az (Z2 2 (Zz [] (Qp (k:Int)) (UX [Y7 (Z1.mk 12 (k:Int) [])] (Yx [(Z1.mk 12 (k:Int) [])]) (XS [(Z1.mk 12 (k:Int) [])]).symm 1 3 fun v5=>ZU 0 [(43,XH [(Z1.mk 12 (k:Int) [])])] (ip 7 (Yx (zs++[(Z1.mk 12 (k:Int) [])])) (Yx zs) (Yx [(Z1.mk 12 (k:Int) [])]) w none 3 (Tq _) (Tq _) (JV _) (by simp<;>omega) (by simp [JU,Yx]) fun v6=>Z0 (az (Z2 1 (ZJ k (Z0 (ZK ⟨k+1,(ys++[(Z1.mk 12 (k:Int) [])]),v4,(zs++[(Z1.mk 12 (k:Int) [])]),v6,ob,ob,ob,(XJ Yv (GE.var om om om)),(XJ XY (GE.var om om om)),rfl,rfl,rfl⟩ (wk [4,4,4,4,2,0] (fw (ZM k fl)))))))))))))))))))
 refine ax 0 (ar (ZU 2 [(46,XH ys)] (Zz [] (XX 9 i ys) (iA [.i 0,.i 0,nl] fun b3=>ZI 0 b3 (X3 (Z1.mk 9 i ys)) (ie (ar (ZU 2 [(49,XH zs)] (Zz [] (XX 9 i zs) (iA [.i 0,.i 0,nl] fun b4=>?_)))))))))
 refine ZI 0 b4 (X3 (Z1.mk 9 i zs)) (ie (aD 14 (ZH 9 14 [0,1,2,3,7] [1,3,0] (J2 (fun fz gz F h=>∃(e1:Z1) (p21:Nat) (b5:Nat),(GE g (f.params++[3,0,3]).length (bS 4) e1/\p<=p21/\p21<=p+bC 4)/\F=sF [0,2,4,6,7,8,12] fz [(14,.p b5 0)]/\h=[.obj b5 (X3 (Z1.mk 1 0 [Z1.mk 9 i ys,Z1.mk 1 0 [e1,Z1.mk 9 i zs]])),Yy rd bs p21,Zc gz 5,Zc gz 0,Zc gz 1,Zc gz 2,Zc gz 3,Zc gz 6,Zc gz 7]) ?_ ?_))))
 ·refine VN 4 12 ?_ ?_
  ·refine dL 4 [0,3,1] [b4,b1,b3] (Z7 [3,0,3]) 3 1 fun v7=>Yw 8 8 [] [(55,Z5 [3,0,3])] (VN 5 12 ?_ ?_)
   ·refine dc 5 [] [0,3,1] [b4,b1,b3] (Kn f.params [3,0,3]) ?_
    rintro _ _ ⟨v8,rfl,rfl⟩
    refine Yw 7 7 [] [(56,Z5 (f.params++[3,0,3]))] (VN 6 12 ?_ ?_)
    ·refine dc 6 [6,6] [0,1] [b4,b3] (Ka rd bs p g gb rs (f.params++[3,0,3]) 0 4 (ZL:=ob) (hv:=(by first|omega|(simp only [Yt,YT,XA];omega)))) ?_
     rintro _ _ ⟨e1,p21,rfl,rfl,ZX⟩
     have Xp:=ZX.1
     have Kb:=ZX.2
     try rw [Yt] at Xp
     rw [hbv.2.1] at Xp
     refine VN 8 12 ?_ ?_
     ·refine WK 8 [3] [b3] [Y7 e1,Y7 (Z1.mk 9 i zs)] (Yx [e1,Z1.mk 9 i zs]) (XS [e1,Z1.mk 9 i zs]).symm 2 3 fun v9=>Yw 5 5 [] [(59,XH [e1,Z1.mk 9 i zs])] (VN 9 12 ?_ ?_)
      ·refine Yo 9 [] [3] [b3] (XX 1 0 [e1,Z1.mk 9 i zs]) (VN 10 12 ?_ ?_)
       ·refine WK 10 [] [] [Y7 (Z1.mk 9 i ys),Y7 (Z1.mk 1 0 [e1,Z1.mk 9 i zs])] (Yx [Z1.mk 9 i ys,Z1.mk 1 0 [e1,Z1.mk 9 i zs]]) (XS [Z1.mk 9 i ys,Z1.mk 1 0 [e1,Z1.mk 9 i zs]]).symm 2 3 fun v10=>Yw 3 3 [] [(61,XH [Z1.mk 9 i ys,Z1.mk 1 0 [e1,Z1.mk 9 i zs]])] (VN 11 12 ?_ ?_)
        ·exact Yo 11 [] [] [] (XX 1 0 [Z1.mk 9 i ys,Z1.mk 1 0 [e1,Z1.mk 9 i zs]]) (Z9 12 (dA 12 [] [] [.i 0,.i 0,nl] fun b5=>Z9 13 (YK 13 0 [] [] b5 (X3 (Z1.mk 1 0 [Z1.mk 9 i ys,Z1.mk 1 0 [e1,Z1.mk 9 i zs]])) (de (ZP ⟨e1,p21,b5,(by assumption),rfl,rfl⟩ (wk [0,2,2,4,4,4,4,4,4] fl))))))
        exact dA 12 [] [] [.i 0,.i 0,nl] fun b6=>Z9 11 (Yo 11 [] [] [] (XX 1 0 [Z1.mk 9 i ys,Z1.mk 1 0 [e1,Z1.mk 9 i zs]]) (Z9 13 (YK 13 0 [] [] b6 (X3 (Z1.mk 1 0 [Z1.mk 9 i ys,Z1.mk 1 0 [e1,Z1.mk 9 i zs]])) (de (ZP ⟨e1,p21,b6,(by assumption),rfl,rfl⟩ (wk [0,2,2,4,4,4,4,4,4] fl))))))
       exact dA 12 [3] [b3] [.i 0,.i 0,nl] fun b7=>Z9 10 (WK 10 [] [] [Y7 (Z1.mk 9 i ys),Y7 (Z1.mk 1 0 [e1,Z1.mk 9 i zs])] (Yx [Z1.mk 9 i ys,Z1.mk 1 0 [e1,Z1.mk 9 i zs]]) (XS [Z1.mk 9 i ys,Z1.mk 1 0 [e1,Z1.mk 9 i zs]]).symm 2 3 fun v11=>Yw 2 2 [] [(61,XH [Z1.mk 9 i ys,Z1.mk 1 0 [e1,Z1.mk 9 i zs]])] (Z9 11 (Yo 11 [] [] [] (XX 1 0 [Z1.mk 9 i ys,Z1.mk 1 0 [e1,Z1.mk 9 i zs]]) (Z9 13 (YK 13 1 [] [] b7 (X3 (Z1.mk 1 0 [Z1.mk 9 i ys,Z1.mk 1 0 [e1,Z1.mk 9 i zs]])) (de (ZP ⟨e1,p21,b7,(by assumption),rfl,rfl⟩ (wk [0,2,2,4,4,4,4,4,4] fl))))))))
      exact dA 12 [3] [b3] [.i 0,.i 0,nl] fun b8=>Z9 9 (Yo 9 [] [4] [b3] (XX 1 0 [e1,Z1.mk 9 i zs]) (Z9 10 (WK 10 [] [] [Y7 (Z1.mk 9 i ys),Y7 (Z1.mk 1 0 [e1,Z1.mk 9 i zs])] (Yx [Z1.mk 9 i ys,Z1.mk 1 0 [e1,Z1.mk 9 i zs]]) (XS [Z1.mk 9 i ys,Z1.mk 1 0 [e1,Z1.mk 9 i zs]]).symm 2 3 fun v12=>Yw 2 2 [] [(61,XH [Z1.mk 9 i ys,Z1.mk 1 0 [e1,Z1.mk 9 i zs]])] (Z9 11 (Yo 11 [] [] [] (XX 1 0 [Z1.mk 9 i ys,Z1.mk 1 0 [e1,Z1.mk 9 i zs]]) (Z9 13 (YK 13 1 [] [] b8 (X3 (Z1.mk 1 0 [Z1.mk 9 i ys,Z1.mk 1 0 [e1,Z1.mk 9 i zs]])) (de (ZP ⟨e1,p21,b8,(by assumption),rfl,rfl⟩ (wk [0,2,2,4,4,4,4,4,4] fl))))))))))
     exact dA 12 [2,3] [b4,b3] [.i 0,.i 0,nl] fun b9=>Z9 8 (WK 8 [4] [b3] [Y7 e1,Y7 (Z1.mk 9 i zs)] (Yx [e1,Z1.mk 9 i zs]) (XS [e1,Z1.mk 9 i zs]).symm 2 3 fun v13=>Yw 4 4 [] [(59,XH [e1,Z1.mk 9 i zs])] (Z9 9 (Yo 9 [] [4] [b3] (XX 1 0 [e1,Z1.mk 9 i zs]) (Z9 10 (WK 10 [] [] [Y7 (Z1.mk 9 i ys),Y7 (Z1.mk 1 0 [e1,Z1.mk 9 i zs])] (Yx [Z1.mk 9 i ys,Z1.mk 1 0 [e1,Z1.mk 9 i zs]]) (XS [Z1.mk 9 i ys,Z1.mk 1 0 [e1,Z1.mk 9 i zs]]).symm 2 3 fun v14=>Yw 2 2 [] [(61,XH [Z1.mk 9 i ys,Z1.mk 1 0 [e1,Z1.mk 9 i zs]])] (Z9 11 (Yo 11 [] [] [] (XX 1 0 [Z1.mk 9 i ys,Z1.mk 1 0 [e1,Z1.mk 9 i zs]]) (Z9 13 (YK 13 2 [] [] b9 (X3 (Z1.mk 1 0 [Z1.mk 9 i ys,Z1.mk 1 0 [e1,Z1.mk 9 i zs]])) (de (ZP ⟨e1,p21,b9,(by assumption),rfl,rfl⟩ (wk [0,2,2,4,4,4,4,4,4] fl))))))))))))
    refine dA 12 [0,3,1] [b4,b1,b3] [.i 0,.i 0,nl] fun b10=>Z9 6 (dc 6 [7,7] [1,2] [b4,b3] (Ka rd bs p g gb rs (f.params++[3,0,3]) 0 4 (ZL:=ob) (hv:=(by first|omega|(simp only [Yt,YT,XA];omega)))) ?_)
    rintro _ _ ⟨e2,p22,rfl,rfl,Yk⟩
    have Xp:=Yk.1
    have Kb:=Yk.2
    try rw [Yt] at Xp
    rw [hbv.2.1] at Xp
    exact Z9 8 (WK 8 [4] [b3] [Y7 e2,Y7 (Z1.mk 9 i zs)] (Yx [e2,Z1.mk 9 i zs]) (XS [e2,Z1.mk 9 i zs]).symm 2 3 fun v15=>Yw 4 4 [] [(59,XH [e2,Z1.mk 9 i zs])] (Z9 9 (Yo 9 [] [4] [b3] (XX 1 0 [e2,Z1.mk 9 i zs]) (Z9 10 (WK 10 [] [] [Y7 (Z1.mk 9 i ys),Y7 (Z1.mk 1 0 [e2,Z1.mk 9 i zs])] (Yx [Z1.mk 9 i ys,Z1.mk 1 0 [e2,Z1.mk 9 i zs]]) (XS [Z1.mk 9 i ys,Z1.mk 1 0 [e2,Z1.mk 9 i zs]]).symm 2 3 fun v16=>Yw 2 2 [] [(61,XH [Z1.mk 9 i ys,Z1.mk 1 0 [e2,Z1.mk 9 i zs]])] (Z9 11 (Yo 11 [] [] [] (XX 1 0 [Z1.mk 9 i ys,Z1.mk 1 0 [e2,Z1.mk 9 i zs]]) (Z9 13 (YK 13 4 [] [] b10 (X3 (Z1.mk 1 0 [Z1.mk 9 i ys,Z1.mk 1 0 [e2,Z1.mk 9 i zs]])) (de (ZP ⟨e2,p22,b10,(by assumption),rfl,rfl⟩ (wk [0,2,2,4,4,4,4,4,4] fl))))))))))))
   refine dA 12 [0,3,1] [b4,b1,b3] [.i 0,.i 0,nl] fun b11=>Z9 5 (dc 5 [] [1,4,2] [b4,b1,b3] (Kn f.params [3,0,3]) ?_)
   rintro _ _ ⟨v17,rfl,rfl⟩
   refine Yw 6 6 [] [(56,Z5 (f.params++[3,0,3]))] (Z9 6 (dc 6 [7,7] [1,2] [b4,b3] (Ka rd bs p g gb rs (f.params++[3,0,3]) 0 4 (ZL:=ob) (hv:=(by first|omega|(simp only [Yt,YT,XA];omega)))) ?_))
   rintro _ _ ⟨e3,p23,rfl,rfl,YG⟩
   have Xp:=YG.1
   have Kb:=YG.2
   try rw [Yt] at Xp
   rw [hbv.2.1] at Xp
   exact Z9 8 (WK 8 [4] [b3] [Y7 e3,Y7 (Z1.mk 9 i zs)] (Yx [e3,Z1.mk 9 i zs]) (XS [e3,Z1.mk 9 i zs]).symm 2 3 fun v18=>Yw 4 4 [] [(59,XH [e3,Z1.mk 9 i zs])] (Z9 9 (Yo 9 [] [4] [b3] (XX 1 0 [e3,Z1.mk 9 i zs]) (Z9 10 (WK 10 [] [] [Y7 (Z1.mk 9 i ys),Y7 (Z1.mk 1 0 [e3,Z1.mk 9 i zs])] (Yx [Z1.mk 9 i ys,Z1.mk 1 0 [e3,Z1.mk 9 i zs]]) (XS [Z1.mk 9 i ys,Z1.mk 1 0 [e3,Z1.mk 9 i zs]]).symm 2 3 fun v19=>Yw 2 2 [] [(61,XH [Z1.mk 9 i ys,Z1.mk 1 0 [e3,Z1.mk 9 i zs]])] (Z9 11 (Yo 11 [] [] [] (XX 1 0 [Z1.mk 9 i ys,Z1.mk 1 0 [e3,Z1.mk 9 i zs]]) (Z9 13 (YK 13 5 [] [] b11 (X3 (Z1.mk 1 0 [Z1.mk 9 i ys,Z1.mk 1 0 [e3,Z1.mk 9 i zs]])) (de (ZP ⟨e3,p23,b11,(by assumption),rfl,rfl⟩ (wk [0,2,2,4,4,4,4,4,4] fl))))))))))))
  refine dA 12 [0,3,1] [b4,b1,b3] [.i 0,.i 0,nl] fun b12=>Z9 4 (dL 4 [1,4,2] [b4,b1,b3] (Z7 [3,0,3]) 3 1 fun v20=>Yw 7 7 [] [(55,Z5 [3,0,3])] (Z9 5 (dc 5 [] [1,4,2] [b4,b1,b3] (Kn f.params [3,0,3]) ?_)))
  rintro _ _ ⟨v21,rfl,rfl⟩
  refine Yw 6 6 [] [(56,Z5 (f.params++[3,0,3]))] (Z9 6 (dc 6 [7,7] [1,2] [b4,b3] (Ka rd bs p g gb rs (f.params++[3,0,3]) 0 4 (ZL:=ob) (hv:=(by first|omega|(simp only [Yt,YT,XA];omega)))) ?_))
  rintro _ _ ⟨e4,p24,rfl,rfl,YR⟩
  have Xp:=YR.1
  have Kb:=YR.2
  try rw [Yt] at Xp
  rw [hbv.2.1] at Xp
  exact Z9 8 (WK 8 [4] [b3] [Y7 e4,Y7 (Z1.mk 9 i zs)] (Yx [e4,Z1.mk 9 i zs]) (XS [e4,Z1.mk 9 i zs]).symm 2 3 fun v22=>Yw 4 4 [] [(59,XH [e4,Z1.mk 9 i zs])] (Z9 9 (Yo 9 [] [4] [b3] (XX 1 0 [e4,Z1.mk 9 i zs]) (Z9 10 (WK 10 [] [] [Y7 (Z1.mk 9 i ys),Y7 (Z1.mk 1 0 [e4,Z1.mk 9 i zs])] (Yx [Z1.mk 9 i ys,Z1.mk 1 0 [e4,Z1.mk 9 i zs]]) (XS [Z1.mk 9 i ys,Z1.mk 1 0 [e4,Z1.mk 9 i zs]]).symm 2 3 fun v23=>Yw 2 2 [] [(61,XH [Z1.mk 9 i ys,Z1.mk 1 0 [e4,Z1.mk 9 i zs]])] (Z9 11 (Yo 11 [] [] [] (XX 1 0 [Z1.mk 9 i ys,Z1.mk 1 0 [e4,Z1.mk 9 i zs]]) (Z9 13 (YK 13 6 [] [] b12 (X3 (Z1.mk 1 0 [Z1.mk 9 i ys,Z1.mk 1 0 [e4,Z1.mk 9 i zs]])) (de (ZP ⟨e4,p24,b12,(by assumption),rfl,rfl⟩ (wk [0,2,2,4,4,4,4,4,4] fl))))))))))))
 rintro F h ⟨e1,p21,b5,ZX,rfl,rfl⟩
 have Xp:=ZX.1
 have Kb:=ZX.2
 try rw [Yt] at Xp
 rw [hbv.2.1] at Xp
 refine Yl 3 [6] (Zo (Ww gb g.funcs.length 4 i.toNat 5 i) (Z2 1 (V8 (VA 2 gb 4 4 5 (i.toNat * 5+1) (Zp (Xz rs)) [.i f.result] 3 (.i f.result) (UW WA hf 1 rfl (Vn rfl))) (Z0 (XW (fun fz gz F h=>∃(eQ:Z1) (p6:Nat),(GE g (f.params.length+3) 52 eQ)/\(p<=p6/\p6<=p+650)/\F=sF [0,2,4,6,7,14] fz []/\h=[.obj b5 (X3 eQ),Yy rd bs p6,Zc gz 2,Zc gz 5,Zc gz 6]) ?_ ?_)))))
 ·refine ac (f.result==3) Zq (fun Zg=>?_) (fun Zg=>?_)
  ·refine aE 13 (ZH 8 13 [0,1,2,3,7] [4,6] (da 8 (((f.params.length+2:Nat):Int)) (((f.params.length:Int))+(2)) (Z9 4 (dL 4 [6,4] [b1,b3] (Z7 [3,0,3]) 3 1 fun v24=>Yw 6 6 [] [(74,Z5 [3,0,3])] (Z9 5 (dc 5 [] [6,4] [b1,b3] (Kn f.params [3,0,3]) ?_))))))
   rintro _ _ ⟨v25,rfl,rfl⟩
   refine Yw 5 5 [] [(75,Z5 (f.params++[3,0,3]))] (Z9 6 (dc 6 [3,3] [2] [b3] (Ka rd bs p21 g gb rs (f.params++[3,0,3]) 0 4 (ZL:=ob) (hv:=(by first|omega|(simp only [Yt,YT,XA];omega)))) ?_))
   rintro _ _ ⟨e5,p25,rfl,rfl,Xl⟩
   have Xp:=Xl.1
   have Kb:=Xl.2
   try rw [Yt] at Xp
   rw [hbv.2.1] at Xp
   exact Z9 9 (Yo 9 [] [4] [b3] (Qp ((f.params.length+2:Nat):Int)) (Z9 10 (WK 10 [] [] [Y7 (Z1.mk 9 i ys),Y7 e5,Y7 (Z1.mk 12 ((f.params.length+2:Nat):Int) [])] (Yx [Z1.mk 9 i ys,e5,(Z1.mk 12 ((f.params.length+2:Nat):Int) [])]) (XS [Z1.mk 9 i ys,e5,(Z1.mk 12 ((f.params.length+2:Nat):Int) [])]).symm 3 3 fun v26=>Yw 2 2 [] [(80,XH [Z1.mk 9 i ys,e5,(Z1.mk 12 ((f.params.length+2:Nat):Int) [])])] (Z9 11 (Yo 11 [] [] [] (XX 6 3 [Z1.mk 9 i ys,e5,(Z1.mk 12 ((f.params.length+2:Nat):Int) [])]) (Z9 12 (YK 12 5 [] [] b5 (X3 (Z1.mk 6 3 [Z1.mk 9 i ys,e5,(Z1.mk 12 ((f.params.length+2:Nat):Int) [])])) (de (ZP ⟨(Z1.mk 6 3 [Z1.mk 9 i ys,e5,(Z1.mk 12 ((f.params.length+2:Nat):Int) [])]),p25,(GE.three (s1:=10) (s2:=30) (s3:=1) om om (GE.node (L:=f.params.length) (s:=1) (q:=10) om (fun _=>by omega) om Yv om om om) Xp (GE.var om om om) om),ob,rfl,rfl⟩ (wk [0,1,1,5,5] fl))))))))))
  exact ak (ZP ⟨(Z1.mk 1 0 [Z1.mk 9 i ys,Z1.mk 1 0 [e1,Z1.mk 9 i zs]]),p21,(GE.two (s1:=10) (s2:=41) om om (GE.node (L:=f.params.length) (s:=1) (q:=10) om (fun _=>by omega) om Yv om om om) (GE.two (s1:=30) (s2:=10) om om Xp (GE.node (L:=f.params.length) (s:=1) (q:=10) om (fun _=>by omega) om XY om om om) om) om),ob,rfl,rfl⟩ (wk [0,0,0,2,2] fl))
 rintro F h ⟨eQ,p6,Uf,Az,rfl,rfl⟩
 refine aD 15 (ZH 9 15 [1,2,3,4,5,6] [4,4] (dx 7 (Ww gb g.funcs.length 4 i.toNat 5 i) (Zm 7 8 [8] (Uq 9 (VA 2 gb 4 4 5 (i.toNat * 5+1) (Zp (Xz rs)) [.i f.result] 3 (.i f.result) (UW WA hf 1 rfl (Vn rfl))) (ZH 5 6 [11] [0] (Z9 0 (Yo 0 [] [0,2,4,4] [b5,gb,b1,b1] (Qp 0) (Z9 10 (dc 10 [1,1] [0] [b5] (Ka rd bs p6 g gb rs f.params f.result 4 (ZL:=ob) (hv:=(by first|omega|(simp only [Yt,YT,XA];omega)))) ?_)))))))))
 rintro _ _ ⟨e6,p26,rfl,rfl,W2⟩
 have Xp:=W2.1
 have Kb:=W2.2
 try rw [Yt] at Xp
 rw [hbv.2.1] at Xp
 exact Z9 12 (WK 12 [] [] [Y7 (Z1.mk 12 0 []),Y7 e6,Y7 eQ] (Yx [Z1.mk 12 0 [],e6,eQ]) (XS [Z1.mk 12 0 [],e6,eQ]).symm 3 3 fun v27=>Yw 2 2 [] [(94,XH [Z1.mk 12 0 [],e6,eQ])] (Z9 13 (Yo 13 [] [] [] (XX 8 3 [Z1.mk 12 0 [],e6,eQ]) (Z9 14 (YK 14 4 [] [] b2 (X3 (Z1.mk 8 3 [Z1.mk 12 0 [],e6,eQ])) (de (ZD (r3 [2,2] [Y7 (Z1.mk 8 3 [Z1.mk 12 0 [],e6,eQ])] [0] [(b2,b2)] ⟨(Z1.mk 8 3 [Z1.mk 12 0 [],e6,eQ]),p26,rfl,rfl,⟨GE.matchT hg (s1:=1) (s2:=30) (s3:=52) (GE.var om om om) Xp Uf om,by omega⟩⟩ (lr _)))))))))
theorem Z7m (rd:Nat) (bs:LI) (p:Nat) (g:Wg) (gb:Nat) (rs:List Func) (f:Func) (i:Int) (ZL:∀z∈bs,0<=z/\z<=255) (hp:p+1000<=1000000000:=by exact ob) (hg:GP g:=by exact ob) (WA:g.funcs <+: rs:=by exact ob) (hi:0<=i:=by exact ob) (hf:g.funcs[i.toNat]? = some f:=by exact ob) (h0:0<f.params.length:=by exact ob):Zk 240 [.p rd 0,.agg (WF g gb),.i i] [Yy rd bs p,XT gb rs] (fun r h=>∃(e:Z1) (p2:Nat),r=Y7 e/\h=[Yy rd bs p2,XT gb rs]/\GE g f.params.length 200 e/\p<=p2/\p2<=p+1000):=by
 obtain ⟨hil,_⟩:=Xq.1 hf
 have hgl:=hg.len
 have hso:=(hg.sigs f (ZW hf)).bd
 have hbv:=DH
 refine ZF 75 Tryz.func240 (ar (iA (WF g gb) fun b1=>iA [.i 0,.i 0,nl] fun b2=>ie (Zw 3 [1] (Zo (Ww gb g.funcs.length 4 i.toNat 5 i) (Z2 1 (V8 (VA 3 gb 4 4 5 (i.toNat * 5+0) (Zp (Xz rs)) [Z5 f.params] 31 (Z5 f.params) (UW WA hf 0 rfl (Vn rfl))) (Z0 (ar (Zz [] (Qp 0) (Zz [] (As 1) (UX [Y7 (Z1.mk 12 0 []),Y7 (Z1.mk 0 1 [])] (Yx [Z1.mk 12 0 [],Z1.mk 0 1 []]) (XS [Z1.mk 12 0 [],Z1.mk 0 1 []]).symm 2 3 fun v1=>ZU 0 [(20,XH [Z1.mk 12 0 [],Z1.mk 0 1 []])] (Zz [] (XX 2 0 [Z1.mk 12 0 [],Z1.mk 0 1 []]) (UX [Y7 (Z1.mk 2 0 [Z1.mk 12 0 [],Z1.mk 0 1 []])] (Yx [Z1.mk 2 0 [Z1.mk 12 0 [],Z1.mk 0 1 []]]) (XS [Z1.mk 2 0 [Z1.mk 12 0 [],Z1.mk 0 1 []]]).symm 1 3 fun v2=>?_)))))))))))))
 refine Z0 (Yi (ab 0 (Y6 (fun fz gz m F h=>∃(k:Nat) (ys:List Z1) (u:Value) (pq:Nat),(1<=k/\k<=f.params.length)/\(ys.length=k)/\(∀e∈ys,GE g f.params.length 4 e)/\(p<=pq/\pq<=p+30*k)/\F=sF [0,2,4,6,7] fz [(8,QK ys u),(9,.i k)]/\h=[Zc gz 2,Zc gz 3,Yy rd bs pq,Zc gz 5,.tail u 3]/\m=f.params.length-k) _ _ _ ⟨1,[Z1.mk 2 0 [Z1.mk 12 0 [],Z1.mk 0 1 []]],v2,p,ob,ob,(HE (GE.two (s1:=1) (s2:=1) om om (GE.var om om om) (GE.int om om) om)),ob,rfl,rfl,rfl⟩ (wk [2,2,2,2,0] (fr (fc (x:=.i 1) li fl))) ?_)))
 rintro m F h ⟨k,ys,u,pq,Yj,Zl,Zy,Yv,rfl,rfl,rfl⟩
 refine YO 2 (iw (Yf f.params) (Y5 ((k:Int)<(f.params.length:Int)) (fun Za=>?_) (fun Za=>?_)))
 ·refine ak (aq (ab 1 (aE 12 (ZH 6 12 [0,1,2,3,4,5] [1] ?_))))
  obtain ⟨x1,Z3⟩:=Zs f.params k om
  refine dx 6 (Zj none (k:Int) 1 (Y3 Z3)) (Zm 4 5 [7] (Z9 8 (dc 8 [2,2] [] [] (CQ rd bs pq g gb rs f.params x1 (ZL:=ob)) ?_)))
  rintro _ _ ⟨e1,p21,rfl,rfl,ZX⟩
  have hle:=ZX.1
  exact Z9 9 (WK 9 [] [] [Y7 e1] (Yx [e1]) (XS [e1]).symm 1 3 fun v3=>Yw 2 2 [] [(38,XH [e1])] (Z9 10 (dp 10 5 [] [] (Yx (ys++[e1])) (Yx ys) (Yx [e1]) u none 3 (Tq _) (Tq _) (JV _) (by simp<;>omega) (by simp [JU,Yx]) fun v4=>Zm 0 1 [11] (de (az (Z2 1 (ZJ k (Z0 (ZK ⟨k+1,(ys++[e1]),v4,p21,ob,ob,(XJ Zy hle),ob,rfl,rfl,rfl⟩ (wk [4,4,2,2,0] (fr (ZM k fl))))))))))))
 refine ax 0 (ar (ZU 2 [(41,XH ys)] (Zz [] (XX 9 i ys) (iA [.i 0,.i 0,nl] fun b3=>?_))))
 refine ZI 0 b3 (X3 (Z1.mk 9 i ys)) (ie (Yl 3 [2] (Zo (Ww gb g.funcs.length 4 i.toNat 5 i) (Z2 1 (V8 (VA 4 gb 4 4 5 (i.toNat * 5+1) (Zp (Xz rs)) [.i f.result] 3 (.i f.result) (UW WA hf 1 rfl (Vn rfl))) (Z0 (XW (fun fz gz F h=>∃(eQ:Z1) (p6:Nat),(GE g f.params.length 34 eQ)/\(p<=p6/\p6<=p+350)/\F=sF [0,2,4,6,7,10] fz []/\h=[.obj b3 (X3 eQ),Zc gz 1,Zc gz 2,Yy rd bs p6,Zc gz 4]) ?_ ?_)))))))
 ·refine ac (f.result==1) Zq (fun Zg=>?_) (fun Zg=>?_)
  ·refine aE 8 (ZH 4 8 [0,1,2,4] [2,0] (Z9 3 (dc 3 [3,3] [0] [b3] (Ka rd bs pq g gb rs f.params 0 3 (ZL:=ob)) ?_)))
   rintro _ _ ⟨e2,p22,rfl,rfl,Yk⟩
   have Xp:=Yk.1
   have Kb:=Yk.2
   try rw [Yt] at Xp
   first|rw [hbv.2.1] at Xp|rw [hbv.1] at Xp
   exact Z9 5 (WK 5 [] [] [Y7 e2,Y7 (Z1.mk 9 i ys)] (Yx [e2,Z1.mk 9 i ys]) (XS [e2,Z1.mk 9 i ys]).symm 2 3 fun v5=>Yw 2 2 [] [(55,XH [e2,Z1.mk 9 i ys])] (Z9 6 (Yo 6 [] [] [] (XX 6 1 [e2,Z1.mk 9 i ys]) (Z9 7 (YK 7 3 [] [] b3 (X3 (Z1.mk 6 1 [e2,Z1.mk 9 i ys])) (de (ZP ⟨(Z1.mk 6 1 [e2,Z1.mk 9 i ys]),p22,(GE.two (s1:=20) (s2:=13) om om Xp (GE.node (L:=f.params.length) (s:=4) (q:=13) om (fun _=>by omega) om Zy om om om) om),ob,rfl,rfl⟩ (wk [0,3,3,1,1] fl))))))))
  exact ak (ZP ⟨(Z1.mk 9 i ys),pq,(GE.le (GE.node (L:=f.params.length) (s:=4) (q:=13) om (fun _=>by omega) om Zy om om om) om),ob,rfl,rfl⟩ (ZG 5 fl))
 rintro F h ⟨eQ,p6,Uf,Az,rfl,rfl⟩
 refine ar (Zz [] (As 0) (Zz [] (Qp 0) (UX [Y7 (Z1.mk 0 0 []),Y7 (Z1.mk 12 0 [])] (Yx [Z1.mk 0 0 [],Z1.mk 12 0 []]) (XS [Z1.mk 0 0 [],Z1.mk 12 0 []]).symm 2 3 fun v6=>ZU 0 [(59,XH [Z1.mk 0 0 [],Z1.mk 12 0 []])] (Zz [] (XX 4 0 [Z1.mk 0 0 [],Z1.mk 12 0 []]) (iA [.i 0,.i 0,nl] fun b4=>ZI 0 b4 (X3 (Z1.mk 4 0 [Z1.mk 0 0 [],Z1.mk 12 0 []])) (ie (aD 15 (ZH 7 15 [0,1,2,3,4,5,6,7] [0,2,4,4] (dx 8 (Ww gb g.funcs.length 4 i.toNat 5 i) (Zm 5 6 [9] (Uq 10 (VA 6 gb 4 4 5 (i.toNat * 5+1) (Zp (Xz rs)) [.i f.result] 3 (.i f.result) (UW WA hf 1 rfl (Vn rfl))) (Z9 11 (dc 11 [5,5] [1,0] [b3,b4] (Ka rd bs p6 g gb rs f.params f.result 4 (ZL:=ob)) ?_)))))))))))))
 rintro _ _ ⟨e3,p23,rfl,rfl,YG⟩
 have Xp:=YG.1
 have Kb:=YG.2
 try rw [Yt] at Xp
 first|rw [hbv.2.1] at Xp|rw [hbv.1] at Xp
 exact Z9 12 (WK 12 [] [] [Y7 (Z1.mk 4 0 [Z1.mk 0 0 [],Z1.mk 12 0 []]),Y7 eQ,Y7 e3] (Yx [Z1.mk 4 0 [Z1.mk 0 0 [],Z1.mk 12 0 []],eQ,e3]) (XS [Z1.mk 4 0 [Z1.mk 0 0 [],Z1.mk 12 0 []],eQ,e3]).symm 3 3 fun v7=>Yw 2 2 [] [(73,XH [Z1.mk 4 0 [Z1.mk 0 0 [],Z1.mk 12 0 []],eQ,e3])] (Z9 13 (Yo 13 [] [] [] (XX 7 0 [Z1.mk 4 0 [Z1.mk 0 0 [],Z1.mk 12 0 []],eQ,e3]) (Z9 14 (YK 14 6 [] [] b2 (X3 (Z1.mk 7 0 [Z1.mk 4 0 [Z1.mk 0 0 [],Z1.mk 12 0 []],eQ,e3])) (de (ZD (r3 [2,2] [Y7 (Z1.mk 7 0 [Z1.mk 4 0 [Z1.mk 0 0 [],Z1.mk 12 0 []],eQ,e3])] [0] [(b2,b2)] ⟨(Z1.mk 7 0 [Z1.mk 4 0 [Z1.mk 0 0 [],Z1.mk 12 0 []],eQ,e3]),p23,rfl,rfl,⟨GE.three (s1:=3) (s2:=34) (s3:=30) om om (GE.two (s1:=1) (s2:=1) om om (GE.int om om) (GE.var om om om) om) Uf Xp om,by omega⟩⟩ (lr _)))))))))
theorem Z8j (xs:LI) (t:Int) (hl:xs.length<=1000:=by exact ob):Zk 235 [Z5 xs,.i t] [] (fun r h=>∃(w:Int),r=.i w/\h=[]/\-1<=w/\w<xs.length):=by
 refine ZF 19 Tryz.func235 (ZE (Yi (ab 0 (Y6 (fun fz gz m F h=>∃(k:Nat),(k<=xs.length)/\F=sF [0,1] fz [(5,.i k)]/\h=gz/\m=xs.length-k) _ _ _ ⟨0,ob,rfl,rfl,rfl⟩ (wk [] (Yd fl)) ?_))))
 rintro m F h ⟨k,Yj,rfl,rfl,rfl⟩
 refine YO 2 (iw (Yf xs) (Y5 ((k:Int)<(xs.length:Int)) (fun Za=>?_) (fun Za=>?_)))
 ·refine ak (aq (ab 1 (Ya 2 ?_)))
  obtain ⟨x1,Z3⟩:=Zs xs k om
  refine Zo (Zj none (k:Int) 1 (Y3 Z3)) (YH (x1==t) Zq (fun Zg=>?_) (fun Zg=>?_))
  ·exact ar (Zr (r1 [] ⟨(k:Int),rfl,rfl,ob⟩))
  exact ak (az (Z2 1 (ZJ k (Z0 (ZK ⟨k+1,ob,rfl,rfl,rfl⟩ (wk [] (ZM k fl)))))))
 exact ax 0 (ar (Zr (r1 [] ⟨(-1),rfl,rfl,ob⟩)))
theorem Z74 (rd:Nat) (bs:LI) (p:Nat) (g:Wg) (gb:Nat) (rs:List Func) (f:Func) (i:Int) (ZL:∀z∈bs,0<=z/\z<=255) (hp:p+90000<=1000000000) (hg:GP g) (WA:g.funcs <+: rs) (hi:0<=i) (hf:g.funcs[i.toNat]? = some f) (h0:i=0->f.params.length=0):Zk 200 [.p rd 0,.agg (WF g gb),.i i] [Yy rd bs p,XT gb rs] (fun r h=>∃(e:Z1) (p2:Nat),r=Y7 e/\h=[Yy rd bs p2,XT gb rs]/\GE g f.params.length 30 e/\p<=p2/\p2<=p+90000):=by
 obtain ⟨hil,_⟩:=Xq.1 hf
 have hgl:=hg.len
 have hso:=(hg.sigs f (ZW hf)).bd
 have hbv:=DH
 refine ZF 121 Tryz.func200 (ar (iA (WF g gb) fun b1=>iA [.i 0,.i 0,nl] fun b2=>ie (Zw 3 [1] (Zo (Ww gb g.funcs.length 4 i.toNat 5 i) (Z2 1 (V8 (VA 3 gb 4 4 5 (i.toNat * 5+0) (Zp (Xz rs)) [Z5 f.params] 31 (Z5 f.params) (UW WA hf 0 rfl (Vn rfl))) (Z0 (Zw 3 [1] (Zo (Ww gb g.funcs.length 4 i.toNat 5 i) (Z2 1 (V8 (VA 3 gb 4 4 5 (i.toNat * 5+1) (Zp (Xz rs)) [.i f.result] 3 (.i f.result) (UW WA hf 1 rfl (Vn rfl))) (Z0 (Ya 1 (ic [] (Z8j f.params 1) ?_))))))))))))))
 rintro _ _ ⟨w1,rfl,rfl,ZX⟩
 have hpl:=ZX
 refine Z0 (ar (Zz [] (As 0) (iA [.i 0,.i 0,nl] fun b3=>ZI 0 b3 (X3 (Z1.mk 0 0 [])) (ie (Ya 1 (ic [3] (Wn rd bs p 4 (ZL:=ob)) ?_))))))
 rintro _ _ ⟨k1,rfl,rfl,Yk⟩
 have qhp2:=Yk.lt om
 refine Z0 (aq (aq (XW (fun fz gz F h=>∃(wb:Bool),(wb=true->i=0)/\F=sF [0,2,4,6,7,8,9,10,11] fz [(34,.b wb)]/\h=gz) ?_ ?_)))
 ·refine az (Z2 3 (ib (b:=(decide (k1<3))) 31 (fun Zb=>?_) (fun Zb=>?_)))
  ·have YG:k1<3:=(dq).1 Zb
   exact Z0 (ZP ⟨(i==0),(by first|exact (fun h=>Bool.noConfusion h)|(intro h;omega)|(intro h;simp at h;omega)),rfl,rfl⟩ (ZG 5 fl))
  have YR:¬(k1<3):=Yh dq Zb
  exact Z0 (ZP ⟨false,(by first|exact (fun h=>Bool.noConfusion h)|(intro h;omega)|(intro h;simp at h;omega)),rfl,rfl⟩ (ZG 5 fl))
 rintro F h ⟨wb,kR6_0,rfl,rfl⟩
 refine XW (fun fz gz F h=>∃(eQ:Z1) (p6:Nat),(GE g f.params.length 200 eQ)/\(p<=p6/\p6<=p+42000)/\F=sF [0,4,6,7,8,10] fz []/\h=[Yy rd bs p6,.obj b3 (X3 eQ),Zc gz 2,Zc gz 3,Zc gz 4]) ?_ ?_
 ·refine ac wb Iff.rfl (fun Za=>?_) (fun Za=>?_)
  ·refine az (ZO 2 [3] (ic [0,3] (Z86 rd bs (p+1) g gb rs (ZL:=ob)) ?_))
   rintro _ _ ⟨e1,p21,rfl,rfl,Xl⟩
   have hbd:=Xl.1
   have hbp:=Xl.2
   exact ZI 2 b3 (X3 e1) (ie (ZP ⟨e1,p21,(by rw [h0 (kR6_0 (by assumption))];exact hbd),ob,rfl,rfl⟩ (wk [1,0,1,1,0] fl)))
  refine aq (XW (fun fz gz F h=>∃(wb:Bool),(wb=true->0<=w1)/\F=sF [0,2,4,6,7,8,9,10,11] fz [(51,.b wb)]/\h=gz) ?_ ?_)
  ·refine az (Z2 3 (ib (b:=(decide (k1<3))) 40 (fun ZB=>?_) (fun ZB=>?_)))
   ·have W2:k1<3:=(dq).1 ZB
    refine Z2 4 (ib (b:=(decide (w1>=0))) 44 (fun YE=>?_) (fun YE=>?_))
    ·have WG:w1>=0:=(dq).1 YE
     refine Z2 3 (ib (b:=(f.result==0)) 47 (fun Xw=>?_) (fun Xw=>?_))
     ·have V3:f.result=0:=(Zq).1 Xw
      exact Z0 (ZP ⟨true,(by first|exact (fun h=>Bool.noConfusion h)|(intro h;omega)|(intro h;simp at h;omega)),rfl,rfl⟩ (ZG 5 fl))
     have Vr:¬(f.result=0):=Yh Zq Xw
     exact Z0 (ZP ⟨(f.result==1),(by first|exact (fun h=>Bool.noConfusion h)|(intro h;omega)|(intro h;simp at h;omega)),rfl,rfl⟩ (ZG 5 fl))
    have UK:¬(w1>=0):=Yh dq YE
    exact Z0 (ZP ⟨false,(by first|exact (fun h=>Bool.noConfusion h)|(intro h;omega)|(intro h;simp at h;omega)),rfl,rfl⟩ (ZG 5 fl))
   have Te:¬(k1<3):=Yh dq ZB
   exact Z0 (ZP ⟨false,(by first|exact (fun h=>Bool.noConfusion h)|(intro h;omega)|(intro h;simp at h;omega)),rfl,rfl⟩ (ZG 5 fl))
  rintro F h ⟨wb,kR8_0,rfl,rfl⟩
  refine ac wb Iff.rfl (fun Zg=>?_) (fun Zg=>?_)
  ·refine az (ZO 4 [3] (ic [0,3] (Z8e rd bs (p+1) g gb rs _ i w1 (ZL:=ob) (hw:=(by have:=kR8_0 (by assumption);omega))) ?_))
   rintro _ _ ⟨e2,p22,rfl,rfl,Tf⟩
   have hbd:=Tf.1
   have hbp:=Tf.2
   exact ZI 2 b3 (X3 e2) (ie (ZP ⟨e2,p22,(GE.le hbd om),ob,rfl,rfl⟩ (wk [1,0,1,1,0] fl)))
  refine aq (XW (fun fz gz F h=>∃(wb:Bool),(wb=true->0<f.params.length)/\F=sF [0,2,4,6,7,8,10,11] fz [(77,.b wb)]/\h=gz) ?_ ?_)
  ·refine az (Z2 3 (ib (b:=(decide (k1<3))) 59 (fun WM=>?_) (fun WM=>?_)))
   ·have QG:k1<3:=(dq).1 WM
    refine Z2 1 (iw (Yf f.params) (Z2 3 (ib (b:=(decide ((f.params.length:Int)>0))) 64 (fun Vi=>?_) (fun Vi=>?_))))
    ·have Qq:(f.params.length:Int)>0:=(dq).1 Vi
     refine Z2 1 ?_
     obtain ⟨x1,Z3⟩:=Zs f.params 0 om
     refine Zo (Zj none 0 1 (Y3 Z3)) (Z2 4 (ib (b:=(x1==3)) 70 (fun Vz=>?_) (fun Vz=>?_)))
     ·have J6:x1=3:=(Zq).1 Vz
      refine Z2 3 (ib (b:=(f.result==0)) 73 (fun Vp=>?_) (fun Vp=>?_))
      ·have KG:f.result=0:=(Zq).1 Vp
       exact Z0 (ZP ⟨true,(by first|exact (fun h=>Bool.noConfusion h)|(intro h;omega)|(intro h;simp at h;omega)),rfl,rfl⟩ (ZG 5 fl))
      have Bg:¬(f.result=0):=Yh Zq Vp
      exact Z0 (ZP ⟨(f.result==3),(by first|exact (fun h=>Bool.noConfusion h)|(intro h;omega)|(intro h;simp at h;omega)),rfl,rfl⟩ (ZG 5 fl))
     have JE:¬(x1=3):=Yh Zq Vz
     exact Z0 (ZP ⟨false,(by first|exact (fun h=>Bool.noConfusion h)|(intro h;omega)|(intro h;simp at h;omega)),rfl,rfl⟩ (ZG 5 fl))
    have P7:¬((f.params.length:Int)>0):=Yh dq Vi
    exact Z0 (ZP ⟨false,(by first|exact (fun h=>Bool.noConfusion h)|(intro h;omega)|(intro h;simp at h;omega)),rfl,rfl⟩ (ZG 5 fl))
   have P8:¬(k1<3):=Yh dq WM
   exact Z0 (ZP ⟨false,(by first|exact (fun h=>Bool.noConfusion h)|(intro h;omega)|(intro h;simp at h;omega)),rfl,rfl⟩ (ZG 5 fl))
  rintro F h ⟨wb,kR10_0,rfl,rfl⟩
  refine ac wb Iff.rfl (fun ZC=>?_) (fun ZC=>?_)
  ·refine az (ZO 3 [3] (ic [0,3] (Z8f rd bs (p+1) g gb rs _ i (ZL:=ob) (h0:=(kR10_0 (by assumption)))) ?_))
   rintro _ _ ⟨e3,p23,rfl,rfl,IU⟩
   have hbd:=IU.1
   have hbp:=IU.2
   exact ZI 2 b3 (X3 e3) (ie (ZP ⟨e3,p23,(GE.le hbd om),ob,rfl,rfl⟩ (wk [1,0,1,1,0] fl)))
  refine aq (XW (fun fz gz F h=>∃(wb:Bool),(wb=true->0<f.params.length)/\F=sF [0,2,4,6,7,8,10] fz [(102,.b wb)]/\h=gz) ?_ ?_)
  ·refine az (Z2 3 (ib (b:=(decide (k1<3))) 84 (fun Vq=>?_) (fun Vq=>?_)))
   ·have Z97:k1<3:=(dq).1 Vq
    refine Z2 1 (iw (Yf f.params) (Z2 3 (ib (b:=(decide ((f.params.length:Int)>0))) 89 (fun QF=>?_) (fun QF=>?_))))
    ·have Z98:(f.params.length:Int)>0:=(dq).1 QF
     refine Z2 1 ?_
     obtain ⟨x2,Zx⟩:=Zs f.params 0 om
     refine Zo (Zj none 0 1 (Y3 Zx)) (Z2 4 (ib (b:=(x2==0)) 95 (fun Av=>?_) (fun Av=>?_)))
     ·have Z99:x2=0:=(Zq).1 Av
      refine Z2 3 (ib (b:=(f.result==0)) 98 (fun Aw=>?_) (fun Aw=>?_))
      ·have Z9a:f.result=0:=(Zq).1 Aw
       exact Z0 (ZP ⟨true,(by first|exact (fun h=>Bool.noConfusion h)|(intro h;omega)|(intro h;simp at h;omega)),rfl,rfl⟩ (ZG 5 fl))
      have Z9b:¬(f.result=0):=Yh Zq Aw
      exact Z0 (ZP ⟨(f.result==1),(by first|exact (fun h=>Bool.noConfusion h)|(intro h;omega)|(intro h;simp at h;omega)),rfl,rfl⟩ (ZG 5 fl))
     have Z9c:¬(x2=0):=Yh Zq Av
     exact Z0 (ZP ⟨false,(by first|exact (fun h=>Bool.noConfusion h)|(intro h;omega)|(intro h;simp at h;omega)),rfl,rfl⟩ (ZG 5 fl))
    have Z9d:¬((f.params.length:Int)>0):=Yh dq QF
    exact Z0 (ZP ⟨false,(by first|exact (fun h=>Bool.noConfusion h)|(intro h;omega)|(intro h;simp at h;omega)),rfl,rfl⟩ (ZG 5 fl))
   have Z9e:¬(k1<3):=Yh dq Vq
   exact Z0 (ZP ⟨false,(by first|exact (fun h=>Bool.noConfusion h)|(intro h;omega)|(intro h;simp at h;omega)),rfl,rfl⟩ (ZG 5 fl))
  rintro F h ⟨wb,kR12_0,rfl,rfl⟩
  refine ac wb Iff.rfl (fun Yg=>?_) (fun Yg=>?_)
  ·refine az (ZO 3 [3] (ic [0,3] (Z7m rd bs (p+1) g gb rs _ i (ZL:=ob) (h0:=(kR12_0 (by assumption)))) ?_))
   rintro _ _ ⟨e4,p24,rfl,rfl,IV⟩
   have hbd:=IV.1
   have hbp:=IV.2
   exact ZI 2 b3 (X3 e4) (ie (ZP ⟨e4,p24,(GE.le hbd om),ob,rfl,rfl⟩ (wk [1,0,1,1,0] fl)))
  refine az (ZO 4 [3] (ic [0,3] (OM rd bs (p+1) g gb rs f.params f.result 18 (ZL:=ob)) ?_))
  rintro _ _ ⟨e5,p25,rfl,rfl,IW⟩
  have hbd:=IW.1
  have hbp:=IW.2
  exact ZI 2 b3 (X3 e5) (ie (ZP ⟨e5,p25,(GE.le hbd om),ob,rfl,rfl⟩ (wk [1,0,1,1,0] fl)))
 rintro F h ⟨eQ,p6,J7,L8,rfl,rfl⟩
 refine Yl 1 [1] (ic [] (OU eQ (hz:=(by have:=J7.2;omega))) ?_)
 rintro _ _ ⟨w2,rfl,rfl,P9⟩
 have E7:=P9
 have Xr:=J7.2
 refine Y5 (w2<0) (fun Xf=>?_) (fun Xf=>?_)
 ·refine Zw 4 [3] (ic [0,3] (OM rd bs p6 g gb rs f.params f.result 12 (ZL:=ob)) ?_)
  rintro _ _ ⟨e6,p26,rfl,rfl,FY⟩
  have hbd:=FY.1
  have hbp:=FY.2
  exact ZI 3 b2 (X3 e6) (ie (ZD (r3 [1,1] [Y7 e6] [0] [(b2,b2)] ⟨e6,p26,rfl,rfl,⟨hbd,by omega⟩⟩ (lr _))))
 exact ak (Zw 1 [1] (ZI 2 b2 (X3 eQ) (ie (ZD (r3 [1,3] [Y7 eQ] [0] [(b2,b2)] ⟨eQ,p6,rfl,rfl,⟨⟨J7.1,by omega⟩,by omega⟩⟩ (lr _))))))
theorem Q6 (ps:LI) (rt:Int) :Zk 199 [Z5 ps,.i rt] [] (Ys (DF (Func.mk ps rt (Z1.mk 0 0 [])))):=by
 exact ZF 8 Tryz.func199 (ar (iA [nl,.i 0,.i 0,.i 0,nl] fun b1=>ie (Ya 3 (ZI 0 b1 [Z5 ps,.i rt,.i 0,.i 0,nl] (ie (ZD (r3 [] [.agg [Z5 ps,.i rt,.i 0,.i 0,nl]] [0] [(b1,b1)] ⟨rfl,rfl⟩ (Ze.agg (.cons (Ze.sl _ (Yp Z7 ob)) (.cons li (.cons li (.cons li (.cons (Ze.sl _ rfl) .nil)))))))))))))
theorem Z8d (rd:Nat) (bs:LI) (p:Nat) (xs:LI) (ZL:∀z∈bs,0<=z/\z<=255) (hp:p+1<=1000000000:=by exact ob) (hx:0<xs.length/\xs.length<=1000000:=by exact ob) (hy:xs.all (fun x=>decide (0<=x))=true:=by exact ob):Zk 153 [.p rd 0,Z5 xs] [Yy rd bs p] (fun r h=>∃(nn:Nat),r=.i nn/\h=[.obj rd [Uh bs,.i (p+1:Nat)]]/\(nn:Int)∈xs):=(Ue rd bs p xs ZL hp hx).mono fun r h ⟨z,hr,hh,hz⟩=>by
  have h0:0<=z:=of_decide_eq_true (JJ.1 hy z hz)
  exact ⟨z.toNat,by rw [hr,Int.toNat_of_nonneg h0],hh,by rw [Int.toNat_of_nonneg h0];exact hz⟩
theorem Z75 (rd:Nat) (bs:LI) (p:Nat) (g:Wg) (gb:Nat) (rs:List Func) (f:Func) (i:Int) (nl:Nat) (ZL:∀z∈bs,0<=z/\z<=255) (hp:p+90000<=1000000000:=by exact ob) (hg:GP g:=by exact ob) (WA:g.funcs <+: rs:=by exact ob) (hi:0<=i:=by exact ob) (hf:g.funcs[i.toNat]? = some f:=by exact ob) (h0:i=0->f.params.length=0:=by exact ob) (hn:g.funcs.length=nl:=by exact ob):Zk 200 [.p rd 0,.agg [ZT g.decls,.ms gb 0 nl 4],.i i] [Yy rd bs p,XT gb rs] (fun r h=>∃(e:Z1) (p2:Nat),r=Y7 e/\h=[Yy rd bs p2,XT gb rs]/\GE g f.params.length 30 e/\p<=p2/\p2<=p+90000):=(by subst hn;exact Z74 rd bs p g gb rs f i ZL hp hg WA hi hf h0)
theorem Z7s (rd:Nat) (bs:LI) (p:Nat) (ZL:∀z∈bs,0<=z/\z<=255) (hp:p+400000<=1000000000):Zk 145 [.p rd 0] [Yy rd bs p] (fun r h=>∃(rs:List Func) (ds:List Zf) (m:Nat) (gb:Nat) (p2:Nat),r=.agg [ZT ds,.ms gb 0 m 4]/\h=[XT gb rs,Yy rd bs p2]/\(GL ds m 0 rs/\GD ds/\1<=m/\m<=4)/\p<=p2/\p2<=p+400000):=by
 refine ZF 110 Tryz.func145 (ar (iA [nl,nl] fun b1=>ie (Ya 1 (ic [1] (Z7q rd bs p (ZL:=ob)) ?_))))
 rintro _ _ ⟨ds1,v1,rfl,rfl,ZX⟩
 have hgd:=ZX
 refine Z2 1 (iA [nl,nl] fun b2=>ZI 0 b2 [A0 ds1 v1,nl] (ie (ar (iL (Z7 [1]) 1 1 fun v2=>ZU 0 [(13,Z5 [1])] (Zz [] (Q6 [1] 0) (iL (Z7 [1,1]) 2 1 fun v3=>ZU 0 [(15,Z5 [1,1])] (Zz [] (Q6 [1,1] 1) (iL (Z7 [1]) 1 1 fun v4=>ZU 0 [(17,Z5 [1])] (Zz [] (Q6 [1] 1) (iL (Z7 [1,0]) 2 1 fun v5=>ZU 0 [(19,Z5 [1,0])] (Zz [] (Q6 [1,0] 1) (iL (Z7 [2,1]) 2 1 fun v6=>ZU 0 [(21,Z5 [2,1])] (Zz [] (Q6 [2,1] 1) (iL (Z7 [1,1]) 2 1 fun v7=>ZU 0 [(23,Z5 [1,1])] (Zz [] (Q6 [1,1] 0) (iL (Xz [Func.mk [1] 0 (Z1.mk 0 0 []),Func.mk [1,1] 1 (Z1.mk 0 0 []),Func.mk [1] 1 (Z1.mk 0 0 []),Func.mk [1,0] 1 (Z1.mk 0 0 []),Func.mk [2,1] 1 (Z1.mk 0 0 []),Func.mk [1,1] 0 (Z1.mk 0 0 [])]) 6 5 fun v8=>Z0 (ar (iL (Z7 [3]) 1 1 fun v9=>ZU 0 [(26,Z5 [3])] (Zz [] (Q6 [3] 0) (iL (Z7 [0]) 1 1 fun v10=>ZU 0 [(28,Z5 [0])] (Zz [] (Q6 [0] 1) (iL (Z7 [0,1]) 2 1 fun v11=>ZU 0 [(30,Z5 [0,1])] (Zz [] (Q6 [0,1] 1) (iL (Z7 [3,0]) 2 1 fun v12=>ZU 0 [(32,Z5 [3,0])] (Zz [] (Q6 [3,0] 3) (iL (Z7 [3]) 1 1 fun v13=>ZU 0 [(34,Z5 [3])] (Zz [] (Q6 [3] 1) (iL (Z7 [1,3,0]) 3 1 fun v14=>ZU 0 [(36,Z5 [1,3,0])] (Zz [] (Q6 [1,3,0] 0) (iL (Xz [Func.mk [3] 0 (Z1.mk 0 0 []),Func.mk [0] 1 (Z1.mk 0 0 []),Func.mk [0,1] 1 (Z1.mk 0 0 []),Func.mk [3,0] 3 (Z1.mk 0 0 []),Func.mk [3] 1 (Z1.mk 0 0 []),Func.mk [1,3,0] 0 (Z1.mk 0 0 [])]) 6 5 fun v15=>Z0 (ar (iL (Z7 [0]) 1 1 fun v16=>ZU 0 [(39,Z5 [0])] (Zz [] (Q6 [0] 0) (iL (Z7 [0,0]) 2 1 fun v17=>ZU 0 [(41,Z5 [0,0])] (Zz [] (Q6 [0,0] 0) (iL (Z7 [1,0]) 2 1 fun v18=>ZU 0 [(43,Z5 [1,0])] (Zz [] (Q6 [1,0] 0) (iL (Z7 [0]) 1 1 fun v19=>ZU 0 [(45,Z5 [0])] (Zz [] (Q6 [0] 1) (iL (Xz [Func.mk [0] 0 (Z1.mk 0 0 []),Func.mk [0,0] 0 (Z1.mk 0 0 []),Func.mk [1,0] 0 (Z1.mk 0 0 []),Func.mk [0] 1 (Z1.mk 0 0 [])]) 4 5 fun v20=>Z0 (aD 26 (Zm 23 26 [2,3,4] (dn 5 (.i (([Func.mk [1] 0 (Z1.mk 0 0 []),Func.mk [1,1] 1 (Z1.mk 0 0 []),Func.mk [1] 1 (Z1.mk 0 0 []),Func.mk [1,0] 1 (Z1.mk 0 0 []),Func.mk [2,1] 1 (Z1.mk 0 0 []),Func.mk [1,1] 0 (Z1.mk 0 0 [])].length:Nat):Int)) (.i (((Xz [Func.mk [1] 0 (Z1.mk 0 0 []),Func.mk [1,1] 1 (Z1.mk 0 0 []),Func.mk [1] 1 (Z1.mk 0 0 []),Func.mk [1,0] 1 (Z1.mk 0 0 []),Func.mk [2,1] 1 (Z1.mk 0 0 []),Func.mk [1,1] 0 (Z1.mk 0 0 [])]).length:Nat):Int)) (li (by rw [CJ])) (Zm 19 22 [9,10,11] (dn 12 (.i (([Func.mk [3] 0 (Z1.mk 0 0 []),Func.mk [0] 1 (Z1.mk 0 0 []),Func.mk [0,1] 1 (Z1.mk 0 0 []),Func.mk [3,0] 3 (Z1.mk 0 0 []),Func.mk [3] 1 (Z1.mk 0 0 []),Func.mk [1,3,0] 0 (Z1.mk 0 0 [])].length:Nat):Int)) (.i (((Xz [Func.mk [3] 0 (Z1.mk 0 0 []),Func.mk [0] 1 (Z1.mk 0 0 []),Func.mk [0,1] 1 (Z1.mk 0 0 []),Func.mk [3,0] 3 (Z1.mk 0 0 []),Func.mk [3] 1 (Z1.mk 0 0 []),Func.mk [1,3,0] 0 (Z1.mk 0 0 [])]).length:Nat):Int)) (li (by rw [CJ])) (Zm 15 18 [16,17,18] (dn 19 (.i (([Func.mk [0] 0 (Z1.mk 0 0 []),Func.mk [0,0] 0 (Z1.mk 0 0 []),Func.mk [1,0] 0 (Z1.mk 0 0 []),Func.mk [0] 1 (Z1.mk 0 0 [])].length:Nat):Int)) (.i (((Xz [Func.mk [0] 0 (Z1.mk 0 0 []),Func.mk [0,0] 0 (Z1.mk 0 0 []),Func.mk [1,0] 0 (Z1.mk 0 0 []),Func.mk [0] 1 (Z1.mk 0 0 [])]).length:Nat):Int)) (li (by rw [CJ])) (Z9 0 (dL 0 [] [] (Z7 []) 0 1 fun v21=>Yw 13 13 [] [(48,Z5 [])] (Z9 1 (Yo 1 [] [] [] (Q6 [] 0) (Z9 6 (dc 6 [22] [] [] (Wn rd bs (p+1) (([Func.mk [1] 0 (Z1.mk 0 0 []),Func.mk [1,1] 1 (Z1.mk 0 0 []),Func.mk [1] 1 (Z1.mk 0 0 []),Func.mk [1,0] 1 (Z1.mk 0 0 []),Func.mk [2,1] 1 (Z1.mk 0 0 []),Func.mk [1,1] 0 (Z1.mk 0 0 [])].length:Nat):Int) (ZL:=ob)) ?_)))))))))))))))))))))))))))))))))))))))))))))))))))))
 rintro _ _ ⟨k1,rfl,rfl,Yk⟩
 have qhp2:=Yk.lt (by simp)
 simp only [YT,XA] at qhp2
 obtain ⟨x1,Z3⟩:=Zs [Func.mk [1] 0 (Z1.mk 0 0 []),Func.mk [1,1] 1 (Z1.mk 0 0 []),Func.mk [1] 1 (Z1.mk 0 0 []),Func.mk [1,0] 1 (Z1.mk 0 0 []),Func.mk [2,1] 1 (Z1.mk 0 0 []),Func.mk [1,1] 0 (Z1.mk 0 0 [])] k1.toNat (by simp only [YT,XA];omega)
 refine dx 7 (Zj (some v8) k1 5 (Fv Z3)) (Zm 9 10 [8] (Z9 13 (dc 13 [0] [] [] (Wn rd bs ((p+1)+1) (([Func.mk [3] 0 (Z1.mk 0 0 []),Func.mk [0] 1 (Z1.mk 0 0 []),Func.mk [0,1] 1 (Z1.mk 0 0 []),Func.mk [3,0] 3 (Z1.mk 0 0 []),Func.mk [3] 1 (Z1.mk 0 0 []),Func.mk [1,3,0] 0 (Z1.mk 0 0 [])].length:Nat):Int) (ZL:=ob)) ?_)))
 rintro _ _ ⟨k2,rfl,rfl,YG⟩
 have qhp3:=YG.lt (by simp)
 simp only [YT,XA] at qhp3
 obtain ⟨x2,Zx⟩:=Zs [Func.mk [3] 0 (Z1.mk 0 0 []),Func.mk [0] 1 (Z1.mk 0 0 []),Func.mk [0,1] 1 (Z1.mk 0 0 []),Func.mk [3,0] 3 (Z1.mk 0 0 []),Func.mk [3] 1 (Z1.mk 0 0 []),Func.mk [1,3,0] 0 (Z1.mk 0 0 [])] k2.toNat (by simp only [YT,XA];omega)
 refine dx 14 (Zj (some v15) k2 5 (Fv Zx)) (Zm 6 7 [15] (Z9 20 (dc 20 [0] [] [] (Wn rd bs (((p+1)+1)+1) (([Func.mk [0] 0 (Z1.mk 0 0 []),Func.mk [0,0] 0 (Z1.mk 0 0 []),Func.mk [1,0] 0 (Z1.mk 0 0 []),Func.mk [0] 1 (Z1.mk 0 0 [])].length:Nat):Int) (ZL:=ob)) ?_)))
 rintro _ _ ⟨k3,rfl,rfl,YR⟩
 have qhp4:=YR.lt (by simp)
 simp only [YT,XA] at qhp4
 obtain ⟨x3,YS⟩:=Zs [Func.mk [0] 0 (Z1.mk 0 0 []),Func.mk [0,0] 0 (Z1.mk 0 0 []),Func.mk [1,0] 0 (Z1.mk 0 0 []),Func.mk [0] 1 (Z1.mk 0 0 [])] k3.toNat (by simp only [YT,XA];omega)
 refine dx 21 (Zj (some v20) k3 5 (Fv YS)) (Zm 3 4 [22] (Z9 23 (dKN 23 [] [] (Zp (Xz [Func.mk [] 0 (Z1.mk 0 0 []),x1,x2,x3])) 4 5 fun g1=>Zm 1 2 [24] (Z9 25 (YK 25 22 [] [] b2 [A0 ds1 v1,.ms g1 0 4 4] (de (Ya 1 (iL (Z7 [4,4,3,2,4]) 5 1 fun v22=>ZU 0 [(74,Z5 [4,4,3,2,4])] (ic [3] (Z8d rd bs ((((p+1)+1)+1)+1) [4,4,3,2,4] (ZL:=ob) (hy:=(by decide))) ?_)))))))))
 rintro _ _ ⟨nn1,rfl,rfl,Xl⟩
 have hnn:=Zcd (a:=2) (b:=4) Xl (by decide)
 refine Z0 (Zw 3 [2] (Zo (La 3 g1 4 4 nn1 5 (Zp (Xz [Func.mk [] 0 (Z1.mk 0 0 []),x1,x2,x3]))) (Z2 1 (ZI 2 b2 [A0 ds1 v1,.ms g1 0 nn1 4] (ie (YO 1 (ia (((nn1:Int)-1)) (((nn1:Int))-(1)) (Z0 (ab 0 (Y6 (fun fz gz m F h=>∃(j:Nat) (rq:List Func) (pq:Nat),(j<=nn1)/\(GL ds1 nn1 j rq)/\(p<=pq/\pq+90000*j<=p+10+90000*nn1)/\F=sF [0,2,3] fz [(8,.i ((j:Int)-1))]/\h=[Zc gz 0,Yy rd bs pq,Zc gz 25,Zc gz 24,XT g1 rq]/\m=j+1) _ _ _ ⟨nn1,[Func.mk [] 0 (Z1.mk 0 0 []),x1,x2,x3],((((p+1)+1)+1)+1)+1,ob,(GL.start (Me Z3 (by decide)) (Me Zx (by decide)) (Me YS (by decide))),ob,rfl,rfl,rfl⟩ (wk [0,0,23,22,1] fl) ?_))))))))))
 rintro m F h ⟨j,rq,pq,Yj,Zl,Zy,rfl,rfl,rfl⟩
 refine X9 (Y5 (((j:Int)-1)>=0) (fun Za=>?_) (fun Za=>?_))
 ·obtain ⟨f1,hf1⟩:=Zs (rq.take nn1) (((j:Int)-1).toNat) (by rw [Zl.len_take om];omega)
  have hfq:rq[j-1]? = some f1:=by have h:=hf1;rw [show ((j:Int)-1).toNat=j-1 by omega,List.getElem?_take_of_lt om] at h;exact h
  refine ak (aq (ab 1 (ar (QL 3 [(88,.agg [ZT ds1,.ms g1 0 nn1 4])] [0] (ic [1,3] (Z75 rd bs pq (Wg.mk ds1 (rq.take nn1)) g1 rq f1 ((j:Int)-1) nn1 (ZL:=ob) (hg:=(Zl.gp hgd om)) (WA:=(List.take_prefix nn1 rq)) (hf:=hf1) (h0:=(fun h=>Zl.zero f1 (by rw [<-hfq,show j-1=0 by omega]))) (hn:=(Zl.len_take om))) ?_)))))
  rintro _ _ ⟨e1,p21,rfl,rfl,W2⟩
  have hbw:eW ds1 nn1 f1.params.length e1/\(e1).sz<=30:=by have h:=W2.1;unfold GE at h;rw [show (Wg.mk ds1 (rq.take nn1)).funcs.length=nn1 from Zl.len_take om] at h;exact h
  exact iA [.i 0,.i 0,nl] fun b3=>ZI 0 b3 (X3 e1) (ie (aE 19 (ZH 13 19 [0,1,2,3,4,5] [3,3] (dx 6 (Ww g1 nn1 4 (((j:Int)-1).toNat) 5 ((j:Int)-1)) (Zm 11 12 [7] (Uq 8 (VA 2 g1 4 4 5 ((((j:Int)-1).toNat)*5+0) (Zp (Xz rq)) [Z5 f1.params] 31 (Z5 f1.params) (UW (List.take_prefix nn1 rq) hf1 0 rfl (Vn rfl))) (ZH 7 10 [9,10,11] [3] (dx 12 (Ww g1 nn1 4 (((j:Int)-1).toNat) 5 ((j:Int)-1)) (Zm 5 6 [13] (Uq 14 (VA 2 g1 4 4 5 ((((j:Int)-1).toNat)*5+1) (Zp (Xz rq)) [.i f1.result] 3 (.i f1.result) (UW (List.take_prefix nn1 rq) hf1 1 rfl (Vn rfl))) (ZH 2 4 [15,16] [0] (dx 17 (Ww g1 nn1 4 (((j:Int)-1).toNat) 5 ((j:Int)-1)) (Z9 18 (B5 18 2 [] [] g1 4 4 5 ((((j:Int)-1).toNat)*5) [Z5 f1.params,.i f1.result,.i e1.op,.i e1.num,XH e1.kids] (Zp (Xz rq)) (Zp (Xz (rq.set ((j:Int)-1).toNat ⟨f1.params,f1.result,e1⟩))) (by rw [Iv,Zl.len];simp only [YT,XA];omega) (Z6t ⟨f1.params,f1.result,e1⟩ (by rw [Zl.len];omega)) (de (az (Z2 1 (ia ((((j:Int)-1)-1)) (((j:Int)-1)-(1)) (Z0 (ZK ⟨(j-1),(rq.set ((j:Int)-1).toNat ⟨f1.params,f1.result,e1⟩),p21,ob,(by rw [show ((j:Int)-1).toNat=j-1 by omega];exact Zl.set om hfq hbw),ob,rfl,rfl,rfl⟩ (wk [3,2,2,2,0] (fc (x:=.i (((j:Int)-1)-1)) li fl))))))))))))))))))))))
 exact ax 0 (Zw 1 [0] (ZI 2 b1 [A0 ds1 v1,.ms g1 0 nn1 4] (ie (ZD (r3 [4,2] [.agg [A0 ds1 v1,.ms g1 0 nn1 4]] [0] [(b1,b1)] ⟨rq,ds1,nn1,g1,pq,rfl,rfl,⟨⟨by rw [show j=0 by omega] at Zl;exact Zl,hgd,by omega,by omega⟩,by omega⟩⟩ (Ze.agg (.cons (Ze.forget _ _) (.cons (lr _) .nil))))))))
theorem Z7r (rd:Nat) (bs:LI) (p:Nat) (ZL:∀z∈bs,0<=z/\z<=255) (hp:p+400000<=1000000000:=by exact ob):Zk 145 [.p rd 0] [Yy rd bs p] (fun r h=>∃(g:Wg) (p2:Nat),r=Ag g/\h=[Yy rd bs p2]/\Hu g/\p<=p2/\p2<=p+400000):=(WR.frzP (E:=List Func × List Zf × Nat × Nat) (ds:=fun e=>e.2.1) (rs:=fun e=>e.1) (m:=fun e=>e.2.2.1) (hs:=fun e=>[.obj rd [Uh bs,.i (e.2.2.2:Nat)]]) (Q:=fun e=>(GL e.2.1 e.2.2.1 0 e.1/\GD e.2.1/\1<=e.2.2.1/\e.2.2.1<=4)/\p<=e.2.2.2/\e.2.2.2<=p+400000)
  ((Z7s rd bs p ZL hp).mono fun r h ⟨rs,ds,m,gb,p2,hr,hh,hq⟩=>⟨(rs,ds,m,p2),gb,hr,hh,hq⟩) fun e hq=>⟨hq.1.2.2.2,hq.1.1.len⟩).mono
  fun r h ⟨e,hr,hh,hq⟩=>⟨⟨e.2.1,e.1.take e.2.2.1⟩,e.2.2.2,hr,hh,hq.1.1.done hq.1.2.1 hq.1.2.2,hq.2⟩
theorem IK (a:Nat) (n:Nat) (ha:a<=1000000:=by exact ob) (hn:n<=1000000:=by exact ob):Zk 198 [.i a,.i n] [] (fun r h=>∃(xs:LI),r=Z5 xs/\h=[]/\xs.length=n/\∀i∈xs,(a:Int)<=i/\i<(a:Int)+n):=by
 refine ZF 20 Tryz.func198 (ZE (ar (iL (Z7 []) 0 1 fun v1=>?_)))
 refine Z0 (Yi (ab 0 (Y6 (fun fz gz m F h=>∃(k:Nat) (ys:LI) (u:Value),(k<=n)/\(ys.length=k)/\(∀i∈ys,(a:Int)<=i/\i<(a:Int)+n)/\F=sF [0,1] fz [(5,ZQ ys u),(6,.i k)]/\h=[.tail u 1]/\m=n-k) _ _ _ ⟨0,[],v1,ob,ob,(fun i hi=>by cases hi),rfl,rfl,rfl⟩ (wk [0] (fr (Yd fl))) ?_)))
 rintro m F h ⟨k,ys,u,Yj,Zl,Zy,rfl,rfl,rfl⟩
 refine X9 (Y5 ((k:Int)<(n:Int)) (fun Za=>?_) (fun Za=>?_))
 ·exact ak (aq (ab 1 (az (Z2 3 (ia (((a+k:Nat):Int)) (((a:Int))+((k:Int))) (iL (Z7 [((a+k:Nat):Int)]) 1 1 fun v2=>ZU 0 [(17,Z5 [((a+k:Nat):Int)])] (ip 1 (Z7 (ys++[((a+k:Nat):Int)])) (Z7 ys) (Z7 [((a+k:Nat):Int)]) u none 1 (YC _) (YC _) (We _) (by simp<;>omega) (by simp [Wd,Z7]) fun v3=>Z0 (az (Z2 1 (ZJ k (Z0 (ZK ⟨k+1,(ys++[((a+k:Nat):Int)]),v3,ob,ob,(XJ Zy om),rfl,rfl,rfl⟩ (wk [0] (fr (ZM k fl)))))))))))))))
 exact ax 0 (ar (Zr (r2 [] [ZQ ys u] ⟨ys,rfl,rfl,⟨by omega,Zy⟩⟩ (Ze.forget _ _))))
theorem OI (l:Nat) (xs:List Z4) (w:Value) (q:Nat) (s:Z4) (hl:xs.length<=4000000000:=by exact ob) (hq:q<=1000000:=by exact ob):Zk 271 [.p l 0,YI s] [.obj l [X4 xs w,.i q],.tail w 5] (fun r h=>∃(w2:Value),r=.i q/\h=[.obj l [X4 (xs++[s]) w2,.i (((q+1):Nat):Int)],.tail w2 5]):=by
 exact ZF 28 Tryz.func271 (ar (iA (XG s) fun b1=>Z0 (aD 11 (ZH 5 11 [0,1,2,3,4,5] [1,0] (Z9 6 (WK 6 [1] [l] [YI s] (Zv [s]) (Vx [s]).symm 1 5 fun v1=>Yw 4 4 [] [(11,Wz [s])] (Z9 7 (dp 7 3 [] [] (Zv (xs++[s])) (Zv xs) (Zv [s]) w none 5 (Xe _) (Xe _) (VP _) (by simp<;>omega) (by simp [WW,Zv]) fun v2=>Zm 1 3 [8,9] (Z9 10 (YK 10 3 [] [] l [X4 (xs++[s]) v2,.i q] (de (Zw 5 [0] (ZJ q (Z2 2 (ZI 0 l [X4 (xs++[s]) v2,.i (q+1:Nat)] (ie (Zw 4 [0] (ia ((((q+1:Nat):Int)-1)) ((((q+1:Nat):Int))-(1)) (Zr (r2 [0,0] [.i (((q+1:Nat):Int)-1)] ⟨v2,rfl,rfl⟩ li))))))))))))))))))))
theorem OS (g:Wg) (e:Z1) (us:LI) (q:Nat) (bb:Nat) (he:eW g.decls g.funcs.length us.length e:=by exact ob) (hu:∀a∈us,0<=a/\a<(q:Int)) (hul:us.length+4*e.sz<=100000:=by exact ob) (hql:q+6*e.sz<=100000:=by exact ob) (hb:e.sz<bb:=by exact ob) (ih:∀(l:Nat) (e2:Z1) (us2:LI) (xs2:List Z4) (w2:Value) (q2:Nat),(eW g.decls g.funcs.length us2.length e2)->(∀a∈us2,0<=a/\a<(q2:Int))->(us2.length+4*e2.sz<=100000)->(xs2.length+6*e2.sz<=100000)->(q2+6*e2.sz<=100000)->(e2.sz<bb)->Zk 234 [.p l 0,Ag g,Y7 e2,Z5 us2] [.obj l [X4 xs2 w2,.i q2],.tail w2 5] (fun r h=>∃(ys:List Z4) (v:Int) (w2:Value),r=.i v/\h=[.obj l [X4 (xs2++ys) w2,.i (((q2+X5 ys):Nat):Int)],.tail w2 5]/\LW g.decls g.funcs.length q2 e2 ys v)):Zk 197 [Ag g,Y7 e,Z5 us,.i q] [] (fun r h=>∃(b:Z6),r=ZZ b/\h=[]/\LB g.decls g.funcs.length q e b):=by
 refine ZF 26 Tryz.func197 (ar (iA (Lg g) fun b1=>iA (X3 e) fun b2=>iA [nl,.i 0] fun b3=>ie (ar (iL (Zv []) 0 5 fun v1=>Z2 2 (iA [X4 [] v1,.i q] fun b4=>Z0 (Zw 4 [4,3] (ic [0,0] (ih b4 e us [] v1 q he hu ob ob ob ob) ?_)))))))
 rintro _ _ ⟨ys1,v2,w21,rfl,rfl,ZX⟩
 have hlw:=ZX
 exact Z0 (Zw 6 [0] (ZI 2 b3 [X4 ([]++ys1) w21,.i v2] (ie (ZD (r3 [] [.agg [X4 ([]++ys1) w21,.i v2]] [0] [(b3,b3)] ⟨(Z6.mk ([]++ys1) v2),rfl,rfl,(by rw [BI];exact hlw.block)⟩ (Ze.agg (.cons (Ze.forget _ _) (.cons (lr _) .nil))))))))
theorem Z85 (l:Nat) (g:Wg) (e:Z1) (us:LI) (xs:List Z4) (w:Value) (q:Nat) (hd:GD g.decls) (he:eW g.decls g.funcs.length us.length e) (hu:∀a∈us,0<=a/\a<(q:Int)) (hul:us.length+4*e.sz<=100000) (hxl:xs.length+6*e.sz<=100000) (hql:q+6*e.sz<=100000) (ih:∀(l:Nat) (e2:Z1) (us2:LI) (xs2:List Z4) (w2:Value) (q2:Nat),(eW g.decls g.funcs.length us2.length e2)->(∀a∈us2,0<=a/\a<(q2:Int))->(us2.length+4*e2.sz<=100000)->(xs2.length+6*e2.sz<=100000)->(q2+6*e2.sz<=100000)->(e2.sz<e.sz)->Zk 234 [.p l 0,Ag g,Y7 e2,Z5 us2] [.obj l [X4 xs2 w2,.i q2],.tail w2 5] (fun r h=>∃(ys:List Z4) (v:Int) (w2:Value),r=.i v/\h=[.obj l [X4 (xs2++ys) w2,.i (((q2+X5 ys):Nat):Int)],.tail w2 5]/\LW g.decls g.funcs.length q2 e2 ys v)):Zk 234 [.p l 0,Ag g,Y7 e,Z5 us] [.obj l [X4 xs w,.i q],.tail w 5] (fun r h=>∃(ys:List Z4) (v:Int) (w2:Value),r=.i v/\h=[.obj l [X4 (xs++ys) w2,.i (((q+X5 ys):Nat):Int)],.tail w2 5]/\LW g.decls g.funcs.length q e ys v):=by
 have XB:=hd.ok
 obtain ⟨ho,h12,h13,h7,h8,h9,hnum,hkl,hks⟩:=(Z6c e).1 he
 have hez:=e.sz_eq
 refine ZF 148 Tryz.func234 (ar (iA (Lg g) fun b1=>iA (X3 e) fun b2=>Z0 (X9 (VT [0] (ab 0 (ar (YH (e.op==12) Zq (fun Za=>?_) (fun Za=>?_))))))))
 ·refine Zw 3 [0] ?_
  obtain ⟨x1,Z3⟩:=Zs us e.num.toNat (by have:=h12 om;omega)
  have huv:=hu _ (ZW Z3)
  exact Zo (Zj none e.num 1 (Y3 Z3)) (Zr (r1 [2,2] ⟨[],x1,w,rfl,rfl,(LW.var huv)⟩ (eq:=(ro (ls:=[X4 xs w,.i q]) (by simp [X5]) (rc rz)))))
 refine ar (YH (e.op==13) Zq (fun Zg=>?_) (fun Zg=>?_))
 ·refine aD 9 (ZH 5 9 [0,1,2,3] [1,0] ?_)
  obtain ⟨x2,Zx⟩:=Zs e.kids 0 (by have:=h13 om;omega)
  have hekx2:=CK hks Zx
  have hszx2:=C0 Zx
  have htzx2:=Ba Zx
  rw [Vu] at hekx2
  rw [Sv om] at hekx2
  refine dx 4 (Zj none 0 3 (CI Zx)) (Zm 2 4 [5,6] (Z9 7 (dc 7 [2,2] [] [] (ih l x2 us xs w q (by first|assumption|(rw [Yt];assumption)) (by first|assumption|exact EN hu hlwhp1.v|exact Ha hu) (by first|omega|(simp only [Yt,YT,XA];omega)) (by first|omega|(simp only [Yt,YT,XA];omega)) ob ob) ?_)))
  rintro _ _ ⟨ys1,v1,w21,rfl,rfl,ZX⟩
  have hlwhp1:=ZX
  have hldhp1:=ZX.dn
  refine Zm 0 1 [8] (de (aD 12 (ZH 8 12 [0,1,2,3] [3,2] ?_)))
  obtain ⟨x3,YS⟩:=Zs e.kids 1 (by have:=h13 om;omega)
  have hz2:=Ol Zx YS
  have hz3:=x2.sz_eq
  have hekx3:=CK hks YS
  have hszx3:=C0 YS
  have htzx3:=Ba YS
  rw [Vu] at hekx3
  rw [Sv om] at hekx3
  refine dx 4 (Zj none 1 3 (CI YS)) (Zm 4 7 [5,6,7] (Z9 8 (dL 8 [1,2] [b2,b1] (Z7 [v1]) 1 1 fun v2=>Yw 3 3 [] [(45,Z5 [v1])] (Z9 9 (dc 9 [] [1,2] [b2,b1] (Kn us [v1]) ?_)))))
  rintro _ _ ⟨v3,rfl,rfl⟩
  refine Yw 2 2 [] [(46,Z5 (us++[v1]))] (Z9 10 (dc 10 [2,2] [] [] (ih l x3 (us++[v1]) (xs++ys1) w21 (q+X5 ys1) (by first|assumption|(rw [Yt];assumption)) (by first|assumption|exact EN hu hlwhp1.v|exact Ha hu) (by first|omega|(simp only [Yt,YT,XA];omega)) (by first|omega|(simp only [Yt,YT,XA];omega)) ob ob) ?_))
  rintro _ _ ⟨ys2,v4,w22,rfl,rfl,Yk⟩
  have hlwhp2:=Yk
  have hldhp2:=Yk.dn
  exact Zm 0 1 [11] (de (ZD (r1 [0,0] ⟨(ys1++ys2),v4,w22,rfl,rfl,(LW.let_ hlwhp1 hlwhp2 (by have:=Ol Zx YS;omega))⟩ (eq:=(ro (ls:=[X4 ((xs++ys1)++ys2) w22,.i ((((q+X5 ys1)+X5 ys2):Nat):Int)]) (by rw [Jw,<-AR,Qg]) (rc rz))))))
 refine Yi (XW (fun fz gz F h=>F=sF [0,3,5,6] fz [(48,.b ((e.op==7)||(e.op==8)))]/\h=gz) ?_ ?_)
 ·refine ac (e.op==7) Zq (fun ZC=>?_) (fun ZC=>?_)
  ·exact ak (ZP ⟨rfl,rfl⟩ (ZG 4 (fc (x:=.b (e.op==7)) (lb (by first|rfl|(rw [Zd ZC])|(rw [Z8 ZC])|(simp [ZC];done)|(rw [Xx];simp [ZC];done)|omega)) fl)))
  exact Td (ZP ⟨rfl,rfl⟩ (ZG 4 (fc (x:=.b (e.op==8)) (lb (by first|rfl|(rw [Zd ZC])|(rw [Z8 ZC])|(simp [ZC];done)|(rw [Xx];simp [ZC];done)|omega)) fl)))
 rintro F h ⟨rfl,rfl⟩
 refine ac ((e.op==7)||(e.op==8)) (p:=(e.op=7)∨(e.op=8)) (Yr Zq Zq) (fun Yg=>?_) (fun Yg=>?_)
 ·refine aD 9 (ZH 5 9 [0,1,2,3] [1,0] ?_)
  obtain ⟨x4,VI⟩:=Zs e.kids 0 om
  have hekx4:=CK hks VI
  have hszx4:=C0 VI
  have htzx4:=Ba VI
  rw [Vu] at hekx4
  rw [Zej om] at hekx4
  refine dx 4 (Zj none 0 3 (CI VI)) (Zm 2 4 [5,6] (Z9 7 (dc 7 [2,2] [] [] (ih l x4 us xs w q (by first|assumption|(rw [Yt];assumption)) (by first|assumption|exact EN hu hlwhp1.v|exact Ha hu) (by first|omega|(simp only [Yt,YT,XA];omega)) (by first|omega|(simp only [Yt,YT,XA];omega)) ob ob) ?_)))
  rintro _ _ ⟨ys3,v5,w23,rfl,rfl,YG⟩
  have hlwhp3:=YG
  have hldhp3:=YG.dn
  refine Zm 0 1 [8] (de (ar (iL (YM []) 0 2 fun v6=>Z0 (Zw 4 [4,3] (ic [] (A3 g.decls e.num) ?_)))))
  rintro _ _ ⟨v7,rfl,rfl⟩
  refine Z0 (Yi (ab 1 (Y6 (fun fz gz m F h=>∃(k:Nat) (cs:List Z6) (u:Value),(1<=k/\k<=e.kids.length)/\(cs.length+1=k)/\(TS g.decls g.funcs.length (T0 g.decls e.op e.num (q+X5 ys3)) 0 cs)/\(Xc cs+6*x4.sz<=cs.length+6*XF (e.kids.take k))/\(Kh V1 cs)/\F=sF [0,3,5,6,10] fz [(11,Ty cs u),(12,Z5 (ZY g.decls e.num)),(13,.i k)]/\h=[Zc gz 2,Zc gz 4,Zc gz 5,.tail u 2,Zc gz 3]/\m=e.kids.length-k) _ _ _ ⟨1,[],v6,ob,ob,True.intro,(by have h:XF (e.kids.take 1)=XF (e.kids.take 0)+x4.sz:=Ba VI;simp only [Xc,XA];omega),True.intro,rfl,rfl,rfl⟩ (wk [2,3,3,1,1] (fr (fc (x:=ZQ (ZY g.decls e.num) v7) (Ze.forget _ _) (fc (x:=.i 1) li fl)))) ?_)))
  rintro m F h ⟨k,cs,u,Yj,Zl,Zy,Yv,XY,rfl,rfl,rfl⟩
  refine Yl 3 [1] (iw (Ik e.kids) (Y5 ((k:Int)<(e.kids.length:Int)) (fun Xf=>?_) (fun Xf=>?_)))
  ·refine ak (aq (ab 2 (ZE (X9 (VT [1] (XW (fun fz gz F h=>∃(mf:Nat),(T0 g.decls e.op e.num (q+X5 ys3) cs.length=(q+X5 ys3)+mf)/\(mf<=3)/\(Qe g.decls e.op e.num us.length k=us.length+mf)/\F=sF [0,3,5,6,10,11,12,13] fz [(14,.i mf)]/\h=gz) ?_ ?_))))))
   ·refine ac (e.op==8) Zq (fun Xo=>?_) (fun Xo=>?_)
    ·refine aE 10 (ZH 6 10 [0,1,2,3] [2] (da 4 (((k-1:Nat):Int)) (((k:Int))-(1)) ?_))
     obtain ⟨x5,UA⟩:=Zs (ZY g.decls e.num) (k-1) (by have:=h8 om;omega)
     exact dx 5 (Zj none ((k-1:Nat):Int) 1 (Y3 UA)) (Zm 3 4 [6] (Z9 7 (Yo 7 [] [] [] (KN g.decls x5) (dn 8 (.i (((ZV g.decls x5).length:Nat):Int)) (.i (((Z7 (ZV g.decls x5)).length:Nat):Int)) (li (by rw [Yf])) (Zm 0 1 [9] (de (ZP ⟨(ZV g.decls x5).length,(M9 om (by rw [show cs.length=k-1 by omega];exact UA)),(by have:=Ud XB x5;omega),(Zek om (show k=(k-1)+1 by omega) UA),rfl,rfl⟩ (ZG 5 (fc (x:=.i (((ZV g.decls x5).length:Nat):Int)) (li (by first|rfl|(rw [Zd Xo])|(rw [Z8 Xo])|(simp [Xo];done)|(rw [Xx];simp [Xo];done)|omega)) fl)))))))))
    exact ak (ZP ⟨0,(Ma om),om,(Sw om),rfl,rfl⟩ (ZG 5 (fc (x:=.i 0) (li (by first|rfl|(rw [Zd Xo])|(rw [Z8 Xo])|(simp [Xo];done)|(rw [Xx];simp [Xo];done)|omega)) fl)))
   rintro F h ⟨mf,Zau,Zir,Zav,rfl,rfl⟩
   refine aE 25 (ZH 20 25 [0,1,2,3,4] [2,1] ?_)
   obtain ⟨x6,C6⟩:=Zs e.kids k om
   have hekx6:=CK hks C6
   have hszx6:=C0 C6
   have htzx6:=Ba C6
   rw [Vu] at hekx6
   rw [Zav] at hekx6
   have htk:=Aq (xs:=e.kids) (k+1)
   have hbl:=Fb cs
   refine dx 5 (Zj none (k:Int) 3 (CI C6)) (ZH 7 19 [6,7,8,9,10,11,12,15,16,17,18,19] [0,0] (da 20 ((((q+X5 ys3)+mf:Nat):Int)) (((((q+X5 ys3):Nat):Int))+((mf:Int))) (Z9 13 (dc 13 [] [0,1,2] [l,b2,b1] (IK (q+X5 ys3) mf) ?_))))
   rintro _ _ ⟨xs1,rfl,rfl,YR⟩
   have hnx:=YR
   refine Z9 14 (dc 14 [] [0,1,2] [l,b2,b1] (Kn us xs1) ?_)
   rintro _ _ ⟨v8,rfl,rfl⟩
   refine Yw 4 4 [] [(98,Z5 (us++xs1))] (Z9 21 (dc 21 [] [] [] (OS g x6 (us++xs1) ((q+X5 ys3)+mf) e.sz (he:=(by rw [Yt,hnx.1];exact hekx6)) (hu:=(Zhm hu hnx.2)) (hul:=(by rw [Yt,hnx.1];omega)) (hql:=om) (ih:=ih)) ?_))
   rintro _ _ ⟨b3,rfl,rfl,Xl⟩
   have hlb:=Xl
   exact Z9 22 (WK 22 [] [] [ZZ b3] (YM [b3]) (Tp [b3]).symm 1 2 fun v9=>Yw 2 2 [] [(106,Wb [b3])] (Z9 23 (dp 23 5 [] [] (YM (cs++[b3])) (YM cs) (YM [b3]) u none 2 (Q4 _) (Q4 _) (Ft _) (by simp<;>omega) (by simp [An,YM]) fun v10=>Zm 0 1 [24] (de (az (Z2 1 (ZJ k (Z0 (ZK ⟨k+1,(cs++[b3]),v10,ob,ob,(On Zy (by rw [Zau];exact hlb.1)),(by have:=hlb.2;rw [DL,Yt];simp only [Xc,YT,XA];omega),(RB XY hlb.op),rfl,rfl,rfl⟩ (wk [3,3,3,0,2] (fw (ZM k fl))))))))))))
  refine ax 1 (Zw 6 [1,1] (iL (Z7 [v5]) 1 1 fun v11=>ZU 2 [(116,.agg [.i e.op,.i e.num,.i 0,Z5 [v5],Wb cs])] (ic [1,4] (OI l (xs++ys3) w23 (q+X5 ys3) (Z4.mk e.op e.num 0 [v5] cs) (hl:=(by first|(have h1:=Jg zs;have h2:=Aq (xs:=e.kids) k;have h3:=B6 zs;(try simp only [Yt]);omega)|((try simp only [Yt]);omega))) (hq:=(by first|(have h1:=Jg zs;have h2:=Aq (xs:=e.kids) k;have h3:=B6 zs;(try simp only [Yt]);omega)|((try simp only [Yt]);omega)))) ?_)))
  rintro _ _ ⟨w24,rfl,rfl⟩
  refine Z0 ?_
  have hcb:YF e.op=false:=by simp [YF];omega
  exact ZD (r1 [0,0] ⟨(ys3++[Z4.mk e.op e.num 0 [v5] cs]),(((q+X5 ys3):Nat):Int),w24,rfl,rfl,(LW.branch (s0:=x4.sz) (sr:=XF (e.kids.take k)-x4.sz) om (fun h=>by have:=h7 h;omega) (fun h=>by have:=h8 h;omega) hnum hlwhp3.fs hlwhp3.v Zy om hlwhp3.sz (by have:=Fb cs;omega) (by have:=Aq (xs:=e.kids) k;omega) hlwhp3.op XY)⟩ (eq:=(ro (ls:=[X4 ((xs++ys3)++[(Z4.mk e.op e.num 0 [v5] cs)]) w24,.i ((((q+X5 ys3)+1):Nat):Int)]) (by rw [DR (s:=Z4.mk e.op e.num 0 [v5] cs) hcb,<-AR,Qg]) (rc rz))))
 refine ak (ar (iL (Z7 []) 0 1 fun v12=>?_))
 refine Z0 (Yi (ab 3 (Y6 (fun fz gz m F h=>∃(k:Nat) (asl:LI) (u:Value) (zs:List Z4) (w3:Value),(k<=e.kids.length)/\(asl.length=k)/\(Tt g.decls g.funcs.length q zs)/\(∀a∈asl,0<=a/\a<((q+X5 zs:Nat):Int))/\(Yb zs<=6*XF (e.kids.take k))/\(Qb V1 zs)/\F=sF [0,3,5,6] fz [(15,ZQ asl u),(16,.i k)]/\h=[Zc gz 1,Zc gz 2,.obj l [X4 (xs++zs) w3,.i (((q+X5 zs):Nat):Int)],.tail u 1,.tail w3 5]/\m=e.kids.length-k) _ _ _ ⟨0,[],v12,[],w,ob,ob,True.intro,(fun a ha=>by cases ha),(by simp [Yb]),True.intro,rfl,rfl,rfl⟩ (wk [1,1,1,0,0] (fr (Yd fl)) (e:=(rc (rc (ro (ls:=[X4 xs w,.i q]) (by simp [X5]) (rc (rc rz))))))) ?_)))
 rintro m F h ⟨k,asl,u,zs,w3,Up,Wa,XZ,Jr,Zif,NC,rfl,rfl,rfl⟩
 refine Yl 3 [0] (iw (Ik e.kids) (Y5 ((k:Int)<(e.kids.length:Int)) (fun U2=>?_) (fun U2=>?_)))
 ·refine ak (aq (ab 4 (aD 10 (ZH 5 10 [0,1,2,3,4] [1,0] ?_))))
  obtain ⟨x7,FZ⟩:=Zs e.kids k om
  have hzl:=Jg zs
  have hzd:=B6 zs
  have htk:=Aq (xs:=e.kids) (k+1)
  have hekx7:=CK hks FZ
  have hszx7:=C0 FZ
  have htzx7:=Ba FZ
  rw [Vu] at hekx7
  rw [Sw om] at hekx7
  refine dx 5 (Zj none (k:Int) 3 (CI FZ)) (Zm 2 4 [6,7] (Z9 8 (dc 8 [2,3] [] [] (ih l x7 us (xs++zs) w3 (q+X5 zs) (by first|assumption|(rw [Yt];assumption)) (by first|assumption|exact EN hu hlwhp1.v|exact Ha hu) (by first|omega|(simp only [Yt,YT,XA];omega)) (by first|omega|(simp only [Yt,YT,XA];omega)) ob ob) ?_)))
  rintro _ _ ⟨ys4,v13,w25,rfl,rfl,W2⟩
  have hlwhp6:=W2
  have hldhp6:=W2.dn
  exact Zm 0 1 [9] (de (az (Z2 2 (iL (Z7 [v13]) 1 1 fun v14=>ZU 0 [(137,Z5 [v13])] (ip 5 (Z7 (asl++[v13])) (Z7 asl) (Z7 [v13]) u none 1 (YC _) (YC _) (We _) (by simp<;>omega) (by simp [Wd,Z7]) fun v15=>Z0 (az (Z2 1 (ZJ k (Z0 (ZK ⟨k+1,(asl++[v13]),v15,(zs++ys4),w25,ob,ob,(CN.2 ⟨XZ,hlwhp6.fs⟩),(by rw [Jw,<-AR];exact EN Jr hlwhp6.v),(by have:=hlwhp6.sz;rw [TN];omega),(Gv.2 ⟨NC,hlwhp6.op⟩),rfl,rfl,rfl⟩ (wk [4,4,2,0,1] (fr (ZM k fl)) (e:=(rc (rc (ro (ls:=[X4 ((xs++zs)++ys4) w25,.i ((((q+X5 zs)+X5 ys4):Nat):Int)]) (by rw [Jw,<-AR,Qg]) (rc (rc rz)))))))))))))))))
 refine ax 3 (Zw 6 [0,0] (iL (YM []) 0 2 fun v16=>ZU 1 [(146,.agg [.i e.op,.i e.num,.i 0,Z5 asl,Wb []])] (ic [3,4] (OI l (xs++zs) w3 (q+X5 zs) (Z4.mk e.op e.num 0 asl []) (hl:=(by first|(have h1:=Jg zs;have h2:=Aq (xs:=e.kids) k;have h3:=B6 zs;(try simp only [Yt]);omega)|((try simp only [Yt]);omega))) (hq:=(by first|(have h1:=Jg zs;have h2:=Aq (xs:=e.kids) k;have h3:=B6 zs;(try simp only [Yt]);omega)|((try simp only [Yt]);omega)))) ?_)))
 rintro _ _ ⟨w26,rfl,rfl⟩
 refine Z0 ?_
 have hcb:YF e.op=false:=by simp [YF];omega
 exact ZD (r1 [0,0] ⟨(zs++[Z4.mk e.op e.num 0 asl []]),(((q+X5 zs):Nat):Int),w26,rfl,rfl,(LW.node om h9 hnum XZ Jr om (by have:=Aq (xs:=e.kids) k;omega) NC)⟩ (eq:=(ro (ls:=[X4 ((xs++zs)++[(Z4.mk e.op e.num 0 asl [])]) w26,.i ((((q+X5 zs)+1):Nat):Int)]) (by rw [DR (s:=Z4.mk e.op e.num 0 asl []) hcb,<-AR,<-Qg]) (rc rz))))
theorem Z84 (l:Nat) (g:Wg) (e:Z1) (us:LI) (xs:List Z4) (w:Value) (q:Nat) (hd:GD g.decls) (he:eW g.decls g.funcs.length us.length e) (hu:∀a∈us,0<=a/\a<(q:Int)) (hul:us.length+4*e.sz<=100000) (hxl:xs.length+6*e.sz<=100000) (hql:q+6*e.sz<=100000):Zk 234 [.p l 0,Ag g,Y7 e,Z5 us] [.obj l [X4 xs w,.i q],.tail w 5] (fun r h=>∃(ys:List Z4) (v:Int) (w2:Value),r=.i v/\h=[.obj l [X4 (xs++ys) w2,.i (((q+X5 ys):Nat):Int)],.tail w2 5]/\LW g.decls g.funcs.length q e ys v):=by
 have key:∀k:Nat,∀(l:Nat) (e2:Z1) (us2:LI) (xs2:List Z4) (w2:Value) (q2:Nat),(eW g.decls g.funcs.length us2.length e2)->(∀a∈us2,0<=a/\a<(q2:Int))->(us2.length+4*e2.sz<=100000)->(xs2.length+6*e2.sz<=100000)->(q2+6*e2.sz<=100000)->(e2.sz<k)->Zk 234 [.p l 0,Ag g,Y7 e2,Z5 us2] [.obj l [X4 xs2 w2,.i q2],.tail w2 5] (fun r h=>∃(ys:List Z4) (v:Int) (w2:Value),r=.i v/\h=[.obj l [X4 (xs2++ys) w2,.i (((q2+X5 ys):Nat):Int)],.tail w2 5]/\LW g.decls g.funcs.length q2 e2 ys v):=by
  intro k
  induction k with
  | zero=>intro l e2 us2 xs2 w2 q2 h1 h2 h3 h4 h5 h6;omega
  | succ k ih=>intro l e2 us2 xs2 w2 q2 h1 h2 h3 h4 h5 h6;exact Z85 l g e2 us2 xs2 w2 q2 hd h1 h2 h3 h4 h5 fun l e3 us3 xs3 w3 q3 a1 a2 a3 a4 a5 a6=>ih l e3 us3 xs3 w3 q3 a1 a2 a3 a4 a5 om
 exact key (e.sz+1) l e us xs w q he hu hul hxl hql om
theorem IJ (g:Wg) (e:Z1) (us:LI) (q:Nat) (hd:GD g.decls:=by exact ob) (he:eW g.decls g.funcs.length us.length e:=by exact ob) (hu:∀a∈us,0<=a/\a<(q:Int)) (hul:us.length+4*e.sz<=100000:=by exact ob) (hql:q+6*e.sz<=100000:=by exact ob):Zk 197 [Ag g,Y7 e,Z5 us,.i q] [] (fun r h=>∃(b:Z6),r=ZZ b/\h=[]/\LB g.decls g.funcs.length q e b):=(OS g e us q (e.sz+1) he hu hul hql om (fun l e2 us2 xs2 w2 q2 h1 h2 h3 h4 h5 _=>Z84 l g e2 us2 xs2 w2 q2 hd h1 h2 h3 h4 h5))
theorem Cj (ds:List Zf) (hd:WC ds:=by exact ob):Zk 81 [ZT ds] [] (Ys (ZT ds)):=by
 have hdl:=hd.len
 refine ZF 55 Tryz.func81 (ZE (ar (iL (X8 []) 0 3 fun v1=>?_)))
 refine Z0 (Yi (ab 0 (Y6 (fun fz gz m F h=>∃(k:Nat) (v:Value),(k<=ds.length)/\F=sF [0] fz [(3,A0 (ds.take k) v),(4,.i k)]/\h=[.tail v 3]/\m=ds.length-k) _ _ _ ⟨0,v1,ob,rfl,rfl,rfl⟩ (wk [0] (fc (x:=A0 [] v1) (Ze.slh _ (Yp X8 rfl)) (Yd fl))) ?_)))
 rintro m F h ⟨k,v,Yj,rfl,rfl,rfl⟩
 refine YO 2 (iw (UJ ds) (Y5 ((k:Int)<(ds.length:Int)) (fun Za=>?_) (fun Za=>?_)))
 ·obtain ⟨xd,hxd⟩:=Zs ds k om
  have hcl:=hd.cons_at hxd
  refine ak (aq (ab 1 (ar (iL (V7 []) 0 1 fun v2=>?_))))
  refine Z0 (Yi (ab 2 (Y6 (fun fz gz m F h=>∃(j:Nat) (u:Value),(j<=xd.cons.length)/\F=sF [0,3,4] fz [(5,Gs (xd.cons.take j) u),(6,.i j)]/\h=[.tail u 1,Zc gz 1]/\m=xd.cons.length-j) _ _ _ ⟨0,v2,ob,rfl,rfl,rfl⟩ (wk [0,0] (fc (x:=Gs [] v2) (Ze.slh _ (Yp V7 rfl)) (Yd fl))) ?_)))
  rintro m F h ⟨j,u,Up,rfl,rfl,rfl⟩
  refine YO 3 (Zo (Zj none (k:Int) 3 (VZ hxd)) (Z2 2 (iw (Ta xd.cons) (Y5 ((j:Int)<(xd.cons.length:Int)) (fun Zg=>?_) (fun Zg=>?_)))))
  ·refine ak (aq (ab 3 (az (Z2 3 (Zo (Zj none (k:Int) 3 (VZ hxd)) (Z2 3 ?_))))))
   obtain ⟨x1,Z3⟩:=Zs xd.cons j om
   have hfl:=hd.fields_at hxd Z3
   refine Zo (Zj none (j:Int) 1 (CF Z3)) (Z2 2 (ic [] (UD x1.fields) ?_))
   rintro _ _ ⟨v3,rfl,rfl⟩
   exact ZU 1 [(36,DE x1)] (iL (V7 [x1]) 1 1 fun v4=>ZU 0 [(37,Jc [x1])] (ip 2 (V7 (xd.cons.take (j+1))) (V7 (xd.cons.take j)) (V7 [x1]) u none 1 (Ih _) (Ih _) (Z62 _) (by simp<;>omega) (by rw [Vl Z3];simp [V7]) fun v5=>Z0 (az (Z2 1 (ZJ j (Z0 (ZK ⟨j+1,v5,ob,rfl,rfl,rfl⟩ (wk [0,2] (fr (ZM j fl))))))))))
  exact ax 2 (aE 16 (Zm 13 16 [0,1,2] (dx 3 (Zj none (k:Int) 3 (VZ hxd)) (Zm 8 12 [4,5,6,7] (dx 8 (Zj none (k:Int) 3 (VZ hxd)) (Yw 3 7 [9,10,11,12] [(51,.agg [.i xd.frm,.i xd.to_,Jc (xd.cons.take j)])] (Z9 13 (dL 13 [] [] (X8 [Zf.mk xd.frm xd.to_ (xd.cons.take j)]) 1 3 fun v6=>Yw 2 2 [] [(52,ZT [Zf.mk xd.frm xd.to_ (xd.cons.take j)])] (Z9 14 (dp 14 2 [] [] (X8 (ds.take (k+1))) (X8 (ds.take k)) (X8 [Zf.mk xd.frm xd.to_ (xd.cons.take j)]) v none 3 (Jy _) (Jy _) (Fu _) (by simp<;>omega) (by rw [Vl hxd];simp [X8,Vt (show xd.cons.length<=j by omega)]) fun v7=>Zm 0 1 [15] (de (az (Z2 1 (ZJ k (Z0 (ZK ⟨k+1,v7,ob,rfl,rfl,rfl⟩ (wk [0] (fr (ZM k fl)))))))))))))))))))
 exact ax 0 (ar (Zr (Y4 (A0 (ds.take k) v) (Ze.sl _ (Yp X8 (by rw [Vt om]))))))
theorem Z8c (g:Wg) (hg:Hu g:=by exact ob):Zk 144 [Ag g] [] (fun r h=>∃(n:Zi),r=Yq n/\h=[]/\FO n 181 V1):=by
 have hgl:=hg.gp.len
 have XB:=hg.gp.decls.ok
 refine ZF 49 Tryz.func144 (ar (iA (Lg g) fun b1=>iA [nl,nl] fun b2=>ie (Zw 2 [1] (Zz [] (Cj g.decls) (iL (YQ []) 0 5 fun v1=>Z2 1 (iA [nl,nl] fun b3=>?_))))))
 refine ZI 0 b3 [ZT g.decls,WT [] v1] (ie (Yi (ab 0 (Y6 (fun fz gz m F h=>∃(k:Nat) (rs:List Y8) (u:Value),(k<=g.funcs.length)/\(rs.length=k)/\(∀r∈rs,RN g.decls g.funcs.length r)/\F=sF [1,2,3] fz [(4,.i k)]/\h=[.obj b3 [ZT g.decls,WT rs u],Zc gz 2,Zc gz 3,.tail u 5]/\m=g.funcs.length-k) _ _ _ ⟨0,[],v1,ob,ob,(fun r hr=>by cases hr),rfl,rfl,rfl⟩ (wk [0,1,1,0] (Yd fl)) ?_))))
 rintro m F h ⟨k,rs,u,Yj,Zl,Zy,rfl,rfl,rfl⟩
 refine Yl 3 [2] (iw (CJ g.funcs) (Y5 ((k:Int)<(g.funcs.length:Int)) (fun Za=>?_) (fun Za=>?_)))
 ·refine ak (aq (ab 1 (Zw 3 [2] ?_)))
  obtain ⟨x1,Z3⟩:=Zs g.funcs k om
  have hso:=(hg.gp.sigs _ (ZW Z3)).bd
  have hsi:=hg.gp.sigs _ (ZW Z3)
  have hbo:=hg.body _ (ZW Z3)
  refine Zo (Zj none (k:Int) 5 (Fv Z3)) (Z2 1 (iA [nl,.i 0,.i 0,.i 0,nl] fun b4=>?_))
  refine ZI 0 b4 (Gh x1) (ie (Zw 2 [0] (iw (Yf x1.params) (Z0 (aD 9 (ZH 4 9 [0,1,2,3,5] [3,0] (J2 (fun fz gz F h=>∃(b5:Z6) (b6:Nat) (xs1:LI),(xs1.length=x1.params.length/\∀i∈xs1,(0:Int)<=i/\i<(0:Int)+x1.params.length)/\(LB g.decls g.funcs.length x1.params.length x1.body b5)/\F=sF [1,2,3,4,5] fz [(7,.p b6 0)]/\h=[.obj b6 (Xm b5),Zc gz 0,Zc gz 1,Zc gz 2,Zc gz 3,Zc gz 4]) ?_ ?_)))))))
  ·refine VN 4 7 ?_ ?_
   ·refine dc 4 [] [0,3] [b4,b1] (IK 0 x1.params.length) ?_
    rintro _ _ ⟨xs1,rfl,rfl,ZX⟩
    have hnx:=ZX
    refine VN 6 7 ?_ ?_
    ·refine dc 6 [] [] [] (IJ g x1.body xs1 x1.params.length (hd:=hg.gp.decls) (he:=(by rw [hnx.1];exact hbo.1)) (hu:=(fun a ha=>by have:=hnx.2 a ha;omega))) ?_
     rintro _ _ ⟨b5,rfl,rfl,Yk⟩
     have hlb:=Yk
     exact Z9 7 (dA 7 [] [] [nl,.i 0] fun b6=>Z9 8 (YK 8 0 [] [] b6 (Xm b5) (de (ZP ⟨_,b6,_,(by assumption),(by assumption),rfl,rfl⟩ (ZG 6 fl)))))
    refine dA 7 [0,3] [b4,b1] [nl,.i 0] fun b7=>Z9 6 (dc 6 [] [] [] (IJ g x1.body xs1 x1.params.length (hd:=hg.gp.decls) (he:=(by rw [hnx.1];exact hbo.1)) (hu:=(fun a ha=>by have:=hnx.2 a ha;omega))) ?_)
    rintro _ _ ⟨b8,rfl,rfl,YG⟩
    have hlb:=YG
    exact Z9 8 (YK 8 0 [] [] b7 (Xm b8) (de (ZP ⟨_,b7,_,(by assumption),(by assumption),rfl,rfl⟩ (ZG 6 fl))))
   refine dA 7 [0,3] [b4,b1] [nl,.i 0] fun b9=>Z9 4 (dc 4 [] [1,4] [b4,b1] (IK 0 x1.params.length) ?_)
   rintro _ _ ⟨xs2,rfl,rfl,YR⟩
   have hnx:=YR
   refine Z9 6 (dc 6 [] [] [] (IJ g x1.body xs2 x1.params.length (hd:=hg.gp.decls) (he:=(by rw [hnx.1];exact hbo.1)) (hu:=(fun a ha=>by have:=hnx.2 a ha;omega))) ?_)
   rintro _ _ ⟨b10,rfl,rfl,Xl⟩
   have hlb:=Xl
   exact Z9 8 (YK 8 0 [] [] b9 (Xm b10) (de (ZP ⟨_,b9,_,(by assumption),(by assumption),rfl,rfl⟩ (ZG 6 fl))))
  rintro F h ⟨b5,b6,xs1,ZX,Yk,rfl,rfl⟩
  have hnx:=ZX
  have hlb:=Yk
  refine aE 14 (ZH 7 14 [0,1,2,3,6,7,8] [2,1,1,0] (VN 4 5 ?_ ?_))
  ·refine dc 4 [] [0,1,2] [b6,b4,b3] (UD x1.params) ?_
   rintro _ _ ⟨v2,rfl,rfl⟩
   exact Z9 5 (dL 5 [0,1,2] [b6,b4,b3] (Z7 []) 0 1 fun v3=>Yw 4 5 [9] [(44,.agg [Z5 x1.params,Z5 [],.i x1.result,Wz b5.steps,.i b5.result])] (Z9 10 (dL 10 [2] [b3] (YQ [Y8.mk x1.params [] x1.result (Z6.mk b5.steps b5.result)]) 1 5 fun v4=>Yw 3 3 [] [(45,KJ [Y8.mk x1.params [] x1.result (Z6.mk b5.steps b5.result)])] (Z9 11 (dp 11 8 [] [] (YQ (rs++[Y8.mk x1.params [] x1.result (Z6.mk b5.steps b5.result)])) (YQ rs) (YQ [Y8.mk x1.params [] x1.result (Z6.mk b5.steps b5.result)]) u none 5 (UV _) (UV _) (B9 _) (by simp<;>omega) (by simp [BX,YQ]) fun v5=>Zm 1 2 [12] (Z9 13 (YK 13 6 [] [] b3 [ZT g.decls,WT (rs++[Y8.mk x1.params [] x1.result (Z6.mk b5.steps b5.result)]) v5] (de (az (Z2 1 (ZJ k (Z0 (ZK ⟨k+1,(rs++[Y8.mk x1.params [] x1.result (Z6.mk b5.steps b5.result)]),v5,ob,ob,(XJ Zy (RN.of hsi hlb hbo.2)),rfl,rfl,rfl⟩ (wk [0,6,6,0] (ZM k fl)))))))))))))))
  refine dL 5 [0,1,1,2] [b6,b4,b4,b3] (Z7 []) 0 1 fun v6=>Z9 4 (dc 4 [] [0,1,2] [b6,b4,b3] (UD x1.params) ?_)
  rintro _ _ ⟨v7,rfl,rfl⟩
  exact Yw 4 5 [9] [(44,.agg [Z5 x1.params,Z5 [],.i x1.result,Wz b5.steps,.i b5.result])] (Z9 10 (dL 10 [2] [b3] (YQ [Y8.mk x1.params [] x1.result (Z6.mk b5.steps b5.result)]) 1 5 fun v8=>Yw 3 3 [] [(45,KJ [Y8.mk x1.params [] x1.result (Z6.mk b5.steps b5.result)])] (Z9 11 (dp 11 8 [] [] (YQ (rs++[Y8.mk x1.params [] x1.result (Z6.mk b5.steps b5.result)])) (YQ rs) (YQ [Y8.mk x1.params [] x1.result (Z6.mk b5.steps b5.result)]) u none 5 (UV _) (UV _) (B9 _) (by simp<;>omega) (by simp [BX,YQ]) fun v9=>Zm 1 2 [12] (Z9 13 (YK 13 6 [] [] b3 [ZT g.decls,WT (rs++[Y8.mk x1.params [] x1.result (Z6.mk b5.steps b5.result)]) v9] (de (az (Z2 1 (ZJ k (Z0 (ZK ⟨k+1,(rs++[Y8.mk x1.params [] x1.result (Z6.mk b5.steps b5.result)]),v9,ob,ob,(XJ Zy (RN.of hsi hlb hbo.2)),rfl,rfl,rfl⟩ (wk [0,6,6,0] (ZM k fl))))))))))))))
 exact ax 0 (Zw 1 [0] (ZI 1 b2 [ZT g.decls,WT rs u] (ie (ZD (r3 [] [.agg [ZT g.decls,WT rs u]] [0] [(b2,b2)] ⟨(Zi.mk g.decls rs),rfl,rfl,(RN.all hg.gp.decls (by show 1<=rs.length/\rs.length<=4;omega) (by show ∀r∈rs,RN g.decls rs.length r;rw [show rs.length=g.funcs.length by omega];exact Zy) om)⟩ (Ze.agg (.cons (lr _) (.cons (Ze.forget _ _) .nil))))))))
theorem Z06 (n:Zi) (hz:Un n:=by exact ob):Zk 108 [Yq n] [] (Ys (.b (XV n))):=by
 have hzl:=hz.len
 refine ZF 35 Tryz.func108 (ar (iA (YU n) fun b1=>Z0 (Yl 1 [0] (Zz [] (Zg5 n (hz:=hz.decls) (hr:=(fun r hr=>⟨hz.params r hr,hz.lent r hr⟩))) (YH (!U3 n) (p:=¬(U3 n=true)) (YA Iff.rfl) (fun Za=>?_) (fun Za=>?_))))))
 ·exact ar (Zr (Y4 (.b false) (lb (by first|rfl|omega|grind [XV]))))
 have hok:=Lx hz (by simpa using Za)
 refine ak (Yi (ab 0 (Y6 (fun fz gz m F h=>∃(k:Nat),(k<=n.routines.length)/\(Kl n (n.routines.drop k)=Kl n n.routines)/\F=sF [1] fz [(3,.i k)]/\h=gz/\m=n.routines.length-k) _ _ _ ⟨0,ob,ob,rfl,rfl,rfl⟩ (wk [0] (Yd fl)) ?_)))
 rintro m F h ⟨k,Yj,Zl,rfl,rfl,rfl⟩
 refine Yl 3 [0] (iw (Ur n.routines) (Y5 ((k:Int)<(n.routines.length:Int)) (fun Zg=>?_) (fun Zg=>?_)))
 ·refine ak (aq (ab 1 (Zw 3 [0] ?_)))
  obtain ⟨x1,Z3⟩:=Zs n.routines k om
  have ZL:=hz.body _ (ZW Z3)
  have hps:=hok.params_at Z3
  refine Zo (Zj none (k:Int) 5 (Wv Z3)) (Z2 1 (iA [nl,nl,.i 0,nl,.i 0] fun b2=>ZI 0 b2 (KH x1) (ie (aD 15 (ZH 13 15 [0,1] [0] (Z9 2 (Yo 2 [] [] [] (Zg0 x1.body) (Ak [1,3] [(34,.b ((decide ((TY x1.body)<0))||((Xh n x1.params x1.body) != x1.result)))] (fun gz=>gz) ?_ ?_))))))))
  ·refine Zm 10 12 [3,4] (db (b:=(decide ((TY x1.body)<0))) 24 (fun Zb=>?_) (fun Zb=>?_))
   ·exact Zm 0 10 [5,6,7,8,9,10,11,12,13,14] (de (wk [0,0] (Zt true Zb fl)))
   exact ZH 3 10 [5,6,7,8,9,11,12] [1,0,0,0] (Z9 10 (Yo 10 [] [0] [b2] (SU n x1.params x1.body ob ob) (Zm 0 2 [13,14] (de (wk [0,0] (Zt ((Xh n x1.params x1.body) != x1.result) Zb fl))))))
  refine ac ((decide ((TY x1.body)<0))||((Xh n x1.params x1.body) != x1.result)) (p:=((TY x1.body)<0)∨((Xh n x1.params x1.body)≠x1.result)) (Yr dq Ym) (fun ZC=>?_) (fun ZC=>?_)
  ·refine ZE ?_
   rw [Y9 Z3] at Zl
   exact ZD (Y4 (.b false) (lb (by clear Z3;first|rfl|omega|grind [Kl,XV])))
  refine ak (az (Z2 1 (ZJ k (Z0 ?_))))
  have hdr:=Y9 Z3
  exact ZK ⟨k+1,ob,(by rw [hdr] at Zl;clear hdr Z3;grind [Kl]),rfl,rfl,rfl⟩ (wk [1] (ZM k fl))
 refine ax 0 (ZE ?_)
 try rw [Xn (xs:=n.routines) (k:=k) om] at Zl
 exact ZD (Y4 (.b true) (lb (by first|rfl|omega|grind [Kl,XV])))
theorem SY (op:Int) :Zk 172 [.i op] [] (Ys (.b (YF op))):=by
 exact ZF 5 Tryz.func172 (ZE (Ya 1 (Zz [] (TA op 14 17) (Zr (Y4 (.b (decide (14<=op/\op<=17))) (lb (by first|rfl|omega|grind [YF])))))))
theorem SV (op:Int) :Zk 232 [.i op] [] (Ys (.b (T6 op))):=by
 refine ZF 17 Tryz.func232 (ZE (ar (XU 6 [0] [(8,.b ((op==6)||(op==9)))] (fun gz=>gz) ?_ (fun hj1=>?_))))
 ·refine XU 10 [0] [(12,.b (((op==6)||(op==9))||(op==10)))] (fun gz=>gz) ?_ (fun hj2=>?_)
  ·refine XU 14 [] [(16,.b ((((op==6)||(op==9))||(op==10))||(op==11)))] (fun gz=>gz) ?_ (fun hj3=>?_)
   ·exact Zr (Y4 (.b ((((op==6)||(op==9))||(op==10))||(op==11))) (lb (by first|rfl|omega|grind [T6])))
   refine Z2 1 (ib (b:=(((op==6)||(op==9))||(op==10))) 13 (fun Zb=>?_) (fun Zb=>?_))
   ·exact Z2 3 (YB (wk [] (Zt true Zb fl)) hj3)
   exact Z2 3 (YB (wk [] (Zt (op==11) Zb fl)) hj3)
  refine Z2 1 (ib (b:=((op==6)||(op==9))) 9 (fun ZB=>?_) (fun ZB=>?_))
  ·exact Z2 3 (YB (wk [] (Zt true ZB fl)) hj2)
  exact Z2 3 (YB (wk [] (Zt (op==10) ZB fl)) hj2)
 refine Z2 3 (ib (b:=(op==6)) 5 (fun YE=>?_) (fun YE=>?_))
 ·exact Z2 3 (YB (wk [] (Zt true YE fl)) hj1)
 exact Z2 3 (YB (wk [] (Zt (op==9) YE fl)) hj1)
theorem ED (n:Zi) (s:Z4) (i:Nat) (hn:X6 n:=by exact ob) (hnum:s.op=9->0<=s.num/\s.num<n.routines.length:=by exact ob):Zk 233 [Yq n,YI s,.i i] [] (Ys (.b (WH n s.op s.num i))):=by
 refine ZF 21 Tryz.func233 (ar (iA (YU n) fun b1=>iA (XG s) fun b2=>Z0 (Zw 4 [0] (ib (b:=(s.op==9)) 10 (fun Zb=>?_) (fun Zb=>?_)))))
 ·have ZX:s.op=9:=(Zq).1 Zb
  refine ZO 4 [1,0] ?_
  obtain ⟨x1,Z3⟩:=Zs n.routines s.num.toNat om
  have hlt:=hn.lent_at Z3
  have hlr:=Zbv (n:=n) ZX Z3
  exact Zo (Zj none s.num 5 (Wv Z3)) (Z2 3 (Zz [] (T1 x1.lent (i:Int)) (Zr (Y4 (.b (decide ((i:Int)∈x1.lent))) (lb (by rw [WH,hlr]))))))
 have Yk:¬(s.op=9):=Yh Zq Zb
 exact Zr (Y4 (.b false) (lb (by rw [WH,J8,Z8 Yk];simp)))
theorem H2 (n:Zi) (us:LI) (s:Z4) (i:Nat) (a:Int) (hn:X6 n:=by exact ob) (hnum:s.op=9->0<=s.num/\s.num<n.routines.length:=by exact ob) (ha:s.args[i]? = some a:=by exact ob) (hi:0<=a/\a<us.length:=by exact ob):Zk 257 [Yq n,Z5 us,YI s,.i i] [] (Ys (.b (UI n us s.op s.num a i))):=by
 have hal:=(Xq.1 ha).1
 refine ZF 30 Tryz.func257 (ar (iA (YU n) fun b1=>iA (XG s) fun b2=>Z0 (Zw 2 [0] (Zz [] (SV s.op) (Z2 1 (ib (b:=T6 s.op) 12 (fun Zb=>?_) (fun Zb=>?_)))))))
 ·refine ZO 4 [0] ?_
  obtain ⟨x1,Z3⟩:=Zs s.args i om
  have hxa:x1=a:=by rw [ha] at Z3;exact (Qh Z3).symm
  subst hxa
  refine Zo (Zj none (i:Int) 1 (Y3 Z3)) (Z2 1 ?_)
  obtain ⟨x2,Zx⟩:=Zs us x1.toNat om
  have hga:=VH Zx
  refine Zo (Zj none x1 1 (Y3 Zx)) (Z2 4 (ib (b:=(x2 != 0)) 23 (fun ZB=>?_) (fun ZB=>?_)))
  ·exact ZO 3 [1,0] (Zz [] (ED n s i) (Zr (Y4 (.b (!WH n s.op s.num i)) (lb (by clear Z3 Zx;first|rfl|(rw [UI];grind))))))
  exact Zr (Y4 (.b false) (lb (by clear Z3 Zx;first|rfl|(rw [UI];grind))))
 exact Zr (Y4 (.b false) (lb (by  first|rfl|(rw [UI];grind))))
theorem Z02 (xs:LI) (ys:LI) (hl_xs:xs.length<=4294967296:=by exact ob) (hl_ys:ys.length<=4294967296:=by exact ob):Zk 260 [Z5 xs,Z5 ys] [] (Ys (.b (decide (xs=ys)))):=by
 refine ZF 26 Tryz.func260 (ZE (YO 1 (iw (Yf xs) (Z2 1 (iw (Yf ys) (YH ((xs.length:Int) != (ys.length:Int)) Ym (fun Za=>?_) (fun Za=>?_)))))))
 ·exact ar (Zr (Y4 (.b false) (lb (eq_comm.1 (decide_eq_false (fun q=>by rw [q] at Za;exact Za rfl))))))
 refine ak (Yi (ab 0 (Y6 (fun fz gz m F h=>∃(k:Nat),(k<=xs.length)/\(xs.take k=ys.take k)/\F=sF [0,1] fz [(5,.i k)]/\h=gz/\m=xs.length-k) _ _ _ ⟨0,ob,ob,rfl,rfl,rfl⟩ (wk [] (Yd fl)) ?_)))
 rintro m F h ⟨k,Yj,Zl,rfl,rfl,rfl⟩
 refine YO 2 (iw (Yf xs) (Y5 ((k:Int)<(xs.length:Int)) (fun Zg=>?_) (fun Zg=>?_)))
 ·refine ak (aq (ab 1 (aD 9 (Zm 7 9 [0,1] ?_))))
  obtain ⟨x1,Z3⟩:=Zs xs k om
  refine dx 2 (Zj none (k:Int) 1 (Y3 Z3)) (Zm 3 6 [3,4,5] ?_)
  obtain ⟨x2,Zx⟩:=Zs ys k om
  refine dx 6 (Zj none (k:Int) 1 (Y3 Zx)) (Zm 0 2 [7,8] (de (ac (x1 != x2) Ym (fun ZC=>?_) (fun ZC=>?_))))
  ·exact ar (Zr (Y4 (.b false) (lb (eq_comm.1 (decide_eq_false (fun q=>by subst q;rw [Z3] at Zx;cases Zx;exact ZC rfl))))))
  refine ak (az (Z2 1 (ZJ k (Z0 ?_))))
  have hdr:=Y9 Z3
  exact ZK ⟨k+1,ob,(by rw [Vl Z3,Vl Zx,Zl];have hxx:x1=x2:=om;rw [hxx]),rfl,rfl,rfl⟩ (wk [] (ZM k fl))
 exact ax 0 (ar (Zr (Y4 (.b true) (lb (eq_comm.1 (decide_eq_true (by rw [Vt om,Vt om] at Zl;exact Zl)))))))
theorem Bz (xs:LI) (hlen:xs.length<=4294967296:=by exact ob):Zk 139 [Z5 xs] [] (fun r h=>∃(v:Hd),r=.h v/\h=[rV v xs]):=by
 exact ZF 6 Tryz.func139 (ZE (ar (Pa [] 0 fun v1=>Z2 1 (Kc 0 v1 [] xs none fun v2=>Zr (r1 [0] ⟨v2,rfl,rfl⟩ (eq:=(rv (xs:=([]++xs)) ob rz)))))))
theorem KI (b:Nat) (ga:Hd) (gb:Hd) (gc:Hd) (gd:Hd) (ge:Hd) (gf:Hd) (L:Zh) (ln:LI) (t:Int) (o:Int) (p:Int) (hlb:L.vars.length<=1000000000:=by exact ob) (hlk:Wq L:=by exact ob):Zk 206 [.p b 0,.i t,.i o,.i p] [.obj b [.h ga,.h gb,.h gc,.h gd,.h ge,.h gf,Z5 ln],rV ga L.vars,rV gb L.own,rV gc L.par,rV gd L.con,rV ge L.fst,rV gf L.tok] (fun r h=>∃(wa:Hd) (wb:Hd) (wc:Hd) (wd:Hd) (we:Hd) (wf:Hd),h=[.obj b [.h wa,.h wb,.h wc,.h wd,.h we,.h wf,Z5 ln],rV wa ((L.grow t o p).vars),rV wb ((L.grow t o p).own),rV wc ((L.grow t o p).par),rV wd ((L.grow t o p).con),rV we ((L.grow t o p).fst),rV wf ((L.grow t o p).tok)]):=by
 obtain ⟨e1,e2,e3,e4,e5⟩:=hlk
 exact ZF 65 Tryz.func206 (Zw 6 [0] (iL (Z7 [t]) 1 1 fun v1=>ZU 0 [(14,Z5 [t])] (Kc 2 ga L.vars [t] none fun v2=>Z2 2 (ZI 2 b [.h v2,.h gb,.h gc,.h gd,.h ge,.h gf,Z5 ln] (ie (Zw 6 [0] (iL (Z7 [o]) 1 1 fun v3=>ZU 0 [(24,Z5 [o])] (Kc 4 gb L.own [o] none fun v4=>Z2 2 (ZI 2 b [.h v2,.h v4,.h gc,.h gd,.h ge,.h gf,Z5 ln] (ie (Zw 6 [0] (iL (Z7 [p]) 1 1 fun v5=>ZU 0 [(34,Z5 [p])] (Kc 6 gc L.par [p] none fun v6=>Z2 2 (ZI 2 b [.h v2,.h v4,.h v6,.h gd,.h ge,.h gf,Z5 ln] (ie (Zw 5 [0] (iL (Z7 [-1]) 1 1 fun v7=>ZU 0 [(43,Z5 [-1])] (Kc 8 gd L.con [-1] none fun v8=>Z2 2 (ZI 2 b [.h v2,.h v4,.h v6,.h v8,.h ge,.h gf,Z5 ln] (ie (Zw 5 [0] (iL (Z7 [-1]) 1 1 fun v9=>ZU 0 [(52,Z5 [-1])] (Kc 10 ge L.fst [-1] none fun v10=>Z2 2 (ZI 2 b [.h v2,.h v4,.h v6,.h v8,.h v10,.h gf,Z5 ln] (ie (az (ZO 5 [0] (iL (Z7 [-1]) 1 1 fun v11=>ZU 0 [(61,Z5 [-1])] (Kc 12 gf L.tok [-1] none fun v12=>Z2 2 (ZI 2 b [.h v2,.h v4,.h v6,.h v8,.h v10,.h v12,Z5 ln] (ie (r2 [0,10,8,6,4,2,0] [] ⟨v2,v4,v6,v8,v10,v12,rfl⟩ (lr _) (eq:=(rc (rv (xs:=(L.vars++[t])) ob (rv (xs:=(L.own++[o])) ob (rv (xs:=(L.par++[p])) ob (rv (xs:=(L.con++[-1])) ob (rv (xs:=(L.fst++[-1])) ob (rv (xs:=(L.tok++[-1])) ob rz))))))))))))))))))))))))))))))))))))))))
theorem Zbl (b:Nat) (ga:Hd) (gb:Hd) (gc:Hd) (gd:Hd) (ge:Hd) (gf:Hd) (L:Zh) (ln:LI) (hlb:L.vars.length<=1000000000:=by exact ob) (hlk:Wq L:=by exact ob) (hln:ln.length<=4294967296:=by exact ob):Zk 283 [.p b 0] [.obj b [.h ga,.h gb,.h gc,.h gd,.h ge,.h gf,Z5 ln],rV ga L.vars,rV gb L.own,rV gc L.par,rV gd L.con,rV ge L.fst,rV gf L.tok] (fun r h=>∃(c:Nat) (wa:Hd) (wb:Hd) (wc:Hd) (wd:Hd) (we:Hd) (wf:Hd),r=.p c 0/\h=[.obj c [.h wa,.h wb,.h wc,.h wd,.h we,.h wf,Z5 ln],rV wa L.vars,rV wb L.own,rV wc L.par,rV wd L.con,rV we L.fst,rV wf L.tok,.obj b [.h ga,.h gb,.h gc,.h gd,.h ge,.h gf,Z5 ln],rV ga L.vars,rV gb L.own,rV gc L.par,rV gd L.con,rV ge L.fst,rV gf L.tok]):=by
 obtain ⟨e1,e2,e3,e4,e5⟩:=hlk
 refine ZF 40 Tryz.func283 (ZE (aD 38 (ZH 10 38 [0,1,2,3,5,6,7,8,10,11,12,13,15,16,17,18,20,21,22,23,25,26,27,28,30,31,32,33] [0,0,0,0,0,0,0] (Z9 4 (T7 4 [1] [0,0,0,0,0,0] [b,b,b,b,b,b] [rV ga L.vars] (Bz L.vars) Jt (gL (v:=ga) 0 gN) (Ut Tg) ?_)))))
 rintro _ _ ⟨v1,rfl,rfl⟩
 refine Z9 9 (T7 9 [3] [0,0,0,0,0] [b,b,b,b,b] [rV gb L.own] (Bz L.own) Jt (gL (v:=gb) 0 gN) (Ut Tg) ?_)
 rintro _ _ ⟨v2,rfl,rfl⟩
 refine Z9 14 (T7 14 [5] [0,0,0,0] [b,b,b,b] [rV gc L.par] (Bz L.par) Jt (gL (v:=gc) 0 gN) (Ut Tg) ?_)
 rintro _ _ ⟨v3,rfl,rfl⟩
 refine Z9 19 (T7 19 [7] [0,0,0] [b,b,b] [rV gd L.con] (Bz L.con) Jt (gL (v:=gd) 0 gN) (Ut Tg) ?_)
 rintro _ _ ⟨v4,rfl,rfl⟩
 refine Z9 24 (T7 24 [9] [0,0] [b,b] [rV ge L.fst] (Bz L.fst) Jt (gL (v:=ge) 0 gN) (Ut Tg) ?_)
 rintro _ _ ⟨v5,rfl,rfl⟩
 refine Z9 29 (T7 29 [11] [0] [b] [rV gf L.tok] (Bz L.tok) Jt (gL (v:=gf) 0 gN) (Ut Tg) ?_)
 rintro _ _ ⟨v6,rfl,rfl⟩
 refine Z9 34 (dc 34 [] [] [] (UD ln) ?_)
 rintro _ _ ⟨v7,rfl,rfl⟩
 exact Yw 2 3 [35] [(38,.agg [.h v1,.h v2,.h v3,.h v4,.h v5,.h v6,Z5 ln])] (Z9 36 (dA 36 [] [] [.h v1,.h v2,.h v3,.h v4,.h v5,.h v6,Z5 ln] fun b1=>Zm 0 1 [37] (de (ZD (r1 [0,11,9,7,5,3,1,7,6,5,4,3,2,1] ⟨b1,v1,v2,v3,v4,v5,v6,rfl,rfl⟩)))))
theorem Gj (b:Nat) (ga:Hd) (gb:Hd) (gc:Hd) (gd:Hd) (ge:Hd) (gf:Hd) (L:Zh) (ln:LI) (i:Int) (hlk:Wq L:=by exact ob) (hi:0<=i/\i<L.vars.length:=by exact ob) (hq:∀x∈L.own,0<=x/\x<=1000000000):Zk 207 [.p b 0,.i i] [.obj b [.h ga,.h gb,.h gc,.h gd,.h ge,.h gf,Z5 ln],rV ga L.vars,rV gb L.own,rV gc L.par,rV gd L.con,rV ge L.fst,rV gf L.tok] (fun r h=>(∃(wa:Hd) (wb:Hd) (wc:Hd) (wd:Hd) (we:Hd) (wf:Hd) (L':Zh),r=.b true/\h=[.obj b [.h wa,.h wb,.h wc,.h wd,.h we,.h wf,Z5 ln],rV wa L'.vars,rV wb L'.own,rV wc L'.par,rV wd L'.con,rV we L'.fst,rV wf L'.tok]/\Vs L i=some L')∨(r=.b false/\h=[]/\Vs L i=none)):=by
 obtain ⟨e1,e2,e3,e4,e5⟩:=hlk
 refine ZF 27 Tryz.func207 (ZE (Yl 5 [0] (Zo (Wo 2 gb L.own i i.toNat (hq:=rfl)) ?_)))
 obtain ⟨x1,Z3⟩:=Zs L.own i.toNat om
 have hxq:=hq _ (ZW Z3)
 have hgi:=VH Z3
 refine V8 (VU 2 gb L.own i.toNat x1 Z3) (Y5 (x1<1) (fun Za=>?_) (fun Za=>?_))
 ·exact ar (Zr (r1 [] (.inr ⟨rfl,rfl,(by rw [Vs,hgi,Zd Za])⟩)))
 exact ak (aD 15 (ZH 5 15 [0,1,2,3,4,5,6,7,8,9] [0,0] (dx 10 (Wo 2 gb L.own i i.toNat (hq:=rfl)) (Uq 11 (VU 2 gb L.own i.toNat x1 Z3) (da 12 ((x1-1)) ((x1)-(1)) (dx 13 (Wo 2 gb L.own i i.toNat (hq:=rfl)) (Z9 14 (JT 14 2 [] [] gb L.own i.toNat (x1-1) (de (ar (Zr (r1 [1,1,0,0,0,0,0] (.inl ⟨ga,gb,gc,gd,ge,gf,(Zh.mk L.vars (L.own.set i.toNat (x1-1)) L.par L.con L.fst L.tok),rfl,rfl,(by rw [Vs,hgi,Z8 Za])⟩) (eq:=(rc (rv (xs:=L.vars) ob (rv (xs:=(L.own.set i.toNat (x1-1))) ob (rv (xs:=L.par) ob (rv (xs:=L.con) ob (rv (xs:=L.fst) ob (rv (xs:=L.tok) ob rz))))))))))))))))))))
theorem Gi (b:Nat) (ga:Hd) (gb:Hd) (gc:Hd) (gd:Hd) (ge:Hd) (gf:Hd) (L:Zh) (ln:LI) (i:Int) (hlk:Wq L:=by exact ob) (hln:ln.length<=4294967296:=by exact ob) (hi:0<=i/\i<L.vars.length:=by exact ob) (hd:∀j:Int,0<=j->j<L.vars.length->gI L.par j<j):Zk 88 [.p b 0,.i i] [.obj b [.h ga,.h gb,.h gc,.h gd,.h ge,.h gf,Z5 ln],rV ga L.vars,rV gb L.own,rV gc L.par,rV gd L.con,rV ge L.fst,rV gf L.tok] (fun r h=>r=.b (XM L ln i)/\h=[.obj b [.h ga,.h gb,.h gc,.h gd,.h ge,.h gf,Z5 ln],rV ga L.vars,rV gb L.own,rV gc L.par,rV gd L.con,rV ge L.fst,rV gf L.tok]):=by
 obtain ⟨e1,e2,e3,e4,e5⟩:=hlk
 refine ZF 31 Tryz.func88 (ZE (aq (ab 0 (Y6 (fun fz gz m F h=>∃(j:Int),(0<=j/\j<L.vars.length)/\(QX L.own L.par ln (j.toNat+1) j=XM L ln i)/\F=sF [0] fz [(1,.i j)]/\h=gz/\m=j.toNat) _ _ _ ⟨i,ob,ob,rfl,rfl,rfl⟩ (ZG 7 fl) ?_))))
 rintro m F h ⟨j,Yj,Zl,rfl,rfl,rfl⟩
 refine Yl 5 [0] (Zo (Wo 2 gb L.own j j.toNat (hq:=rfl)) ?_)
 obtain ⟨x1,Z3⟩:=Zs L.own j.toNat om
 have hg1:=VH Z3
 refine V8 (VU 2 gb L.own j.toNat x1 Z3) (Xv [0,1] [(21,.b ((decide (x1<1))&&(!(decide (j∈ln)))))] (fun gz=>gz) ?_ ?_)
 ·refine Z2 2 (ib (b:=(decide (x1<1))) 13 (fun Zb=>?_) (fun Zb=>?_))
  ·exact ZO 5 [0] (Zz [] (T1 ln j) (Z0 (ZG 7 (Zt (!(decide (j∈ln))) Zb fl))))
  exact Z0 (ZG 7 (Zt false Zb fl))
 refine ac ((decide (x1<1))&&(!(decide (j∈ln)))) (p:=(x1<1)/\(¬(j∈ln))) (YL dq (YA dq)) (fun Za=>?_) (fun Za=>?_)
 ·refine ak (ab 1 (Zw 5 [0] (Zo (Wo 3 gc L.par j j.toNat (hq:=rfl)) ?_)))
  obtain ⟨x2,Zx⟩:=Zs L.par j.toNat om
  have hg2:=VH Zx
  have hdj:=hd j om om
  rw [hg2] at hdj
  refine V8 (VU 3 gc L.par j.toNat x2 Zx) (Z0 (ar (Y5 (x2<0) (fun Zg=>?_) (fun Zg=>?_))))
  ·exact ar (Zr (r2 [0,0,0,0,0,0,0] [.b false] ⟨rfl,rfl⟩ (lb (MX hg1 hg2 Za Zg Zl))))
  exact ak (ZK ⟨x2,om,(MY hg1 hg2 Yj Za Zg hd Zl),rfl,rfl,rfl⟩ (ZG 7 fl))
 exact ax 0 (ar (Zr (r2 [0,0,0,0,0,0,0] [.b true] ⟨rfl,rfl⟩ (lb (MZ hg1 Za Zl)))))
theorem Lk (b:Nat) (ga:Hd) (gb:Hd) (gc:Hd) (gd:Hd) (ge:Hd) (gf:Hd) (L:Zh) (ln:LI) (mm:Nat) (hlk:Wq L:=by exact ob) (hlb:L.vars.length<=1000000000:=by exact ob) (hm:mm<=L.vars.length:=by exact ob):Zk 171 [.p b 0,.i mm] [.obj b [.h ga,.h gb,.h gc,.h gd,.h ge,.h gf,Z5 ln],rV ga L.vars,rV gb L.own,rV gc L.par,rV gd L.con,rV ge L.fst,rV gf L.tok] (fun r h=>(∃(wa:Hd) (wb:Hd) (wc:Hd) (wd:Hd) (we:Hd) (wf:Hd) (L':Zh),r=.b true/\h=[.obj b [.h wa,.h wb,.h wc,.h wd,.h we,.h wf,Z5 ln],rV wa L'.vars,rV wb L'.own,rV wc L'.par,rV wd L'.con,rV we L'.fst,rV wf L'.tok]/\VY L mm=some L')∨(r=.b false/\h=[]/\VY L mm=none)):=by
 obtain ⟨e1,e2,e3,e4,e5⟩:=hlk
 refine ZF 88 Tryz.func171 (ZE (Yi (ab 0 (Y6 (fun fz gz m F h=>∃(k:Nat),(mm<=k/\k<=L.vars.length)/\(WQ (L.own.drop k) (L.tok.drop k)=WQ (L.own.drop mm) (L.tok.drop mm))/\F=sF [0,1] fz [(5,.i k)]/\h=gz/\m=L.vars.length-k) _ _ _ ⟨mm,ob,ob,rfl,rfl,rfl⟩ (ZG 7 fl) ?_))))
 rintro m F h ⟨k,Yj,Zl,rfl,rfl,rfl⟩
 refine Yl 5 [0] (Zo (KQ 1 ga L.vars) (Y5 ((k:Int)<(L.vars.length:Int)) (fun Za=>?_) (fun Za=>?_)))
 ·refine ak (aq (ab 1 (Zw 5 [0] (Zo (Wo 2 gb L.own (k:Int) k) ?_))))
  obtain ⟨x1,Z3⟩:=Zs L.own k om
  refine V8 (VU 2 gb L.own k x1 Z3) (Z2 2 (ib (b:=(x1 != 0)) 24 (fun Zb=>?_) (fun Zb=>?_)))
  ·have ZX:x1≠0:=(Ym).1 Zb
   refine Z0 (Wc (ZE ?_))
   obtain ⟨y2,hy2⟩:=Zs L.tok k om
   exact ZD (r1 [] (.inr ⟨rfl,rfl,(by rw [VY,<-Zl,Y9 Z3,Y9 hy2,WQ,Zd (show x1≠0∨0<=y2 by omega)];rfl)⟩))
  have Yk:¬(x1≠0):=Yh Ym Zb
  refine ZO 5 [0] (Zo (Wo 6 gf L.tok (k:Int) k) ?_)
  obtain ⟨x2,Zx⟩:=Zs L.tok k om
  refine V8 (VU 6 gf L.tok k x2 Zx) (Y5 (x2>=0) (fun Zg=>?_) (fun Zg=>?_))
  ·exact ar (Zr (r1 [] (.inr ⟨rfl,rfl,(by rw [VY,<-Zl,Y9 Z3,Y9 Zx,WQ,Zd (show x1≠0∨0<=x2 by omega)];rfl)⟩)))
  exact ak (az (Z2 1 (ZJ k (Z0 (ZK ⟨k+1,ob,(by rw [Y9 Z3,Y9 Zx,WQ,Z8 om] at Zl;exact Zl),rfl,rfl,rfl⟩ (ZG 7 (ZM k fl)))))))
 exact ax 0 (Zw 6 [0] (Zo (Kr 1 ga L.vars mm) (Z2 2 (W7 (Cl 1 mm ga L.vars) (ZI 1 b [.h (ga.cut mm),.h gb,.h gc,.h gd,.h ge,.h gf,Z5 ln] (ie (Zw 6 [0] (Zo (Kr 2 gb L.own mm) (Z2 2 (W7 (Cl 2 mm gb L.own) (ZI 1 b [.h (ga.cut mm),.h (gb.cut mm),.h gc,.h gd,.h ge,.h gf,Z5 ln] (ie (Zw 6 [0] (Zo (Kr 3 gc L.par mm) (Z2 2 (W7 (Cl 3 mm gc L.par) (ZI 1 b [.h (ga.cut mm),.h (gb.cut mm),.h (gc.cut mm),.h gd,.h ge,.h gf,Z5 ln] (ie (Zw 6 [0] (Zo (Kr 4 gd L.con mm) (Z2 2 (W7 (Cl 4 mm gd L.con) (ZI 1 b [.h (ga.cut mm),.h (gb.cut mm),.h (gc.cut mm),.h (gd.cut mm),.h ge,.h gf,Z5 ln] (ie (Zw 6 [0] (Zo (Kr 5 ge L.fst mm) (Z2 2 (W7 (Cl 5 mm ge L.fst) (ZI 1 b [.h (ga.cut mm),.h (gb.cut mm),.h (gc.cut mm),.h (gd.cut mm),.h (ge.cut mm),.h gf,Z5 ln] (ie (Zw 6 [0] (Zo (Kr 6 gf L.tok mm) (Z2 2 (W7 (Cl 6 mm gf L.tok) (ZI 1 b [.h (ga.cut mm),.h (gb.cut mm),.h (gc.cut mm),.h (gd.cut mm),.h (ge.cut mm),.h (gf.cut mm),Z5 ln] (ie (ar (Zr (r1 [0,5,4,3,2,1,0] (.inl ⟨(ga.cut mm),(gb.cut mm),(gc.cut mm),(gd.cut mm),(ge.cut mm),(gf.cut mm),(Zh.mk (L.vars.take mm) (L.own.take mm) (L.par.take mm) (L.con.take mm) (L.fst.take mm) (L.tok.take mm)),rfl,rfl,(by rw [VY,Zd (by rw [<-Zl,Xn om];rfl)];rfl)⟩) (eq:=(rc (rv (xs:=(L.vars.take mm)) ob (rv (xs:=(L.own.take mm)) ob (rv (xs:=(L.par.take mm)) ob (rv (xs:=(L.con.take mm)) ob (rv (xs:=(L.fst.take mm)) ob (rv (xs:=(L.tok.take mm)) ob rz)))))))))))))))))))))))))))))))))))))))))))))))
theorem Zbn (b:Nat) (ga:Hd) (gb:Hd) (gc:Hd) (gd:Hd) (ge:Hd) (gf:Hd) (n:Zi) (s:Z4) (L:Zh) (ln:LI) (q:Int) (x:Int) (hn:X6 n:=by exact ob) (hk:Xb n.decls L q:=by exact ob) (hlb:L.vars.length<=1000000000:=by exact ob) (ha:s.args[0]? = some x:=by exact ob) (hx:0<=x/\x<L.vars.length:=by exact ob) (hq:0<=q/\q<=999999990:=by exact ob):Zk 208 [.p b 0,Yq n,YI s] [.obj b [.h ga,.h gb,.h gc,.h gd,.h ge,.h gf,Z5 ln],rV ga L.vars,rV gb L.own,rV gc L.par,rV gd L.con,rV ge L.fst,rV gf L.tok] (fun r h=>(∃(wa:Hd) (wb:Hd) (wc:Hd) (wd:Hd) (we:Hd) (wf:Hd) (L':Zh),r=.b true/\h=[.obj b [.h wa,.h wb,.h wc,.h wd,.h we,.h wf,Z5 ln],rV wa L'.vars,rV wb L'.own,rV wc L'.par,rV wd L'.con,rV we L'.fst,rV wf L'.tok]/\TM n.decls L s.op x=some L')∨(r=.b false/\h=[]/\TM n.decls L s.op x=none)):=by
 obtain ⟨e1,e2,e3,e4,e5⟩:=hk.len
 have XB:=hn.decls
 have hal:=(Xq.1 ha).1
 obtain ⟨xcon,hxcon⟩:=Zs L.con ((x).toNat) om
 have hgcon:=VH hxcon
 obtain ⟨xtok,hxtok⟩:=Zs L.tok ((x).toNat) om
 have hgtok:=VH hxtok
 obtain ⟨xfst,hxfst⟩:=Zs L.fst ((x).toNat) om
 have hgfst:=VH hxfst
 have hfl:=Ud XB xcon
 have har:=hk.arm x om om
 rw [hgcon,hgfst] at har
 refine ZF 105 Tryz.func208 (ar (iA (YU n) fun b1=>iA (XG s) fun b2=>Z0 (Zw 2 [0] (Zo (Zj none 0 1 (Y3 ha)) (Z0 (Yl 5 [2] (Zo (Wo 6 gd L.con x x.toNat (hq:=rfl)) (V8 (VU 6 gd L.con x.toNat xcon hxcon) (XU 23 [0,4,5,7] [(36,.b ((decide (xcon<0))||((s.op==17)&&(decide (xtok>=0)))))] (fun gz=>gz) ?_ (fun hj1=>?_))))))))))
 ·refine Z2 1 (ib (b:=((decide (xcon<0))||((s.op==17)&&(decide (xtok>=0))))) 37 (fun Zb=>?_) (fun Zb=>?_))
  ·have ZX:(xcon<0)∨((s.op=17)/\(xtok>=0)):=((Yr dq (YL Zq dq))).1 Zb
   exact Z0 (Wc (ar (Zr (r1 [] (.inr ⟨rfl,rfl,(by rw [TM,hgcon,hgtok,Zd om])⟩)))))
  have Yk:¬((xcon<0)∨((s.op=17)/\(xtok>=0))):=Yh (Yr dq (YL Zq dq)) Zb
  refine Z2 2 (ic [2,2,2,2,2,2,2] (Gj b ga gb gc gd ge gf L ln x (hlk:=hk.len) (hq:=(fun y hy=>⟨hk.nn y hy,by have:=hk.bd y hy;omega⟩))) ?_)
  rintro _ _ (⟨wa1,wb1,wc1,wd1,we1,wf1,L'1,rfl,rfl,YG⟩|⟨rfl,rfl,YR⟩)
  ·obtain ⟨t1,t2,t3,t4,t5,t6,t7⟩:=QP YG
   have hk1:=hk.take YG
   obtain ⟨f1,f2,f3,f4,f5⟩:=hk1.len
   have hxcon1:L'1.con[x.toNat]? = some xcon:=by rw [t4];exact hxcon
   have hvl:L'1.vars.length=L.vars.length:=by rw [t2]
   have har2:=har om
   have hxfst1:L'1.fst[x.toNat]? = some xfst:=by rw [t5];exact hxfst
   refine Z0 (Wr (ak (aD 11 (ZH 4 11 [0,1,2,3,4,5,6] [8,0] (dx 7 (Wo 4 wd1 L'1.con x x.toNat (hq:=rfl)) (Uq 8 (VU 4 wd1 L'1.con x.toNat xcon hxcon1) (Z9 9 (Yo 9 [] [] [] (KN n.decls xcon) (Zm 0 1 [10] (de (Yi (ab 0 (Y6 (fun fz gz m F h=>∃(k:Nat) (o:LI),(k<=(ZV n.decls xcon).length)/\(o.length=L.vars.length)/\(∀y∈o,0<=y/\y<=q+k)/\(U7 o (xfst+k) ((ZV n.decls xcon).drop k)=U7 L'1.own xfst (ZV n.decls xcon))/\F=sF [0,5,7,8] fz [(9,.i k)]/\h=[Zc gz 0,Zc gz 1,rV wb1 o,Zc gz 3,Zc gz 4,Zc gz 5,Zc gz 6,Zc gz 7]/\m=(ZV n.decls xcon).length-k) _ _ _ ⟨0,L'1.own,ob,om,(by intro y hy;have h1:=hk1.nn y hy;have h2:=hk1.bd y hy;omega),(by rw [show xfst+((0:Nat):Int)=xfst by omega,TZ]),rfl,rfl,rfl⟩ (ZG 8 (Yd fl)) ?_)))))))))))))
   rintro m F h ⟨k,o,Yj,Zl,Zy,Yv,rfl,rfl,rfl⟩
   refine YO 2 (io (.i (((ZV n.decls xcon).length:Nat):Int)) (.i (((Z7 (ZV n.decls xcon)).length:Nat):Int)) (li (by rw [Yf])) (Y5 ((k:Int)<(((ZV n.decls xcon).length:Nat):Int)) (fun Za=>?_) (fun Za=>?_)))
   ·refine ak (aq (ab 1 (Ya 2 ?_)))
    obtain ⟨x1,Z3⟩:=Zs (ZV n.decls xcon) k om
    refine Zo (Zj none (k:Int) 1 (Y3 Z3)) (YH (x1 != 0) Ym (fun Zg=>?_) (fun Zg=>?_))
    ·refine aE 31 (ZH 22 31 [0,1,2,3,4,5,6,7,8] [0,0] (dx 9 (Wo 5 we1 L'1.fst x x.toNat (hq:=rfl)) (Uq 10 (VU 5 we1 L'1.fst x.toNat xfst hxfst1) (Zm 19 20 [11] (da 12 ((xfst+(k:Int))) ((xfst)+((k:Int))) (ZH 9 18 [13,14,15,16,17,18,19,20,21] [0,0] (dx 22 (Wo 5 we1 L'1.fst x x.toNat (hq:=rfl)) (Uq 23 (VU 5 we1 L'1.fst x.toNat xfst hxfst1) (Zm 6 7 [24] (da 25 ((xfst+(k:Int))) ((xfst)+((k:Int))) (dx 26 (Wo 2 wb1 o (xfst+(k:Int)) ((xfst+(k:Int)).toNat) (hq:=rfl)) ?_)))))))))))
     obtain ⟨x2,Zx⟩:=Zs o ((xfst+(k:Int)).toNat) om
     have hy2:=Zy _ (ZW Zx)
     exact Uq 27 (VU 2 wb1 o ((xfst+(k:Int)).toNat) x2 Zx) (da 28 ((x2+1)) ((x2)+(1)) (dx 29 (Wo 2 wb1 o (xfst+(k:Int)) ((xfst+(k:Int)).toNat) (hq:=rfl)) (Z9 30 (JT 30 2 [] [] wb1 o ((xfst+(k:Int)).toNat) (x2+1) (de (az (Z2 1 (ZJ k (Z0 (ZK ⟨k+1,(o.set (xfst+(k:Nat)).toNat (x2+1)),ob,ob,(by intro y hy;first|(rcases Jb hy with hy|rfl<;>first|(have:=Zy y hy;omega)|omega)|(have:=Zy y hy;omega)),(by rw [Y9 Z3,U7] at Yv;first|(rw [Zd Zg,VH Zx] at Yv;rw [show xfst+((k+1:Nat):Int)=xfst+k+1 by omega];exact Yv)|(rw [Z8 Zg] at Yv;rw [show xfst+((k+1:Nat):Int)=xfst+k+1 by omega];exact Yv)),rfl,rfl,rfl⟩ (wk [1,1,0,0,0,0,0,0] (ZM k fl) (e:=(rc (rc (rv (xs:=(o.set ((xfst+(k:Int)).toNat) (x2+1))) ob (rc (rc (rc (rc (rc rz))))))))))))))))))))
    exact ak (az (Z2 1 (ZJ k (Z0 (ZK ⟨k+1,o,ob,ob,(by intro y hy;first|(rcases Jb hy with hy|rfl<;>first|(have:=Zy y hy;omega)|omega)|(have:=Zy y hy;omega)),(by rw [Y9 Z3,U7] at Yv;first|(rw [Zd Zg,VH Zx] at Yv;rw [show xfst+((k+1:Nat):Int)=xfst+k+1 by omega];exact Yv)|(rw [Z8 Zg] at Yv;rw [show xfst+((k+1:Nat):Int)=xfst+k+1 by omega];exact Yv)),rfl,rfl,rfl⟩ (ZG 8 (ZM k fl)))))))
   refine ax 0 (X9 (VT [7] (ac (s.op==17) Zq (fun ZC=>?_) (fun ZC=>?_))))
   ·refine az (ZO 6 [0] (io (.i (((ZV n.decls xcon).length:Nat):Int)) (.i (((Z7 (ZV n.decls xcon)).length:Nat):Int)) (li (by rw [Yf])) (Zo (Wo 6 wf1 L'1.tok x x.toNat (hq:=rfl)) (CZ 6 wf1 L'1.tok x.toNat (((ZV n.decls xcon).length:Nat):Int) (ie (ZE ?_))))))
    have hof:o=U7 L'1.own xfst (ZV n.decls xcon):=by rw [<-Yv,Xn om];rfl
    exact ZD (r1 [1,1,1,1,1,1,0] (.inl ⟨wa1,wb1,wc1,wd1,we1,wf1,(Zh.mk L'1.vars o L'1.par L'1.con L'1.fst (L'1.tok.set x.toNat (((ZV n.decls xcon).length:Nat):Int))),rfl,rfl,(by rw [TM,hgcon,hgfst,hgtok,Z8 om,YG,hof,t6];simp [ZC,t2,t3,t4,t5])⟩) (eq:=(rc (rv (xs:=L'1.vars) ob (rv (xs:=o) ob (rv (xs:=L'1.par) ob (rv (xs:=L'1.con) ob (rv (xs:=L'1.fst) ob (rv (xs:=(L'1.tok.set x.toNat (((ZV n.decls xcon).length:Nat):Int))) ob rz)))))))))
   refine ak (ZE ?_)
   have hof:o=U7 L'1.own xfst (ZV n.decls xcon):=by rw [<-Yv,Xn om];rfl
   exact ZD (r1 [0,0,0,0,0,0,0] (.inl ⟨wa1,wb1,wc1,wd1,we1,wf1,(Zh.mk L'1.vars o L'1.par L'1.con L'1.fst L'1.tok),rfl,rfl,(by rw [TM,hgcon,hgfst,hgtok,Z8 om,YG,hof,t6];simp [ZC,t2,t3,t4,t5])⟩) (eq:=(rc (rv (xs:=L'1.vars) ob (rv (xs:=o) ob (rv (xs:=L'1.par) ob (rv (xs:=L'1.con) ob (rv (xs:=L'1.fst) ob (rv (xs:=L'1.tok) ob rz)))))))))
  exact Z0 (Wc (ar (Zr (r1 [] (.inr ⟨rfl,rfl,(by rw [TM,hgcon,hgtok,Z8 om,YR])⟩)))))
 refine Z2 2 (ib (b:=(decide (xcon<0))) 22 (fun ZB=>?_) (fun ZB=>?_))
 ·have Xl:xcon<0:=(dq).1 ZB
  exact Z2 14 (YB (ZG 9 (Zt true ZB fl)) hj1)
 have W2:¬(xcon<0):=Yh dq ZB
 refine ZO 4 [0] (ib (b:=(s.op==17)) 26 (fun YE=>?_) (fun YE=>?_))
 ·have WG:s.op=17:=(Zq).1 YE
  exact ZO 5 [2] (Zo (Wo 8 gf L.tok x x.toNat (hq:=rfl)) (V8 (VU 8 gf L.tok x.toNat xtok hxtok) (Z2 3 (YB (ZG 9 (Zt (decide (xtok>=0)) (And.intro ZB YE) fl)) hj1))))
 have V3:¬(s.op=17):=Yh Zq YE
 exact Z2 10 (YB (ZG 9 (Zt false (And.intro ZB YE) fl)) hj1)
theorem Zbm (b:Nat) (ga:Hd) (gb:Hd) (gc:Hd) (gd:Hd) (ge:Hd) (gf:Hd) (n:Zi) (s:Z4) (L:Zh) (ln:LI) (q:Int) (hn:X6 n:=by exact ob) (hnum:s.op=9->0<=s.num/\s.num<n.routines.length:=by exact ob) (hk:Xb n.decls L q:=by exact ob) (hlb:L.vars.length<=1000000000:=by exact ob) (hargs:∀a∈s.args,0<=a/\a<L.vars.length) (hinto:0<s.into->s.into<=L.vars.length:=by exact ob) (hal:s.args.length<=1000000000:=by exact ob) (hln:ln.length<=4294967296:=by exact ob) (hq:0<=q/\q<=999999990:=by exact ob):Zk 210 [.p b 0,Yq n,YI s] [.obj b [.h ga,.h gb,.h gc,.h gd,.h ge,.h gf,Z5 ln],rV ga L.vars,rV gb L.own,rV gc L.par,rV gd L.con,rV ge L.fst,rV gf L.tok] (fun r h=>(∃(wa:Hd) (wb:Hd) (wc:Hd) (wd:Hd) (we:Hd) (wf:Hd) (L':Zh),r=.b true/\h=[.obj b [.h wa,.h wb,.h wc,.h wd,.h we,.h wf,Z5 ln],rV wa L'.vars,rV wb L'.own,rV wc L'.par,rV wd L'.con,rV we L'.fst,rV wf L'.tok]/\U9 n ln L s.op s.num s.into s.args=some L')∨(r=.b false/\h=[]/\U9 n ln L s.op s.num s.into s.args=none)):=by
 obtain ⟨e1,e2,e3,e4,e5⟩:=hk.len
 refine ZF 79 Tryz.func210 (ar (iA (YU n) fun b1=>iA (XG s) fun b2=>?_))
 refine Z0 (Yi (ab 0 (Y6 (fun fz gz m F h=>∃(k:Nat) (L2:Zh) (ka:Hd) (kb:Hd) (kc:Hd) (kd:Hd) (ke:Hd) (kf:Hd),(k<=s.args.length)/\(Xb n.decls L2 q)/\(L2.vars=L.vars)/\(U1 n s.op s.num (s.args.drop k) k L2=U1 n s.op s.num s.args 0 L)/\F=sF [0,4,5] fz [(7,.i k)]/\h=[Zc gz 0,Zc gz 1,.obj b [.h ka,.h kb,.h kc,.h kd,.h ke,.h kf,Z5 ln],rV ka L2.vars,rV kb L2.own,rV kc L2.par,rV kd L2.con,rV ke L2.fst,rV kf L2.tok]/\m=s.args.length-k) _ _ _ ⟨0,L,ga,gb,gc,gd,ge,gf,ob,hk,ob,ob,rfl,rfl,rfl⟩ (ZG 9 (Yd fl)) ?_)))
 rintro m F h ⟨k,L2,ka,kb,kc,kd,ke,kf,Yj,Zl,Zy,Yv,rfl,rfl,rfl⟩
 refine Yl 3 [0] (iw (Yf s.args) (Y5 ((k:Int)<(s.args.length:Int)) (fun Za=>?_) (fun Za=>?_)))
 ·obtain ⟨a1,ha1⟩:=Zs s.args k om
  obtain ⟨e6,e7,e8,e9,e10⟩:=Zl.len
  have hav:=hargs a1 (ZW ha1)
  have hvl:L2.vars.length=L.vars.length:=by rw [Zy]
  refine ak (aq (ab 1 (aD 18 (ZH 11 18 [0,1,2,3,4,5,6] [1,2,0] (Z9 7 (T7 7 [3] [] [] [rV ka L2.vars] (H2 n L2.vars s k a1 (ha:=ha1)) Cx (gS (gL (v:=ka) 0 (gS (gS gN)))) (Ut Tg) ?_))))))
  rintro _ _ ⟨rfl,rfl⟩
  refine Zm 9 10 [8] (db (b:=UI n L2.vars s.op s.num a1 k) 24 (fun Zb=>?_) (fun Zb=>?_))
  ·have ZX:UI n L2.vars s.op s.num a1 k=true:=(Iff.rfl).1 Zb
   refine ZH 5 9 [9,10,11,12] [1] (dx 13 (Zj none (k:Int) 1 (Y3 ha1)) (Zm 3 4 [14] (Z9 15 (dc 15 [3,0,2,2,2,2,2] [] [] (Gj b ka kb kc kd ke kf L2 ln a1 (hlk:=Zl.len) (hq:=(fun y hy=>⟨Zl.nn y hy,by have:=Zl.bd y hy;omega⟩))) ?_))))
   rintro _ _ (⟨wa1,wb1,wc1,wd1,we1,wf1,L'1,rfl,rfl,Yk⟩|⟨rfl,rfl,YG⟩)
   ·obtain ⟨t1,t2,t3,t4,t5,t6,t7⟩:=QP Yk
    have hk2:=Zl.take Yk
    exact Zm 0 2 [16,17] (de (Wr (ak (az (Z2 1 (ZJ k (Z0 (ZK ⟨k+1,L'1,wa1,wb1,wc1,wd1,we1,wf1,ob,hk2,(t2.trans Zy),(by rw [Y9 ha1,U1,Zd ZX] at Yv;simp only [Yk] at Yv;exact Yv),rfl,rfl,rfl⟩ (wk [7,7,0,0,0,0,0,0,0] (ZM k fl))))))))))
   exact Zm 0 2 [16,17] (de (Wc (ar (Zr (r1 [] (.inr ⟨rfl,rfl,(by rw [U9,<-Yv,Y9 ha1,U1,Zd ZX,YG])⟩))))))
  have YR:¬(UI n L2.vars s.op s.num a1 k=true):=Yh Iff.rfl Zb
  exact Zm 0 9 [9,10,11,12,13,14,15,16,17] (de (Wr (ak (az (Z2 1 (ZJ k (Z0 (ZK ⟨k+1,L2,ka,kb,kc,kd,ke,kf,ob,Zl,Zy,(by rw [Y9 ha1,U1,Z8 YR] at Yv;exact Yv),rfl,rfl,rfl⟩ (wk [1,1,1,0,0,0,0,0,0] (ZM k fl))))))))))
 have hT:U1 n s.op s.num s.args 0 L=some L2:=by rw [<-Yv,Xn om];rfl
 obtain ⟨e6,e7,e8,e9,e10⟩:=Zl.len
 have hvl:L2.vars.length=L.vars.length:=by rw [Zy]
 refine ax 0 (Yi (ab 2 (Y6 (fun fz gz m F h=>∃(j:Nat),(j<=s.args.length)/\(TU n s.op s.num ln L2 (s.args.drop j) j=TU n s.op s.num ln L2 s.args 0)/\F=sF [0,4,5] fz [(8,.i j)]/\h=gz/\m=s.args.length-j) _ _ _ ⟨0,ob,ob,rfl,rfl,rfl⟩ (ZG 9 (Yd fl)) ?_)))
 rintro m F h ⟨j,Up,Wa,rfl,rfl,rfl⟩
 refine Yl 3 [0] (iw (Yf s.args) (Y5 ((j:Int)<(s.args.length:Int)) (fun Zg=>?_) (fun Zg=>?_)))
 ·obtain ⟨a2,ha2⟩:=Zs s.args j om
  have hav:=hargs a2 (ZW ha2)
  refine ak (aq (ab 3 (Zw 3 [1,0] (Zz [] (ED n s j) (Xv [0,4,5,8] [(54,.b (WH n s.op s.num j&&(!XM L2 ln a2)))] (fun gz=>[Zc gz 2,Zc gz 3,Zc gz 4,Zc gz 5,Zc gz 6,Zc gz 7,Zc gz 8,Zc gz 0,Zc gz 1]) ?_ ?_)))))
  ·refine Z2 1 (ib (b:=WH n s.op s.num j) 45 (fun ZB=>?_) (fun ZB=>?_))
   ·exact ZO 4 [0] (Zo (Zj none (j:Int) 1 (Y3 ha2)) (Z2 1 (Zz [2,2,2,2,2,2,2] (Gi b ka kb kc kd ke kf L2 ln a2 (hlk:=Zl.len) (hd:=Zl.down)) (Z0 (ZG 9 (Zt (!XM L2 ln a2) ZB fl))))))
   exact Z0 (wk [2,2,2,2,2,2,2,0,0] (Zt false ZB fl))
  refine ac (WH n s.op s.num j&&(!XM L2 ln a2)) (p:=(WH n s.op s.num j=true)/\(¬(XM L2 ln a2=true))) (YL Iff.rfl (YA Iff.rfl)) (fun ZC=>?_) (fun ZC=>?_)
  ·refine ZE ?_
   have hA:TU n s.op s.num ln L2 s.args 0=false:=by rw [<-Wa,Y9 ha2,TU,Zd ZC]
   exact ZD (r1 [] (.inr ⟨rfl,rfl,(by rw [U9,hT];simp only [hA];rfl)⟩))
  exact ak (az (Z2 1 (ZJ j (Z0 (ZK ⟨j+1,ob,(by rw [Y9 ha2,TU,Z8 ZC] at Wa;exact Wa),rfl,rfl,rfl⟩ (wk [7,7,0,0,0,0,0,0,0] (ZM j fl)))))))
 have hA:TU n s.op s.num ln L2 s.args 0=true:=by rw [<-Wa,Xn om];rfl
 refine ax 2 (X9 (VT [0] (W9 (s.into>0) (fun Yg=>?_) (fun Yg=>?_))))
 ·obtain ⟨xt,hxt⟩:=Zs L2.tok ((s.into-1).toNat) (by have:=hinto Yg;omega)
  have hgt:=VH hxt
  refine aq (aD 13 (ZH 7 13 [0,1,2,3,4,5] [2,0] (da 6 ((s.into-1)) ((s.into)-(1)) (dx 7 (Wo 8 kf L2.tok (s.into-1) ((s.into-1).toNat) (hq:=rfl)) (Uq 8 (VU 8 kf L2.tok ((s.into-1).toNat) xt hxt) (ZH 2 4 [9,10] [0] (dw 11 (Yf s.args) (Zm 0 1 [12] (de (ac (xt != (s.args.length:Int)) Ym (fun Xf=>?_) (fun Xf=>?_)))))))))))
  ·exact ar (Zr (r1 [] (.inr ⟨rfl,rfl,(by rw [U9,hT];simp only [hA,↓reduceIte];rw [QE,Zd Yg,hgt,Zd Xf])⟩)))
  exact ak (aE 9 (ZH 3 9 [0,1,2,3,4,5] [2,0] (da 6 ((s.into-1)) ((s.into)-(1)) (dx 7 (Wo 8 kf L2.tok (s.into-1) ((s.into-1).toNat) (hq:=rfl)) (Z9 8 (JT 8 8 [] [] kf L2.tok ((s.into-1).toNat) (-1) (de (ar (Zr (r1 [3,3,3,3,3,3,0] (.inl ⟨ka,kb,kc,kd,ke,kf,(Zh.mk L2.vars L2.own L2.par L2.con L2.fst (L2.tok.set ((s.into-1).toNat) (-1))),rfl,rfl,(by rw [U9,hT];simp only [hA,↓reduceIte];rw [QE,Zd Yg,hgt,Z8 Xf])⟩) (eq:=(rc (rv (xs:=L2.vars) ob (rv (xs:=L2.own) ob (rv (xs:=L2.par) ob (rv (xs:=L2.con) ob (rv (xs:=L2.fst) ob (rv (xs:=(L2.tok.set ((s.into-1).toNat) (-1))) ob rz))))))))))))))))))
 exact ak (ar (Zr (r1 [2,2,2,2,2,2,2] (.inl ⟨ka,kb,kc,kd,ke,kf,L2,rfl,rfl,(by rw [U9,hT];simp only [hA,↓reduceIte];rw [QE,Z8 Yg])⟩))))
theorem Z7b (b:Z6) (t:Int) (hz:b.sz<=1000000) (ih:∀(b2:Z6) (t:Int),(b2.sz<=1000000)->(b2.sz<b.sz)->Zk 231 [ZZ b2,.i t] [] (fun r h=>∃(wr:Bool),r=.b wr/\h=[])):Zk 231 [ZZ b,.i t] [] (fun r h=>∃(wr:Bool),r=.b wr/\h=[]):=by
 have ZL:=Uk b
 have hbl:=Jg b.steps
 have hbe:=b.sz_eq
 refine ZF 53 Tryz.func231 (ar (iA (Xm b) fun b1=>?_))
 refine Z0 (Yi (ab 0 (Y6 (fun fz gz m F h=>∃(k:Nat),(k<=b.steps.length)/\F=sF [1,2] fz [(5,.i k)]/\h=gz/\m=b.steps.length-k) _ _ _ ⟨0,ob,rfl,rfl,rfl⟩ (wk [0] (Yd fl)) ?_)))
 rintro m F h ⟨k,Yj,rfl,rfl,rfl⟩
 refine Yl 3 [0] (iw (VO b.steps) (Y5 ((k:Int)<(b.steps.length:Int)) (fun Za=>?_) (fun Za=>?_)))
 ·refine ak (aq (ab 1 (Yl 3 [0] ?_)))
  obtain ⟨x1,Z3⟩:=Zs b.steps k om
  have hxs:=Mq (ZW Z3)
  have hxe:=(x1).sz_eq
  have hxk:=TK x1
  refine Zo (Zj none (k:Int) 5 (V2 Z3)) (Xv [1,2,5] [(30,.b ((x1.op==10)&&(x1.num==t)))] (fun gz=>gz) ?_ ?_)
  ·refine Z2 4 (ib (b:=(x1.op==10)) 21 (fun Zb=>?_) (fun Zb=>?_))
   ·exact ZO 3 [0] (Zo (Zj none (k:Int) 5 (V2 Z3)) (Z0 (wk [0] (Zt (x1.num==t) Zb fl))))
   exact Z0 (wk [0] (Zt false Zb fl))
  refine ac ((x1.op==10)&&(x1.num==t)) (p:=(x1.op=10)/\(x1.num=t)) (YL Zq Zq) (fun Zg=>?_) (fun Zg=>?_)
  ·exact ar (Zr (r1 [] ⟨true,rfl,rfl⟩))
  refine ak (ZE (ab 2 (Y6 (fun fz gz m F h=>∃(j:Nat),(j<=x1.kids.length)/\F=sF [1,2,5] fz [(6,.i j)]/\h=gz/\m=x1.kids.length-j) _ _ _ ⟨0,ob,rfl,rfl,rfl⟩ (wk [0] (Yd fl)) ?_)))
  rintro m F h ⟨j,Up,rfl,rfl,rfl⟩
  refine Yl 4 [0] (Zo (Zj none (k:Int) 5 (V2 Z3)) (Z2 2 (iw (Uy x1.kids) (Y5 ((j:Int)<(x1.kids.length:Int)) (fun ZC=>?_) (fun ZC=>?_)))))
  ·refine ak (aq (ab 3 (Zw 3 [0] (Zo (Zj none (k:Int) 5 (V2 Z3)) (Z2 3 ?_)))))
   obtain ⟨x2,Zx⟩:=Zs x1.kids j om
   have hkx:=HN (ZW Zx)
   refine Zo (Zj none (j:Int) 2 (T9 Zx)) (Z2 2 (ic [] (ih x2 t ob ob) ?_))
   rintro _ _ ⟨wr1,rfl,rfl⟩
   refine ie (ac wr1 Iff.rfl (fun Yg=>?_) (fun Yg=>?_))
   ·exact ar (Zr (r1 [] ⟨true,rfl,rfl⟩))
   exact ak (az (Z2 1 (ZJ j (Z0 (ZK ⟨j+1,ob,rfl,rfl,rfl⟩ (wk [0] (ZM j fl)))))))
  exact ax 2 (az (Z2 1 (ZJ k (Z0 (ZK ⟨k+1,ob,rfl,rfl,rfl⟩ (wk [0] (ZM k fl)))))))
 exact ax 0 (ar (Zr (r1 [] ⟨false,rfl,rfl⟩)))
theorem Z7a (b:Z6) (t:Int) (hz:b.sz<=1000000:=by exact ob):Zk 231 [ZZ b,.i t] [] (fun r h=>∃(wr:Bool),r=.b wr/\h=[]):=by
 have key:∀k:Nat,∀(b2:Z6) (t:Int),(b2.sz<=1000000)->(b2.sz<k)->Zk 231 [ZZ b2,.i t] [] (fun r h=>∃(wr:Bool),r=.b wr/\h=[]):=by
  intro k
  induction k with
  | zero=>intro b2 t h1 h2;omega
  | succ k ih=>intro b2 t h1 h2;exact Z7b b2 t h1 fun b3 t3 q1 q2=>ih b3 t3 q1 om
 exact key (b.sz+1) b t hz om
theorem Z7t (n:Zi) (t:Int) (qz:Nat) (hn:FN n qz:=by exact ob) (hqz:qz<=100000:=by exact ob):Zk 188 [Yq n,.i t] [] (fun r h=>∃(wr:Bool),r=.b wr/\h=[]):=by
 have hnl:=hn.len
 refine ZF 21 Tryz.func188 (ar (iA (YU n) fun b1=>?_))
 refine Z0 (Yi (ab 0 (Y6 (fun fz gz m F h=>∃(k:Nat),(k<=n.routines.length)/\F=sF [1,2] fz [(5,.i k)]/\h=gz/\m=n.routines.length-k) _ _ _ ⟨0,ob,rfl,rfl,rfl⟩ (wk [0] (Yd fl)) ?_)))
 rintro m F h ⟨k,Yj,rfl,rfl,rfl⟩
 refine Yl 3 [0] (iw (Ur n.routines) (Y5 ((k:Int)<(n.routines.length:Int)) (fun Za=>?_) (fun Za=>?_)))
 ·refine ak (aq (ab 1 (Zw 3 [0] ?_)))
  obtain ⟨x1,Z3⟩:=Zs n.routines k om
  have hbz:=(hn.body _ (ZW Z3)).2
  refine Zo (Zj none (k:Int) 5 (Wv Z3)) (Z2 3 (ic [] (Z7a x1.body t) ?_))
  rintro _ _ ⟨wr1,rfl,rfl⟩
  refine ie (ac wr1 Iff.rfl (fun Zg=>?_) (fun Zg=>?_))
  ·exact ar (Zr (r1 [] ⟨true,rfl,rfl⟩))
  exact ak (az (Z2 1 (ZJ k (Z0 (ZK ⟨k+1,ob,rfl,rfl,rfl⟩ (wk [0] (ZM k fl)))))))
 exact ax 0 (ar (Zr (r1 [] ⟨false,rfl,rfl⟩)))
theorem OP (fs:LI) (q:Nat) (hl:fs.length<=1000000:=by exact ob) (hq:q<=1000000:=by exact ob):Zk 189 [Z5 fs,.i q] [] (fun r h=>∃(xs:LI),r=Z5 xs/\h=[]/\xs.length<=fs.length/\∀i∈xs,(q:Int)<=i/\i<(q:Int)+fs.length):=by
 refine ZF 26 Tryz.func189 (ZE (ar (iL (Z7 []) 0 1 fun v1=>?_)))
 refine Z0 (Yi (ab 0 (Y6 (fun fz gz m F h=>∃(k:Nat) (ys:LI) (u:Value),(k<=fs.length)/\(ys.length<=k)/\(∀i∈ys,(q:Int)<=i/\i<(q:Int)+fs.length)/\F=sF [0,1] fz [(5,ZQ ys u),(6,.i k)]/\h=[.tail u 1]/\m=fs.length-k) _ _ _ ⟨0,[],v1,ob,ob,(fun i hi=>by cases hi),rfl,rfl,rfl⟩ (wk [0] (fr (Yd fl))) ?_)))
 rintro m F h ⟨k,ys,u,Yj,Zl,Zy,rfl,rfl,rfl⟩
 refine YO 2 (iw (Yf fs) (Y5 ((k:Int)<(fs.length:Int)) (fun Za=>?_) (fun Za=>?_)))
 ·refine ak (aq (ab 1 (Ya 2 ?_)))
  obtain ⟨x1,Z3⟩:=Zs fs k om
  refine Zo (Zj none (k:Int) 1 (Y3 Z3)) (YH (x1 != 0) Ym (fun Zg=>?_) (fun Zg=>?_))
  ·exact az (Z2 3 (ia (((q+k:Nat):Int)) (((q:Int))+((k:Int))) (iL (Z7 [((q+k:Nat):Int)]) 1 1 fun v2=>ZU 0 [(23,Z5 [((q+k:Nat):Int)])] (ip 1 (Z7 (ys++[((q+k:Nat):Int)])) (Z7 ys) (Z7 [((q+k:Nat):Int)]) u none 1 (YC _) (YC _) (We _) (by simp<;>omega) (by simp [Wd,Z7]) fun v3=>Z0 (az (Z2 1 (ZJ k (Z0 (ZK ⟨k+1,(ys++[((q+k:Nat):Int)]),v3,ob,ob,(XJ Zy om),rfl,rfl,rfl⟩ (wk [0] (fr (ZM k fl))))))))))))
  exact ak (az (Z2 1 (ZJ k (Z0 (ZK ⟨k+1,ys,u,ob,ob,ob,rfl,rfl,rfl⟩ (wk [0] (fr (ZM k fl))))))))
 exact ax 0 (ar (Zr (r2 [] [ZQ ys u] ⟨ys,rfl,rfl,⟨by omega,Zy⟩⟩ (Ze.forget _ _))))
theorem OJ (n:Zi) (qz:Nat) (hn:FN n qz:=by exact ob) (hqz:qz<=100000:=by exact ob):Zk 136 [Yq n] [] (fun r h=>∃(xs:List LI),r=Kf xs/\h=[]/\LC n n.routines.length xs):=by
 have hnl:=hn.len
 refine ZF 31 Tryz.func136 (ar (iA (YU n) fun b1=>Z0 (ar (iL (Wu []) 0 1 fun v1=>?_))))
 refine Z0 (Yi (ab 0 (Y6 (fun fz gz m F h=>∃(k:Nat) (ys:List LI) (u:Value),(k<=n.routines.length)/\(ys.length=k)/\(LC n k ys)/\F=sF [1] fz [(3,Bn ys u),(4,.i k)]/\h=[Zc gz 1,.tail u 1]/\m=n.routines.length-k) _ _ _ ⟨0,[],v1,ob,ob,LC.nil,rfl,rfl,rfl⟩ (wk [1,0] (fr (Yd fl))) ?_)))
 rintro m F h ⟨k,ys,u,Yj,Zl,Zy,rfl,rfl,rfl⟩
 refine Yl 3 [0] (iw (Ur n.routines) (Y5 ((k:Int)<(n.routines.length:Int)) (fun Za=>?_) (fun Za=>?_)))
 ·refine ak (aq (ab 1 (Zw 2 [0] (ic [] (Z7t n (k:Int) qz) ?_))))
  rintro _ _ ⟨wr1,rfl,rfl⟩
  refine ie (ac wr1 Iff.rfl (fun Zg=>?_) (fun Zg=>?_))
  ·exact az (Z2 1 (iL (Z7 []) 0 1 fun v2=>ZU 0 [(17,Z5 [])] (iL (Wu [[]]) 1 1 fun v3=>ZU 0 [(18,Kf [[]])] (ip 3 (Wu (ys++[[]])) (Wu ys) (Wu [[]]) u none 1 (B8 _) (B8 _) (Fy _) (by simp<;>omega) (by simp [Im,Wu]) fun v4=>Z0 (az (Z2 1 (ZJ k (Z0 (ZK ⟨k+1,(ys++[[]]),v4,ob,ob,(Zy.snoc (by simp) (fun r hr v hv=>by cases hv)),rfl,rfl,rfl⟩ (wk [3,0] (fr (ZM k fl))))))))))))
  refine az (ZO 4 [0] ?_)
  obtain ⟨x1,Z3⟩:=Zs n.routines k om
  have hrp:=(FN.ok hn).params_at Z3
  have hss:=(TC.bd (f:=⟨(x1).params,(x1).result,default⟩) (hn.sigs _ (ZW Z3))).1
  refine Zo (Zj none (k:Int) 5 (Wv Z3)) (Z2 2 (ic [] (OP x1.params 0) ?_))
  rintro _ _ ⟨xs1,rfl,rfl,ZX⟩
  have hhf:=ZX
  exact iL (Wu [xs1]) 1 1 fun v5=>ZU 0 [(28,Kf [xs1])] (ip 2 (Wu (ys++[xs1])) (Wu ys) (Wu [xs1]) u none 1 (B8 _) (B8 _) (Fy _) (by simp<;>omega) (by simp [Im,Wu]) fun v6=>Z0 (az (Z2 1 (ZJ k (Z0 (ZK ⟨k+1,(ys++[xs1]),v6,ob,ob,(Zy.snoc om (fun r hr v hv=>by rw [Z3] at hr;cases hr;have:=hhf.2 v hv;omega)),rfl,rfl,rfl⟩ (wk [2,0] (fr (ZM k fl)))))))))
 exact ax 0 (ar (Zr (r2 [] [Bn ys u] ⟨ys,rfl,rfl,(by rw [show n.routines.length=k by omega];exact Zy)⟩ (Ze.forget _ _))))
theorem Z7e (n:Zi) (b:Z6) (t:Int) (mq:Nat) (hn:X6 n) (hf:fB n.decls n.routines.length mq b) (hz:b.sz<=1000000) (ih:∀(b2:Z6) (t:Int) (m2:Nat),(fB n.decls n.routines.length m2 b2)->(b2.sz<=1000000)->(b2.sz<b.sz)->Zk 190 [Yq n,ZZ b2,.i t] [] (fun r h=>∃(wr:Bool),r=.b wr/\h=[])):Zk 190 [Yq n,ZZ b,.i t] [] (fun r h=>∃(wr:Bool),r=.b wr/\h=[]):=by
 have hbl:=Jg b.steps
 have hbe:=b.sz_eq
 refine ZF 68 Tryz.func190 (ar (iA (YU n) fun b1=>iA (Xm b) fun b2=>Z0 (X9 (VT [0] (ac (b.result==t) Zq (fun Za=>?_) (fun Za=>?_))))))
 ·exact ar (Zr (r1 [] ⟨true,rfl,rfl⟩))
 refine ak (Yi (ab 0 (Y6 (fun fz gz m F h=>∃(k:Nat),(k<=b.steps.length)/\F=sF [2,3,4] fz [(7,.i k)]/\h=gz/\m=b.steps.length-k) _ _ _ ⟨0,ob,rfl,rfl,rfl⟩ (wk [0,0] (Yd fl)) ?_)))
 rintro m F h ⟨k,Yj,rfl,rfl,rfl⟩
 refine Yl 3 [0] (iw (VO b.steps) (Y5 ((k:Int)<(b.steps.length:Int)) (fun Zg=>?_) (fun Zg=>?_)))
 ·refine ak (aq (ab 1 (Zw 3 [0] ?_)))
  obtain ⟨x1,Z3⟩:=Zs b.steps k om
  have hfs:=(FD x1).1 (DZ ((DX b).1 hf).1 Z3)
  have hxs:=Mq (ZW Z3)
  have hxe:=(x1).sz_eq
  have hxk:=TK x1
  refine Zo (Zj none (k:Int) 5 (V2 Z3)) (Z2 1 (iA [.i 0,.i 0,.i 0,nl,nl] fun b3=>?_))
  refine ZI 0 b3 (XG x1) (ie (Yi (ab 2 (Y6 (fun fz gz m F h=>∃(j:Nat),(j<=x1.args.length)/\F=sF [2,3,4,7,8] fz [(9,.i j)]/\h=gz/\m=x1.args.length-j) _ _ _ ⟨0,ob,rfl,rfl,rfl⟩ (ZG 3 (Yd fl)) ?_))))
  rintro m F h ⟨j,Up,rfl,rfl,rfl⟩
  refine Yl 3 [0] (iw (Yf x1.args) (Y5 ((j:Int)<(x1.args.length:Int)) (fun ZC=>?_) (fun ZC=>?_)))
  ·refine ak (aq (ab 3 (Zw 3 [0] ?_)))
   obtain ⟨x2,Zx⟩:=Zs x1.args j om
   refine Zo (Zj none (j:Int) 1 (Y3 Zx)) (XU 12 [2,3,4,7,8,9] [(45,.b ((x2==t)&&T6 x1.op))] (fun gz=>gz) ?_ (fun hj1=>?_))
   ·refine Xv [2,3,4,7,8,9] [(52,.b (((x2==t)&&T6 x1.op)&&(!WH n x1.op x1.num j)))] (fun gz=>gz) ?_ ?_
    ·refine Z2 1 (ib (b:=((x2==t)&&T6 x1.op)) 46 (fun Zb=>?_) (fun Zb=>?_))
     ·exact ZO 3 [2,0] (Zz [] (ED n x1 j (hnum:=hfs.call)) (Z0 (ZG 3 (Zt (!WH n x1.op x1.num j) Zb fl))))
     exact Z0 (ZG 3 (Zt false Zb fl))
    refine ac (((x2==t)&&T6 x1.op)&&(!WH n x1.op x1.num j)) (p:=((x2=t)/\(T6 x1.op=true))/\(¬(WH n x1.op x1.num j=true))) (YL (YL Zq Iff.rfl) (YA Iff.rfl)) (fun Yg=>?_) (fun Yg=>?_)
    ·exact ar (Zr (r1 [] ⟨true,rfl,rfl⟩))
    exact ak (az (Z2 1 (ZJ j (Z0 (ZK ⟨j+1,ob,rfl,rfl,rfl⟩ (ZG 3 (ZM j fl)))))))
   refine Z2 4 (ib (b:=(x2==t)) 41 (fun ZB=>?_) (fun ZB=>?_))
   ·exact ZO 2 [0] (Zz [] (SV x1.op) (Z2 1 (YB (ZG 3 (Zt (T6 x1.op) ZB fl)) hj1)))
   exact Z2 4 (YB (ZG 3 (Zt false ZB fl)) hj1)
  refine ax 2 (ZE (ab 4 (Y6 (fun fz gz m F h=>∃(j:Nat),(j<=x1.kids.length)/\F=sF [2,3,4,7,8] fz [(10,.i j)]/\h=gz/\m=x1.kids.length-j) _ _ _ ⟨0,ob,rfl,rfl,rfl⟩ (ZG 3 (Yd fl)) ?_)))
  rintro m F h ⟨j,ND,rfl,rfl,rfl⟩
  refine Yl 3 [0] (iw (Uy x1.kids) (Y5 ((j:Int)<(x1.kids.length:Int)) (fun Xf=>?_) (fun Xf=>?_)))
  ·refine ak (aq (ab 5 (aD 8 (ZH 4 8 [0,1,2,3] [2,0] ?_))))
   obtain ⟨x3,YS⟩:=Zs x1.kids j om
   have hkx:=HN (ZW YS)
   have hfk:=DY hfs.kids YS
   refine dx 4 (Zj none (j:Int) 2 (T9 YS)) (Zm 1 3 [5,6] (Z9 7 (dc 7 [] [] [] (ih x3 t (T0 n.decls x1.op x1.num (mq+X5 (b.steps.take k)) (0+j)) hfk ob ob) ?_)))
   rintro _ _ ⟨wr1,rfl,rfl⟩
   refine de (ac wr1 Iff.rfl (fun Xo=>?_) (fun Xo=>?_))
   ·exact ar (Zr (r1 [] ⟨true,rfl,rfl⟩))
   exact ak (az (Z2 1 (ZJ j (Z0 (ZK ⟨j+1,ob,rfl,rfl,rfl⟩ (ZG 3 (ZM j fl)))))))
  exact ax 4 (az (Z2 1 (ZJ k (Z0 (ZK ⟨k+1,ob,rfl,rfl,rfl⟩ (wk [1,1] (ZM k fl)))))))
 exact ax 0 (ar (Zr (r1 [] ⟨false,rfl,rfl⟩)))
theorem Z7d (n:Zi) (b:Z6) (t:Int) (mq:Nat) (hn:X6 n:=by exact ob) (hf:fB n.decls n.routines.length mq b:=by exact ob) (hz:b.sz<=1000000:=by exact ob):Zk 190 [Yq n,ZZ b,.i t] [] (fun r h=>∃(wr:Bool),r=.b wr/\h=[]):=by
 have key:∀k:Nat,∀(b2:Z6) (t:Int) (m2:Nat),(fB n.decls n.routines.length m2 b2)->(b2.sz<=1000000)->(b2.sz<k)->Zk 190 [Yq n,ZZ b2,.i t] [] (fun r h=>∃(wr:Bool),r=.b wr/\h=[]):=by
  intro k
  induction k with
  | zero=>intro b2 t m2 h1 h2 h3;omega
  | succ k ih=>intro b2 t m2 h1 h2 h3;exact Z7e n b2 t m2 hn h1 h2 fun b3 t3 m3 q1 q2 q3=>ih b3 t3 m3 q1 q2 om
 exact key (b.sz+1) b t mq hf hz om
theorem Z7u (n:Zi) (rt:Y8) (i:Nat) (qz:Nat) (hn:FN n qz:=by exact ob) (hqz:qz<=100000:=by exact ob) (hr:n.routines[i]? = some rt:=by exact ob):Zk 137 [Yq n,.i i] [] (fun r h=>∃(xs:LI),r=Z5 xs/\h=[]/\xs.length<=rt.lent.length/\∀v∈xs,v∈rt.lent):=by
 have hok:=FN.ok hn
 have hrl:=hn.lent rt (ZW hr)
 have hrb:=hn.body rt (ZW hr)
 obtain ⟨hil,_⟩:=Xq.1 hr
 have hnl:=hn.len
 refine ZF 50 Tryz.func137 (ar (iA (YU n) fun b1=>Z0 (ar (iL (Z7 []) 0 1 fun v1=>?_))))
 refine Z0 (Yi (ab 0 (Y6 (fun fz gz m F h=>∃(k:Nat) (ys:LI) (u:Value),(k<=rt.lent.length)/\(ys.length<=k)/\(∀v∈ys,v∈rt.lent)/\F=sF [1,2] fz [(5,ZQ ys u),(6,.i k)]/\h=[Zc gz 1,.tail u 1]/\m=rt.lent.length-k) _ _ _ ⟨0,[],v1,ob,ob,(fun v hv=>by cases hv),rfl,rfl,rfl⟩ (wk [1,0] (fr (Yd fl))) ?_)))
 rintro m F h ⟨k,ys,u,Yj,Zl,Zy,rfl,rfl,rfl⟩
 refine Yl 4 [0] (Zo (Zj none (i:Int) 5 (Wv hr)) (Z2 2 (iw (Yf rt.lent) (Y5 ((k:Int)<(rt.lent.length:Int)) (fun Za=>?_) (fun Za=>?_)))))
 ·refine ak (aq (ab 1 (aD 18 (ZH 14 18 [0,1,2,3] [0,0] (dx 4 (Zj none (i:Int) 5 (Wv hr)) (ZH 8 13 [5,6,7,8,9] [0] (dx 10 (Zj none (i:Int) 5 (Wv hr)) (Zm 4 7 [11,12,13] ?_))))))))
  obtain ⟨x1,Z3⟩:=Zs rt.lent k om
  refine dx 14 (Zj none (k:Int) 1 (Y3 Z3)) (Zm 2 3 [15] (Z9 16 (dc 16 [] [] [] (Z7d n rt.body x1 rt.params.length (hn:=hok) (hf:=hrb.1)) ?_)))
  rintro _ _ ⟨wr1,rfl,rfl⟩
  refine Zm 0 1 [17] (de (ac (!wr1) (p:=¬(wr1=true)) (YA Iff.rfl) (fun Zg=>?_) (fun Zg=>?_)))
  ·exact az (ZO 4 [0] (Zo (Zj none (i:Int) 5 (Wv hr)) (Z2 3 (Zo (Zj none (k:Int) 1 (Y3 Z3)) (Z2 1 (iL (Z7 [x1]) 1 1 fun v2=>ZU 0 [(47,Z5 [x1])] (ip 2 (Z7 (ys++[x1])) (Z7 ys) (Z7 [x1]) u none 1 (YC _) (YC _) (We _) (by simp<;>omega) (by simp [Wd,Z7]) fun v3=>Z0 (az (Z2 1 (ZJ k (Z0 (ZK ⟨k+1,(ys++[x1]),v3,ob,ob,(XJ Zy (ZW Z3)),rfl,rfl,rfl⟩ (wk [2,0] (fr (ZM k fl)))))))))))))))
  exact ak (az (Z2 1 (ZJ k (Z0 (ZK ⟨k+1,ys,u,ob,ob,ob,rfl,rfl,rfl⟩ (wk [0,0] (fr (ZM k fl))))))))
 exact ax 0 (ar (Zr (r2 [] [ZQ ys u] ⟨ys,rfl,rfl,⟨by omega,Zy⟩⟩ (Ze.forget _ _))))
theorem Zfi (s:Z4) (ih:∀(b2:Z6),(b2.sz<s.sz)->(b2.sz<=1000000000)->Zk 156 [ZZ b2] [] (Ys (ZZ b2))) (hz:s.sz<=1000000000):Zk 211 [YI s] [] (Ys (YI s)):=by
 have hkz:=TK s
 have haz:=QA s
 refine ZF 33 Tryz.func211 (ar (iA (XG s) fun b1=>iA [.i 0,.i 0,.i 0,nl,nl] fun b2=>ie (ar (iL (YM []) 0 2 fun v1=>?_))))
 refine Z0 (Yi (ab 0 (Y6 (fun fz gz m F h=>∃(k:Nat) (v:Value),(k<=s.kids.length)/\F=sF [1,2] fz [(3,Ty (s.kids.take k) v),(4,.i k)]/\h=[Zc gz 1,Zc gz 2,.tail v 2]/\m=s.kids.length-k) _ _ _ ⟨0,v1,ob,rfl,rfl,rfl⟩ (wk [1,1,0] (fc (x:=Ty [] v1) (Ze.slh _ (Yp YM rfl)) (Yd fl))) ?_)))
 rintro m F h ⟨k,v,Yj,rfl,rfl,rfl⟩
 refine Yl 3 [1] (iw (Uy s.kids) (Y5 ((k:Int)<(s.kids.length:Int)) (fun Za=>?_) (fun Za=>?_)))
 ·refine ak (aq (ab 1 (az (ZO 4 [1] ?_))))
  obtain ⟨x1,Z3⟩:=Zs s.kids k om
  have hks:=Tx Z3
  exact Zo (Zj none (k:Int) 2 (T9 Z3)) (Z2 1 (Zz [] (ih x1 ob ob) (iL [ZZ x1] 1 2 fun v2=>ZU 0 [(20,.sl [ZZ x1] none)] (ip 3 (YM (s.kids.take (k+1))) (YM (s.kids.take k)) [ZZ x1] v none 2 (Q4 _) (QI rfl) rfl (by simp<;>omega) (by rw [Vl Z3];simp [Tp]) fun v3=>Z0 (az (Z2 1 (ZJ k (Z0 (ZK ⟨k+1,v3,ob,rfl,rfl,rfl⟩ (wk [2,2,0] (fr (ZM k fl))))))))))))
 refine ax 0 (aD 12 (ZH 3 12 [0,1,2,3,4,5,6,7,9] [1,1,1,1] (Z9 8 (dc 8 [] [1,1,1] [b1,b1,b1] (UD s.args) ?_))))
 rintro _ _ ⟨v4,rfl,rfl⟩
 exact Zm 1 2 [10] (Z9 11 (YK 11 1 [] [] b2 [.i s.op,.i s.num,.i s.into,ZQ s.args v4,Ty (s.kids.take k) v] (de (ZD (r3 [] [.agg [.i s.op,.i s.num,.i s.into,ZQ s.args v4,Ty (s.kids.take k) v]] [0] [(b2,b2)] ⟨rfl,rfl⟩ (Ze.agg (.cons (lr _) (.cons (lr _) (.cons (lr _) (.cons (Ze.forget _ _) (.cons (Ze.sl _ (Yp YM (by rw [Vt om]))) .nil)))))))))))
theorem Zfh (b:Z6) (ih:∀(s2:Z4),(s2.sz<b.sz)->(s2.sz<=1000000000)->Zk 211 [YI s2] [] (Ys (YI s2))) (hz:b.sz<=1000000000):Zk 156 [ZZ b] [] (Ys (ZZ b)):=by
 have hbz:=Uk b
 refine ZF 28 Tryz.func156 (ar (iA (Xm b) fun b1=>iA [nl,.i 0] fun b2=>ie (ar (iL (Zv []) 0 5 fun v1=>ZO 3 [2] (iA [nl,.i 0] fun b3=>?_)))))
 refine ZI 0 b3 [X4 [] v1,.i b.result] (ie (Yi (ab 0 (Y6 (fun fz gz m F h=>∃(k:Nat) (v:Value),(k<=b.steps.length)/\F=sF [1,2,3] fz [(4,.i k)]/\h=[.obj b3 [X4 (b.steps.take k) v,.i b.result],Zc gz 2,Zc gz 3,.tail v 5]/\m=b.steps.length-k) _ _ _ ⟨0,v1,ob,rfl,rfl,rfl⟩ (wk [0,1,1,0] (Yd fl)) ?_))))
 rintro m F h ⟨k,v,Yj,rfl,rfl,rfl⟩
 refine Yl 3 [2] (iw (VO b.steps) (Y5 ((k:Int)<(b.steps.length:Int)) (fun Za=>?_) (fun Za=>?_)))
 ·refine ak (aq (ab 1 (aE 12 (ZH 7 12 [0,1,2,3,4] [0,2] ?_))))
  obtain ⟨x1,Z3⟩:=Zs b.steps k om
  have hss:=A5 Z3
  exact dx 5 (Zj none (k:Int) 5 (V2 Z3)) (Zm 5 6 [6] (Z9 7 (Yo 7 [] [0] [b3] (ih x1 ob ob) (Z9 8 (dL 8 [0] [b3] [YI x1] 1 5 fun v2=>Yw 3 3 [] [(24,.sl [YI x1] none)] (Z9 9 (dp 9 4 [] [] (Zv (b.steps.take (k+1))) (Zv (b.steps.take k)) [YI x1] v none 5 (Xe _) (QI rfl) rfl (by simp<;>omega) (by rw [Vl Z3];simp [Vx]) fun v3=>Zm 1 2 [10] (Z9 11 (YK 11 2 [] [] b3 [X4 (b.steps.take (k+1)) v3,.i b.result] (de (az (Z2 1 (ZJ k (Z0 (ZK ⟨k+1,v3,ob,rfl,rfl,rfl⟩ (wk [0,2,2,0] (ZM k fl)))))))))))))))))
 exact ax 0 (Zw 1 [0] (ZI 1 b2 [X4 (b.steps.take k) v,.i b.result] (ie (ZD (r3 [] [.agg [X4 (b.steps.take k) v,.i b.result]] [0] [(b2,b2)] ⟨rfl,rfl⟩ (Ze.agg (.cons (Ze.sl _ (Yp Zv (by rw [Vt om]))) (.cons (lr _) .nil))))))))
theorem SX (k:Nat):(∀(s:Z4),(s.sz<=k)->(s.sz<=1000000000)->Zk 211 [YI s] [] (Ys (YI s)))/\(∀(b:Z6),(b.sz<=k)->(b.sz<=1000000000)->Zk 156 [ZZ b] [] (Ys (ZZ b))):=by
 induction k with
 | zero=>exact ⟨fun s h=>by have:=s.sz_pos;omega,fun s h=>by have:=s.sz_pos;omega⟩
 | succ k ih=>exact ⟨fun s h hz=>Zfi s (fun b2 h2 h3=>ih.2 b2 om h3) hz,fun b h hz=>Zfh b (fun s2 h2 h3=>ih.1 s2 om h3) hz⟩
theorem SW (s:Z4) (hz:s.sz<=1000000000:=by exact ob):Zk 211 [YI s] [] (Ys (YI s)):=(SX s.sz).1 s (X7 _) hz
theorem H1 (b:Z6) (hz:b.sz<=1000000000:=by exact ob):Zk 156 [ZZ b] [] (Ys (ZZ b)):=(SX b.sz).2 b (X7 _) hz
theorem FU (n:Zi) (ls:List LI) (qz:Nat) (hn:FO n qz V1:=by exact ob) (hqz:qz<=100000:=by exact ob) (hls:LC n n.routines.length ls:=by exact ob):Zk 135 [Yq n,Kf ls] [] (fun r h=>∃(n2:Zi),r=Yq n2/\h=[]/\FO n2 qz V1/\n2.routines.length=n.routines.length):=by
 have hnl:=hn.fn.len
 have XB:=hn.fn.decls.ok
 have hll:=hls.len
 refine ZF 45 Tryz.func135 (ar (iA (YU n) fun b1=>iA [nl,nl] fun b2=>ie (Zw 2 [1] (Zz [] (Cj n.decls) (iL (YQ []) 0 5 fun v1=>Z2 1 (iA [nl,nl] fun b3=>?_))))))
 refine ZI 0 b3 [ZT n.decls,WT [] v1] (ie (Yi (ab 0 (Y6 (fun fz gz m F h=>∃(k:Nat) (rs:List Y8) (u:Value),(k<=n.routines.length)/\(rs.length=k)/\(∀r∈rs,RF n.decls n.routines.length qz V1 r)/\F=sF [1,2,4,5] fz [(6,.i k)]/\h=[.obj b3 [ZT n.decls,WT rs u],Zc gz 2,Zc gz 3,.tail u 5]/\m=n.routines.length-k) _ _ _ ⟨0,[],v1,ob,ob,(fun r hr=>by cases hr),rfl,rfl,rfl⟩ (wk [0,1,1,0] (Yd fl)) ?_))))
 rintro m F h ⟨k,rs,u,Yj,Zl,Zy,rfl,rfl,rfl⟩
 refine Yl 3 [2] (iw (Ur n.routines) (Y5 ((k:Int)<(n.routines.length:Int)) (fun Za=>?_) (fun Za=>?_)))
 ·refine ak (aq (ab 1 (Zw 3 [2] ?_)))
  obtain ⟨x1,Z3⟩:=Zs n.routines k om
  have hrf:=hn.rf (ZW Z3)
  have hrp:=hn.fn.ok.params_at Z3
  have hrz:=hrf.body.2
  refine Zo (Zj none (k:Int) 5 (Wv Z3)) (Z2 1 (iA [nl,nl,.i 0,nl,.i 0] fun b4=>ZI 0 b4 (KH x1) (ie (aE 20 (ZH 14 20 [0,1,2,3,5,6] [1,0] ?_)))))
  obtain ⟨x2,Zx⟩:=Zs ls k om
  have hlc:=hls.at Zx Z3
  refine dx 7 (Zj none (k:Int) 1 (B7 Zx)) (ZH 8 13 [8,10,11,12,13] [0,0] (Z9 4 (dc 4 [] [0,0,1] [b4,b4,b3] (UD x1.params) ?_)))
  rintro _ _ ⟨v2,rfl,rfl⟩
  refine Z9 9 (dc 9 [] [0,0,1] [b4,b4,b3] (UD x2) ?_)
  rintro _ _ ⟨v3,rfl,rfl⟩
  exact Z9 14 (Yo 14 [] [0,1] [b4,b3] (H1 x1.body) (Yw 4 5 [15] [(40,.agg [Z5 x1.params,Z5 x2,.i x1.result,Wz x1.body.steps,.i x1.body.result])] (Z9 16 (dL 16 [1] [b3] (YQ [Y8.mk x1.params x2 x1.result (Z6.mk x1.body.steps x1.body.result)]) 1 5 fun v4=>Yw 3 3 [] [(41,KJ [Y8.mk x1.params x2 x1.result (Z6.mk x1.body.steps x1.body.result)])] (Z9 17 (dp 17 7 [] [] (YQ (rs++[Y8.mk x1.params x2 x1.result (Z6.mk x1.body.steps x1.body.result)])) (YQ rs) (YQ [Y8.mk x1.params x2 x1.result (Z6.mk x1.body.steps x1.body.result)]) u none 5 (UV _) (UV _) (B9 _) (by simp<;>omega) (by simp [BX,YQ]) fun v5=>Zm 1 2 [18] (Z9 19 (YK 19 5 [] [] b3 [ZT n.decls,WT (rs++[Y8.mk x1.params x2 x1.result (Z6.mk x1.body.steps x1.body.result)]) v5] (de (az (Z2 1 (ZJ k (Z0 (ZK ⟨k+1,(rs++[Y8.mk x1.params x2 x1.result (Z6.mk x1.body.steps x1.body.result)]),v5,ob,ob,(XJ Zy (by rw [Z6.eta];exact hrf.lend hlc.1 hlc.2)),rfl,rfl,rfl⟩ (wk [0,5,5,0] (ZM k fl))))))))))))))))
 exact ax 0 (Zw 1 [0] (ZI 1 b2 [ZT n.decls,WT rs u] (ie (ZD (r3 [] [.agg [ZT n.decls,WT rs u]] [0] [(b2,b2)] ⟨(Zi.mk n.decls rs),rfl,rfl,(FO.fin hn.fn om Zy)⟩ (Ze.agg (.cons (lr _) (.cons (Ze.forget _ _) .nil))))))))
theorem Z82 (n:Zi) (qz:Nat) (hn:FO n qz V1:=by exact ob) (hqz:qz<=100000:=by exact ob):Zk 78 [Yq n] [] (fun r h=>∃(n2:Zi),r=Yq n2/\h=[]/\FO n2 qz V1):=by
 refine ZF 33 Tryz.func78 (ar (iA (YU n) fun b1=>iA [nl,nl] fun b2=>?_))
 refine ie (aD 6 (ZH 4 6 [0,1] [1,1] (J2 (fun fz gz F h=>∃(n21:Zi) (b3:Nat) (xs1:List LI),(LC n n.routines.length xs1)/\(FO n21 qz V1/\n21.routines.length=n.routines.length)/\F=sF [2] fz [(3,.p b3 0)]/\h=[.obj b3 (YU n21),Zc gz 0,Zc gz 1]) ?_ ?_)))
 ·refine VN 2 4 ?_ ?_
  ·refine dc 2 [] [1] [b1] (OJ n qz (hn:=hn.fn)) ?_
   rintro _ _ ⟨xs1,rfl,rfl,ZX⟩
   refine VN 3 4 ?_ ?_
   ·refine dc 3 [] [] [] (FU n xs1 qz (hls:=(by first|assumption|(rw [<-hjl];exact Wa)))) ?_
    rintro _ _ ⟨n21,rfl,rfl,Yk⟩
    have hwl:=Yk
    exact Z9 4 (dA 4 [] [] [nl,nl] fun b3=>Z9 5 (YK 5 0 [] [] b3 (YU n21) (de (ZP ⟨_,b3,_,(by assumption),(by assumption),rfl,rfl⟩ (ZG 3 fl)))))
   refine dA 4 [1] [b1] [nl,nl] fun b4=>Z9 3 (dc 3 [] [] [] (FU n xs1 qz (hls:=(by first|assumption|(rw [<-hjl];exact Wa)))) ?_)
   rintro _ _ ⟨n22,rfl,rfl,YG⟩
   have hwl:=YG
   exact Z9 5 (YK 5 0 [] [] b4 (YU n22) (de (ZP ⟨_,b4,_,(by assumption),(by assumption),rfl,rfl⟩ (ZG 3 fl))))
  refine dA 4 [1,1] [b1,b1] [nl,nl] fun b5=>Z9 2 (dc 2 [] [2] [b1] (OJ n qz (hn:=hn.fn)) ?_)
  rintro _ _ ⟨xs2,rfl,rfl,YR⟩
  refine Z9 3 (dc 3 [] [] [] (FU n xs2 qz (hls:=(by first|assumption|(rw [<-hjl];exact Wa)))) ?_)
  rintro _ _ ⟨n23,rfl,rfl,Xl⟩
  have hwl:=Xl
  exact Z9 5 (YK 5 0 [] [] b5 (YU n23) (de (ZP ⟨_,b5,_,(by assumption),(by assumption),rfl,rfl⟩ (ZG 3 fl))))
 rintro F h ⟨n21,b3,xs1,ZX,Yk,rfl,rfl⟩
 have hwl:=Yk
 refine Yi (ab 0 (Y6 (fun fz gz m F h=>∃(k:Nat) (nn:Zi),(k<=13)/\(FO nn qz V1)/\F=sF [2,3] fz [(4,.i k)]/\h=[.obj b3 (YU nn),Zc gz 1]/\m=13-k) _ _ _ ⟨0,n21,ob,hwl.1,rfl,rfl,rfl⟩ (wk [0,0] (Yd fl)) ?_))
 rintro m F h ⟨k,nn,Yj,Zl,rfl,rfl,rfl⟩
 refine X9 (Y5 ((k:Int)<=12) (fun Za=>?_) (fun Za=>?_))
 ·refine ak (aq (ab 1 (ar (iL (Wu []) 0 1 fun v1=>?_))))
  refine Z0 (Yi (ab 2 (Y6 (fun fz gz m F h=>∃(j:Nat) (ls:List LI) (u:Value),(j<=nn.routines.length)/\(LC nn j ls)/\(ls.length=j)/\F=sF [2,3,4] fz [(5,Bn ls u),(6,.i j)]/\h=[Zc gz 1,Zc gz 2,.tail u 1]/\m=nn.routines.length-j) _ _ _ ⟨0,[],v1,ob,LC.nil,ob,rfl,rfl,rfl⟩ (wk [1,1,0] (fr (Yd fl))) ?_)))
  rintro m F h ⟨j,ls,u,Up,Wa,XZ,rfl,rfl,rfl⟩
  refine Yl 3 [0] (iw (Ur nn.routines) (Y5 ((j:Int)<(nn.routines.length:Int)) (fun Zg=>?_) (fun Zg=>?_)))
  ·obtain ⟨rt,hrt⟩:=Zs nn.routines j om
   have hrl:=(Zl.rf (ZW hrt)).lent
   have hnl4:=Zl.fn.len
   refine ak (aq (ab 3 (az (ZO 3 [0] (ic [] (Z7u nn rt j qz (hn:=Zl.fn) (hr:=hrt)) ?_)))))
   rintro _ _ ⟨xs3,rfl,rfl,W2⟩
   have hkl:=W2
   exact iL (Wu [xs3]) 1 1 fun v2=>ZU 0 [(27,Kf [xs3])] (ip 3 (Wu (ls++[xs3])) (Wu ls) (Wu [xs3]) u none 1 (B8 _) (B8 _) (Fy _) (by simp<;>omega) (by simp [Im,Wu]) fun v3=>Z0 (az (Z2 1 (ZJ j (Z0 (ZK ⟨j+1,(ls++[xs3]),v3,ob,(Wa.snoc om (fun r hr v hv=>by rw [hrt] at hr;cases hr;exact hrl.2 v (hkl.2 v hv))),ob,rfl,rfl,rfl⟩ (wk [2,2,0] (fr (ZM j fl)))))))))
  have hjl:j=nn.routines.length:=by omega
  refine ax 2 (az (QL 2 [(30,Kf ls)] [0] (ic [] (FU nn ls qz (hls:=(by first|assumption|(rw [<-hjl];exact Wa)))) ?_)))
  rintro _ _ ⟨n24,rfl,rfl,WG⟩
  have hwl:=WG
  exact ZI 0 b3 (YU n24) (ie (az (Z2 1 (ZJ k (Z0 (ZK ⟨k+1,n24,ob,hwl.1,rfl,rfl,rfl⟩ (wk [0,0] (ZM k fl))))))))
 exact ax 0 (Zw 1 [0] (ZI 1 b2 (YU nn) (ie (ZD (r3 [] [Yq nn] [0] [(b2,b2)] ⟨nn,rfl,rfl,(by first|exact Zl|exact hwl.1)⟩ (lr _))))))
theorem E3 (xs:LI) (y:Int) (hl:xs.length<=1000000000:=by exact ob):Zk 220 [Z5 xs,.i y] [] (fun r h=>∃(v:Value),r=ZQ (Us xs y) v/\h=[.tail v 1]):=by
 refine ZF 49 Tryz.func220 (ZE (ar (iL (Z7 []) 0 1 fun v1=>?_)))
 refine Z0 (ZE (Yi (ab 0 (Y6 (fun fz gz m F h=>∃(k:Nat) (acc:LI) (d:Bool) (v:Value),(k<=xs.length)/\(acc.length<=k+(if d=true then 1 else 0))/\(acc++Qr d (xs.drop k) y=Us xs y)/\F=sF [0,1] fz [(5,ZQ acc v),(6,.b d),(7,.i k)]/\h=[.tail v 1]/\m=xs.length-k) _ _ _ ⟨0,[],false,v1,ob,(by simp),rfl,rfl,rfl,rfl⟩ (wk [0] (fw (Yd fl))) ?_))))
 rintro m F h ⟨k,acc,d,v,Yj,Zl,Zy,rfl,rfl,rfl⟩
 refine YO 2 (iw (Yf xs) (Y5 ((k:Int)<(xs.length:Int)) (fun Za=>?_) (fun Za=>?_)))
 ·obtain ⟨x1,Z3⟩:=Zs xs k om
  have hil:acc.length<=k+1:=VE Zl (by split<;>omega)
  refine ak (aq (ab 1 (X9 (Xv [0,1,5,6,7] [(24,.b ((!d)&&(decide (x1>=y))))] (fun gz=>gz) ?_ ?_))))
  ·refine Z2 3 (ib (b:=(!d)) 17 (fun Zb=>?_) (fun Zb=>?_))
   ·exact Z2 2 (Zo (Zj none (k:Int) 1 (Y3 Z3)) (Z0 (wk [0] (Zt (decide (x1>=y)) Zb fl))))
   exact Z0 (wk [0] (Zt false Zb fl))
  refine XW (fun fz gz F h=>∃(acc2:LI) (d2:Bool) (w:Value),((acc2=acc/\d2=d/\(d=true∨¬x1>=y))∨(acc2=acc++[y]/\d2=true/\¬d=true/\x1>y)∨(acc2=acc/\d2=true/\¬d=true/\x1=y))/\(acc2.length<=k+(if d2=true then 1 else 0))/\(acc2.length<=k+1)/\F=sF [0,1,7] fz [(5,ZQ acc2 w),(6,.b d2)]/\h=[.tail w 1]) ?_ ?_
  ·refine ac ((!d)&&(decide (x1>=y))) (p:=(¬(d=true))/\(x1>=y)) (YL (YA Iff.rfl) dq) (fun Zg=>?_) (fun Zg=>?_)
   ·refine YO 2 (Zo (Zj none (k:Int) 1 (Y3 Z3)) (Z0 (XW (fun fz gz F h=>∃(w3:Value),F=sF [0,1,7] fz [(5,ZQ (if x1>y then (acc++[y]) else acc) w3)]/\h=[.tail w3 1]) ?_ ?_)))
    ·refine W9 (x1>y) (fun ZC=>?_) (fun ZC=>?_)
     ·exact az (Z2 2 (iL (Z7 [y]) 1 1 fun v2=>ZU 0 [(33,Z5 [y])] (ip 1 (Z7 (acc++[y])) (Z7 acc) (Z7 [y]) v none 1 (YC _) (YC _) (We _) (by simp<;>omega) (by simp [Wd,Z7]) fun v3=>Z0 (ZP ⟨v3,rfl,rfl⟩ (wk [0] (fc (x:=ZQ (acc++[y]) v3) (Ze.slh _ (Yp Z7 (by first|rfl|(rw [Zd ZC])|(rw [Z8 ZC])|(simp [ZC];done)|(rw [Xx];simp [ZC];done)|omega))) fl))))))
     exact ak (ZP ⟨v,rfl,rfl⟩ (wk [0] (fc (x:=ZQ acc v) (Ze.slh _ (Yp Z7 (by first|rfl|(rw [Zd ZC])|(rw [Z8 ZC])|(simp [ZC];done)|(rw [Xx];simp [ZC];done)|omega))) fl)))
    rintro F h ⟨w3,rfl,rfl⟩
    exact Td (ZP ⟨(if x1>y then (acc++[y]) else acc),true,w3,(if h:x1>y then (by rw [Zd h];exact .inr (.inl ⟨rfl,rfl,Zg.1,h⟩)) else (by rw [Z8 h];exact .inr (.inr ⟨rfl,rfl,Zg.1,by have:=Zg.2;omega⟩))),(by have h1:=Zl;rw [Z8 Zg.1] at h1;split<;>(simp<;>omega)),(by have h1:=Zl;rw [Z8 Zg.1] at h1;split<;>(simp<;>omega)),rfl,rfl⟩ (wk [0] fl))
   exact ak (ZP ⟨acc,d,v,(.inl ⟨rfl,rfl,by by_cases q:d=true;exact .inl q;exact .inr (fun z=>Zg ⟨q,z⟩)⟩),Zl,hil,rfl,rfl⟩ (wk [0] fl))
  rintro F h ⟨acc2,d2,w,Uf,Az,L9,rfl,rfl⟩
  exact az (Z2 3 (Zo (Zj none (k:Int) 1 (Y3 Z3)) (Z2 1 (iL (Z7 [x1]) 1 1 fun v4=>ZU 0 [(40,Z5 [x1])] (ip 1 (Z7 (acc2++[x1])) (Z7 acc2) (Z7 [x1]) w none 1 (YC _) (YC _) (We _) (by simp<;>omega) (by simp [Wd,Z7]) fun v5=>Z0 (az (Z2 1 (ZJ k (Z0 (ZK ⟨k+1,(acc2++[x1]),d2,v5,ob,(by simp only [Yt,YT,XA];omega),(Zaf Z3 Zy Uf),rfl,rfl,rfl⟩ (wk [0] (fw (ZM k fl)))))))))))))
 have hil:acc.length<=k+1:=VE Zl (by split<;>omega)
 refine ax 0 (Yi (XW (fun fz gz F h=>∃(w4:Value),F=sF [] fz [(5,ZQ (if d=true then acc else (acc++[y])) w4)]/\h=[.tail w4 1]) ?_ ?_))
 ·refine ac (!d) (p:=¬(d=true)) (YA Iff.rfl) (fun Yg=>?_) (fun Yg=>?_)
  ·exact az (Z2 2 (iL (Z7 [y]) 1 1 fun v6=>ZU 0 [(46,Z5 [y])] (ip 1 (Z7 (acc++[y])) (Z7 acc) (Z7 [y]) v none 1 (YC _) (YC _) (We _) (by simp<;>omega) (by simp [Wd,Z7]) fun v7=>Z0 (ZP ⟨v7,rfl,rfl⟩ (wk [0] (fc (x:=ZQ (acc++[y]) v7) (Ze.slh _ (Yp Z7 (by first|rfl|(rw [Zd Yg])|(rw [Z8 Yg])|(simp [Yg];done)|(rw [Xx];simp [Yg];done)|omega))) fl))))))
  exact ak (ZP ⟨v,rfl,rfl⟩ (wk [0] (fc (x:=ZQ acc v) (Ze.slh _ (Yp Z7 (by first|rfl|(rw [Zd Yg])|(rw [Z8 Yg])|(simp [Yg];done)|(rw [Xx];simp [Yg];done)|omega))) fl)))
 rintro F h ⟨w4,rfl,rfl⟩
 exact ar (Zr (r2 [0] [ZQ (if d=true then acc else (acc++[y])) w4] ⟨w4,rfl,rfl⟩ (Ze.slh _ (Yp Z7 (Zae om Zy)))))
theorem OZ (xs:LI) (y:Int) (hl:xs.length<=1000000000:=by exact ob):Zk 249 [Z5 xs,.i y] [] (fun r h=>∃(v:Value),r=ZQ (Qc xs y) v/\h=[.tail v 1]):=by
 refine ZF 28 Tryz.func249 (ZE (ar (iL (Z7 []) 0 1 fun v1=>?_)))
 refine Z0 (Yi (ab 0 (Y6 (fun fz gz m F h=>∃(k:Nat) (acc:LI) (v:Value),(k<=xs.length)/\(acc.length<=k)/\(acc++Qc (xs.drop k) y=Qc xs y)/\F=sF [0,1] fz [(5,ZQ acc v),(6,.i k)]/\h=[.tail v 1]/\m=xs.length-k) _ _ _ ⟨0,[],v1,ob,ob,rfl,rfl,rfl,rfl⟩ (wk [0] (fr (Yd fl))) ?_)))
 rintro m F h ⟨k,acc,v,Yj,Zl,Zy,rfl,rfl,rfl⟩
 refine YO 2 (iw (Yf xs) (Y5 ((k:Int)<(xs.length:Int)) (fun Za=>?_) (fun Za=>?_)))
 ·refine ak (aq (ab 1 (Ya 2 ?_)))
  obtain ⟨x1,Z3⟩:=Zs xs k om
  refine Zo (Zj none (k:Int) 1 (Y3 Z3)) (Z0 (Jv (fun fz gz F h=>∃(w:Value),F=sF [0,1,6] fz [(5,ZQ (if x1≠y then (acc++[x1]) else acc) w)]/\h=[.tail w 1]) (fun _ _=>rfl) ?_ ?_))
  ·refine ac (x1 != y) Ym (fun Zg=>?_) (fun Zg=>?_)
   ·exact az (Z2 3 (Zo (Zj none (k:Int) 1 (Y3 Z3)) (Z2 1 (iL (Z7 [x1]) 1 1 fun v2=>ZU 0 [(25,Z5 [x1])] (ip 1 (Z7 (acc++[x1])) (Z7 acc) (Z7 [x1]) v none 1 (YC _) (YC _) (We _) (by simp<;>omega) (by simp [Wd,Z7]) fun v3=>Z0 (ZP ⟨v3,rfl,rfl⟩ (wk [0] (fc (x:=ZQ (acc++[x1]) v3) (Ze.slh _ (Yp Z7 (by first|rfl|(rw [Zd Zg])|(rw [Z8 Zg])|(simp [Zg];done)|(rw [Xx];simp [Zg];done)|omega))) fl))))))))
   exact ak (ZP ⟨v,rfl,rfl⟩ (wk [0] (fc (x:=ZQ acc v) (Ze.slh _ (Yp Z7 (by first|rfl|(rw [Zd Zg])|(rw [Z8 Zg])|(simp [Zg];done)|(rw [Xx];simp [Zg];done)|omega))) fl)))
  rintro F h ⟨w,rfl,rfl⟩
  exact az (Z2 1 (ZJ k (Z0 (ZK ⟨k+1,(if x1≠y then (acc++[x1]) else acc),w,ob,(by split<;>(try simp)<;>omega),(Zd0 Z3 Zy),rfl,rfl,rfl⟩ (wk [0] (fr (ZM k fl)))))))
 exact ax 0 (ar (Zr (r2 [0] [ZQ acc v] ⟨v,rfl,rfl⟩ (Ze.slh _ (Yp Z7 (Zcz om Zy))))))
theorem Zfa (s:Z4) (q:Int) (xs:LI) (ih:∀(b2:Z6) (q:Int) (k2:Nat) (xs2:LI),(b2.sz<s.sz)->(k2<=b2.steps.length)->(xs2.length+b2.sz<=1000000000)->Zk 243 [ZZ b2,.i q,.i k2,Z5 xs2] [] (Ys (Z5 (T2 q (Tk q (b2.steps.drop k2) xs2) b2.result)))) (hz:xs.length+s.sz<=1000000000):Zk 278 [YI s,.i q,Z5 xs] [] (Ys (Z5 (JH q s xs))):=by
 have hkz:=TK s
 have haz:=QA s
 have hse:=s.sz_eq
 refine ZF 58 Tryz.func278 (ar (iA (XG s) fun b1=>Z0 (Yl 2 [0] (Zz [] (SY s.op) (ie (ac (YF s.op) Iff.rfl (fun Za=>?_) (fun Za=>?_)))))))
 ·exact ar (Zr (Y4 (Z5 xs) (Ze.sl _ (Yp Z7 (by rw [Z18,Zd (by assumption)])))))
 refine ak (Yi (ab 0 (Y6 (fun fz gz m F h=>∃(j:Nat) (ys:LI),(j<=s.args.length)/\(ys.length<=xs.length+j)/\(QR q (s.args.drop j) ys=QR q s.args xs)/\F=sF [1,3] fz [(2,Z5 ys),(7,.i j)]/\h=gz/\m=s.args.length-j) _ _ _ ⟨0,xs,ob,ob,rfl,rfl,rfl,rfl⟩ (wk [0] (fr (Yd fl))) ?_)))
 rintro m F h ⟨j,ys,Yj,Zl,Zy,rfl,rfl,rfl⟩
 refine Yl 3 [0] (iw (Yf s.args) (Y5 ((j:Int)<(s.args.length:Int)) (fun Zg=>?_) (fun Zg=>?_)))
 ·refine ak (aq (ab 1 (Zw 3 [0] ?_)))
  obtain ⟨x1,Z3⟩:=Zs s.args j om
  refine Zo (Zj none (j:Int) 1 (Y3 Z3)) (Xv [1,2,3,7] [(34,.b ((decide (x1>=0))&&(decide (x1<q))))] (fun gz=>gz) ?_ ?_)
  ·refine Z2 3 (ib (b:=(decide (x1>=0))) 26 (fun Zb=>?_) (fun Zb=>?_))
   ·exact ZO 3 [0] (Zo (Zj none (j:Int) 1 (Y3 Z3)) (Z0 (wk [0] (Zt (decide (x1<q)) Zb fl))))
   exact Z0 (wk [0] (Zt false Zb fl))
  refine Jv (fun fz gz F h=>F=sF [1,3,7] fz [(2,Z5 (T2 q ys x1))]/\h=gz) (fun _ _=>rfl) ?_ ?_
  ·refine ac ((decide (x1>=0))&&(decide (x1<q))) (p:=(x1>=0)/\(x1<q)) (YL dq dq) (fun ZC=>?_) (fun ZC=>?_)
   ·refine az (ZO 4 [0] (Zo (Zj none (j:Int) 1 (Y3 Z3)) (Z2 1 (ic [] (E3 ys x1) ?_))))
    rintro _ _ ⟨v1,rfl,rfl⟩
    exact Z0 (ZP ⟨rfl,rfl⟩ (wk [1] (fc (x:=ZQ (Us ys x1) v1) (Ze.sl _ (Yp Z7 (by rw [T2,Zd (by assumption)]))) fl)))
   exact ak (ZP ⟨rfl,rfl⟩ (wk [0] (fc (x:=Z5 ys) (Ze.sl _ (Yp Z7 (by rw [T2,Z8 (by assumption)]))) fl)))
  rintro F h ⟨rfl,rfl⟩
  exact az (Z2 1 (ZJ j (Z0 (ZK ⟨j+1,(T2 q ys x1),ob,(by have:=H9 (n:=q) ys x1;omega),(Zhh Z3 Zy),rfl,rfl,rfl⟩ (wk [0] (fr (ZM j fl)))))))
 have hA:QR q s.args xs=ys:=(Zhg om Zy).symm
 refine ax 0 (Yi (ab 2 (Y6 (fun fz gz m F h=>∃(j:Nat) (zs:LI),(j<=s.kids.length)/\(zs.length<=xs.length+s.args.length+Xc (s.kids.take j))/\(Jj q (s.kids.drop j) zs=Jj q s.kids (QR q s.args xs))/\F=sF [1,3] fz [(2,Z5 zs),(8,.i j)]/\h=gz/\m=s.kids.length-j) _ _ _ ⟨0,ys,ob,(by rw [List.take_zero,Xc];omega),(by rw [hA];rfl),rfl,rfl,rfl⟩ (wk [0] (fr (Yd fl))) ?_)))
 rintro m F h ⟨j,zs,Up,Wa,XZ,rfl,rfl,rfl⟩
 refine Yl 3 [0] (iw (Uy s.kids) (Y5 ((j:Int)<(s.kids.length:Int)) (fun Yg=>?_) (fun Yg=>?_)))
 ·refine ak (aq (ab 3 (az (ZO 3 [0] ?_))))
  obtain ⟨x2,Zx⟩:=Zs s.kids j om
  have hks:=Tx Zx
  have hbt:=Fd Zx
  have hbx:=Fc Zx
  have hul:=H8 (n:=q) x2 zs
  exact Zo (Zj none (j:Int) 2 (T9 Zx)) (Z2 3 (Zz [] (ih x2 q 0 zs ob ob ob) (Z0 (az (Z2 1 (ZJ j (Z0 (ZK ⟨j+1,(Tj q x2 zs),ob,om,(Zhj Zx XZ),rfl,rfl,rfl⟩ (wk [0] (fc (x:=Z5 (T2 q (Tk q (x2.steps.drop 0) zs) x2.result)) (Ze.sl _ (Yp Z7 (by rw [Z16];rfl))) (ZM j fl)))))))))))
 exact ax 2 (ar (Zr (Y4 (Z5 zs) (Ze.sl _ (Yp Z7 (by rw [Z18,Z8 (by assumption)];exact (Zhi om XZ)))))))
theorem Zfb (b:Z6) (q:Int) (k0:Nat) (xs:LI) (ih:∀(s2:Z4) (q:Int) (xs2:LI),(s2.sz<b.sz)->(xs2.length+s2.sz<=1000000000)->Zk 278 [YI s2,.i q,Z5 xs2] [] (Ys (Z5 (JH q s2 xs2)))) (hk:k0<=b.steps.length) (hz:xs.length+b.sz<=1000000000):Zk 243 [ZZ b,.i q,.i k0,Z5 xs] [] (Ys (Z5 (T2 q (Tk q (b.steps.drop k0) xs) b.result))):=by
 have hbz:=Uk b
 have hbe:=b.sz_eq
 have hsd:=Z0a b.steps k0
 refine ZF 40 Tryz.func243 (ar (iA (Xm b) fun b1=>?_))
 refine Z0 (Yi (ab 0 (Y6 (fun fz gz m F h=>∃(k:Nat) (ys:LI),(k<=b.steps.length)/\(ys.length+Yb (b.steps.drop k)<=xs.length+Yb (b.steps.drop k0))/\(Tk q (b.steps.drop k) ys=Tk q (b.steps.drop k0) xs)/\F=sF [1,4] fz [(3,Z5 ys),(9,.i k)]/\h=gz/\m=b.steps.length-k) _ _ _ ⟨k0,xs,ob,(X7 _),rfl,rfl,rfl,rfl⟩ (wk [0] fl) ?_)))
 rintro m F h ⟨k,ys,Yj,Zl,Zy,rfl,rfl,rfl⟩
 refine Yl 3 [0] (iw (VO b.steps) (Y5 ((k:Int)<(b.steps.length:Int)) (fun Za=>?_) (fun Za=>?_)))
 ·refine ak (aq (ab 1 (az (ZO 3 [0] ?_))))
  obtain ⟨x1,Z3⟩:=Zs b.steps k om
  have hss:=A5 Z3
  have hsd1:=Z09 Z3
  have hul:=Z19 (n:=q) x1 ys
  exact Zo (Zj none (k:Int) 5 (V2 Z3)) (Z2 3 (Zz [] (ih x1 q ys ob ob) (Z0 (az (Z2 1 (ZJ k (Z0 (ZK ⟨k+1,(JH q x1 ys),ob,ob,(Zhl Z3 Zy),rfl,rfl,rfl⟩ (wk [0] (fr (ZM k fl)))))))))))
 refine ax 0 (X9 (Xv [3,4] [(34,.b ((decide (b.result>=0))&&(decide (b.result<q))))] (fun gz=>gz) ?_ ?_))
 ·refine ZO 4 [0] (ib (b:=(decide (b.result>=0))) 29 (fun Zb=>?_) (fun Zb=>?_))
  ·exact VT [0] (wk [0] (Zt (decide (b.result<q)) Zb fl))
  exact Z0 (wk [0] (Zt false Zb fl))
 refine XW (fun fz gz F h=>F=sF [] fz [(3,Z5 (T2 q ys b.result))]/\h=[]) ?_ ?_
 ·refine ac ((decide (b.result>=0))&&(decide (b.result<q))) (p:=(b.result>=0)/\(b.result<q)) (YL dq dq) (fun Zg=>?_) (fun Zg=>?_)
  ·refine az (ZO 3 [0] (ic [] (E3 ys b.result) ?_))
   rintro _ _ ⟨v1,rfl,rfl⟩
   exact Z0 (ZP ⟨rfl,rfl⟩ (wk [] (fc (x:=ZQ (Us ys b.result) v1) (Ze.sl _ (Yp Z7 (by rw [T2,Zd (by assumption)]))) fl)))
  exact ak (ZP ⟨rfl,rfl⟩ (wk [] (fc (x:=Z5 ys) (Ze.sl _ (Yp Z7 (by rw [T2,Z8 (by assumption)]))) fl)))
 rintro F h ⟨rfl,rfl⟩
 exact ar (Zr (Y4 (Z5 (T2 q ys b.result)) (Ze.sl _ (Yp Z7 (by rw [Zhk om Zy])))))
theorem Zg1 (k:Nat):(∀(s:Z4) (q:Int) (xs:LI),(s.sz<=k)->(xs.length+s.sz<=1000000000)->Zk 278 [YI s,.i q,Z5 xs] [] (Ys (Z5 (JH q s xs))))/\(∀(b:Z6) (q:Int) (k0:Nat) (xs:LI),(b.sz<=k)->(k0<=b.steps.length)->(xs.length+b.sz<=1000000000)->Zk 243 [ZZ b,.i q,.i k0,Z5 xs] [] (Ys (Z5 (T2 q (Tk q (b.steps.drop k0) xs) b.result)))):=by
 induction k with
 | zero=>exact ⟨fun s q xs h=>by have:=s.sz_pos;omega,fun b q k0 xs h=>by have:=b.sz_pos;omega⟩
 | succ k ih=>exact ⟨fun s q xs h hz=>Zfa s q xs (fun b2 q k2 xs2 h2 hk h3=>ih.2 b2 q k2 xs2 om hk h3) hz,fun b q k0 xs h hk hz=>Zfb b q k0 xs (fun s2 q xs2 h2 h3=>ih.1 s2 q xs2 om h3) hk hz⟩
theorem SP (b:Z6) (q:Int) (k0:Nat) (xs:LI) (hk:k0<=b.steps.length:=by exact ob) (hz:xs.length+b.sz<=1000000000:=by exact ob):Zk 243 [ZZ b,.i q,.i k0,Z5 xs] [] (Ys (Z5 (T2 q (Tk q (b.steps.drop k0) xs) b.result))):=(Zg1 b.sz).2 b q k0 xs (X7 _) hk hz
theorem Z05 (b:Z6) (q:Int) (hz:b.sz<=100000000:=by exact ob):Zk 201 [ZZ b,.i q] [] (Ys (Z5 (Tj q b []))):=by
 exact ZF 9 Tryz.func201 (ar (iA (Xm b) fun b1=>Z0 (Zw 2 [0] (iL (Z7 []) 0 1 fun v1=>ZU 0 [(7,Z5 [])] (Zz [] (SP b q 0 [] (hk:=(Ku _))) (Zr (Y4 (Z5 (T2 q (Tk q (b.steps.drop 0) []) b.result)) (Ze.sl _ (Yp Z7 (by rw [Z16];rfl))))))))))
theorem Z8u (xs:LI) (ys:LI) (hz:xs.length+ys.length<=100000000:=by exact ob):Zk 244 [Z5 xs,Z5 ys] [] (fun r h=>∃(zs:LI),r=Z5 zs/\h=[]/\zs.length<=xs.length+ys.length):=by
 refine ZF 22 Tryz.func244 (ZE (Ya 1 (ic [] (UD xs) ?_)))
 rintro _ _ ⟨v1,rfl,rfl⟩
 refine Z0 (Yi (ab 0 (Y6 (fun fz gz m F h=>∃(k:Nat) (zs:LI),(k<=ys.length)/\(zs.length<=xs.length+k)/\F=sF [1] fz [(5,Z5 zs),(6,.i k)]/\h=[]/\m=ys.length-k) _ _ _ ⟨0,xs,ob,ob,rfl,rfl,rfl⟩ (wk [] (fc (x:=ZQ xs v1) (Ze.forget _ _) (Yd fl))) ?_)))
 rintro m F h ⟨k,zs,Yj,Zl,rfl,rfl,rfl⟩
 refine YO 2 (iw (Yf ys) (Y5 ((k:Int)<(ys.length:Int)) (fun Za=>?_) (fun Za=>?_)))
 ·refine ak (aq (ab 1 (az (Z2 3 ?_))))
  obtain ⟨x1,Z3⟩:=Zs ys k om
  refine Zo (Zj none (k:Int) 1 (Y3 Z3)) (Z2 1 (ic [] (E3 zs x1) ?_))
  rintro _ _ ⟨v2,rfl,rfl⟩
  exact Z0 (az (Z2 1 (ZJ k (Z0 (ZK ⟨k+1,(Us zs x1),ob,(by have:=D3 zs x1;omega),rfl,rfl,rfl⟩ (wk [] (fc (x:=ZQ (Us zs x1) v2) (Ze.forget _ _) (ZM k fl))))))))
 exact ax 0 (ar (Zr (r1 [] ⟨zs,rfl,rfl,ob⟩)))
theorem OL (xs:LI) (ys:LI) (hz:xs.length<=100000000:=by exact ob) (hy:ys.length<=100000000:=by exact ob):Zk 281 [Z5 xs,Z5 ys] [] (fun r h=>∃(zs:LI) (v:Value),r=ZQ zs v/\h=[.tail v 1]/\zs.length<=xs.length/\∀z∈zs,z∈xs):=by
 refine ZF 28 Tryz.func281 (ZE (ar (iL (Z7 []) 0 1 fun v1=>?_)))
 refine Z0 (Yi (ab 0 (Y6 (fun fz gz m F h=>∃(k:Nat) (zs:LI) (u:Value),(k<=xs.length)/\(zs.length<=k)/\(∀z∈zs,z∈xs)/\F=sF [0,1] fz [(5,ZQ zs u),(6,.i k)]/\h=[.tail u 1]/\m=xs.length-k) _ _ _ ⟨0,[],v1,ob,ob,(fun z hz=>by cases hz),rfl,rfl,rfl⟩ (wk [0] (fr (Yd fl))) ?_)))
 rintro m F h ⟨k,zs,u,Yj,Zl,Zy,rfl,rfl,rfl⟩
 refine YO 2 (iw (Yf xs) (Y5 ((k:Int)<(xs.length:Int)) (fun Za=>?_) (fun Za=>?_)))
 ·refine ak (aq (ab 1 (Ya 3 ?_)))
  obtain ⟨x1,Z3⟩:=Zs xs k om
  refine Zo (Zj none (k:Int) 1 (Y3 Z3)) (Z2 1 (Zz [] (T1 ys x1) (ie (W9 (x1∈ys) (fun Zg=>?_) (fun Zg=>?_)))))
  ·exact az (Z2 3 (Zo (Zj none (k:Int) 1 (Y3 Z3)) (Z2 1 (iL (Z7 [x1]) 1 1 fun v2=>ZU 0 [(25,Z5 [x1])] (ip 1 (Z7 (zs++[x1])) (Z7 zs) (Z7 [x1]) u none 1 (YC _) (YC _) (We _) (by simp<;>omega) (by simp [Wd,Z7]) fun v3=>Z0 (az (Z2 1 (ZJ k (Z0 (ZK ⟨k+1,(zs++[x1]),v3,ob,ob,(by first|exact Zy|exact XJ Zy (ZW Z3)),rfl,rfl,rfl⟩ (wk [0] (fr (ZM k fl)))))))))))))
  exact ak (az (Z2 1 (ZJ k (Z0 (ZK ⟨k+1,zs,u,ob,ob,(by first|exact Zy|exact XJ Zy (ZW Z3)),rfl,rfl,rfl⟩ (wk [0] (fr (ZM k fl))))))))
 exact ax 0 (ar (Zr (r1 [0] ⟨zs,u,rfl,rfl,⟨by omega,Zy⟩⟩)))
theorem II (xs:LI) (q:Int) (hz:xs.length<=100000000:=by exact ob):Zk 296 [Z5 xs,.i q] [] (fun r h=>∃(zs:LI) (v:Value),r=ZQ zs v/\h=[.tail v 1]/\zs.length<=xs.length/\∀z∈zs,z∈xs):=by
 refine ZF 28 Tryz.func296 (ZE (ar (iL (Z7 []) 0 1 fun v1=>?_)))
 refine Z0 (Yi (ab 0 (Y6 (fun fz gz m F h=>∃(k:Nat) (zs:LI) (u:Value),(k<=xs.length)/\(zs.length<=k)/\(∀z∈zs,z∈xs)/\F=sF [0,1] fz [(5,ZQ zs u),(6,.i k)]/\h=[.tail u 1]/\m=xs.length-k) _ _ _ ⟨0,[],v1,ob,ob,(fun z hz=>by cases hz),rfl,rfl,rfl⟩ (wk [0] (fr (Yd fl))) ?_)))
 rintro m F h ⟨k,zs,u,Yj,Zl,Zy,rfl,rfl,rfl⟩
 refine YO 2 (iw (Yf xs) (Y5 ((k:Int)<(xs.length:Int)) (fun Za=>?_) (fun Za=>?_)))
 ·refine ak (aq (ab 1 (Ya 2 ?_)))
  obtain ⟨x1,Z3⟩:=Zs xs k om
  refine Zo (Zj none (k:Int) 1 (Y3 Z3)) (Y5 (x1<q) (fun Zg=>?_) (fun Zg=>?_))
  ·exact az (Z2 3 (Zo (Zj none (k:Int) 1 (Y3 Z3)) (Z2 1 (iL (Z7 [x1]) 1 1 fun v2=>ZU 0 [(25,Z5 [x1])] (ip 1 (Z7 (zs++[x1])) (Z7 zs) (Z7 [x1]) u none 1 (YC _) (YC _) (We _) (by simp<;>omega) (by simp [Wd,Z7]) fun v3=>Z0 (az (Z2 1 (ZJ k (Z0 (ZK ⟨k+1,(zs++[x1]),v3,ob,ob,(by first|exact Zy|exact XJ Zy (ZW Z3)),rfl,rfl,rfl⟩ (wk [0] (fr (ZM k fl)))))))))))))
  exact ak (az (Z2 1 (ZJ k (Z0 (ZK ⟨k+1,zs,u,ob,ob,(by first|exact Zy|exact XJ Zy (ZW Z3)),rfl,rfl,rfl⟩ (wk [0] (fr (ZM k fl))))))))
 exact ax 0 (ar (Zr (r1 [0] ⟨zs,u,rfl,rfl,⟨by omega,Zy⟩⟩)))
theorem A4 (op:Int) (v:Int) :Zk 90 [.i op,.i v] [] (Ys (YI (Zu op v))):=by
 exact ZF 10 Tryz.func90 (ar (iA [.i 0,.i 0,.i 0,nl,nl] fun b1=>ie (Ya 2 (iL (Z7 [v]) 1 1 fun v1=>iL (YM []) 0 2 fun v2=>Z2 1 (ZI 2 b1 [.i op,.i 0,.i 0,ZQ [v] v1,Ty [] v2] (ie (ZD (r3 [] [.agg [.i op,.i 0,.i 0,ZQ [v] v1,Ty [] v2]] [0] [(b1,b1)] ⟨rfl,rfl⟩ (Ze.agg (.cons li (.cons li (.cons li (.cons (Ze.sl _ (Yp Z7 rfl)) (.cons (Ze.sl _ (Yp YM rfl)) .nil))))))))))))))
theorem KO (op:Int) (xs:LI) (hl:xs.length<=1000000000:=by exact ob):Zk 196 [.i op,Z5 xs] [] (fun r h=>∃(v:Value),r=X4 (xs.map (Zu op)) v/\h=[.tail v 5]):=by
 refine ZF 24 Tryz.func196 (ZE (ar (iL (Zv []) 0 5 fun v1=>?_)))
 refine Z0 (Yi (ab 0 (Y6 (fun fz gz m F h=>∃(k:Nat) (v:Value),(k<=xs.length)/\F=sF [0,1] fz [(5,X4 ((xs.take k).map (Zu op)) v),(6,.i k)]/\h=[.tail v 5]/\m=xs.length-k) _ _ _ ⟨0,v1,ob,rfl,rfl,rfl⟩ (wk [0] (fc (x:=X4 [] v1) (Ze.slh _ (Yp Zv rfl)) (Yd fl))) ?_)))
 rintro m F h ⟨k,v,Yj,rfl,rfl,rfl⟩
 refine YO 2 (iw (Yf xs) (Y5 ((k:Int)<(xs.length:Int)) (fun Za=>?_) (fun Za=>?_)))
 ·refine ak (aq (ab 1 (az (Z2 4 ?_))))
  obtain ⟨x1,Z3⟩:=Zs xs k om
  exact Zo (Zj none (k:Int) 1 (Y3 Z3)) (Z2 1 (Zz [] (A4 op x1) (iL [YI (Zu op x1)] 1 5 fun v2=>ZU 0 [(21,.sl [YI (Zu op x1)] none)] (ip 1 (Zv ((xs.take (k+1)).map (Zu op))) (Zv ((xs.take k).map (Zu op))) [YI (Zu op x1)] v none 5 (Xe _) (QI rfl) rfl (by simp<;>omega) (by rw [Vl Z3];simp [Vx]) fun v3=>Z0 (az (Z2 1 (ZJ k (Z0 (ZK ⟨k+1,v3,ob,rfl,rfl,rfl⟩ (wk [0] (fr (ZM k fl))))))))))))
 exact ax 0 (ar (Zr (r2 [0] [X4 ((xs.take k).map (Zu op)) v] ⟨v,rfl,rfl⟩ (Ze.slh _ (Yp Zv (by rw [Vt om]))))))
theorem Z87 (n:Zi) (s:Z4) (i:Nat) (mm:Nat) (hn:X6 n:=by exact ob) (hf:FS n.decls n.routines.length mm s:=by exact ob) (hi:i<s.args.length:=by exact ob):Zk 295 [Yq n,YI s,.i i] [] (fun r h=>∃(wr:Bool),r=.b wr/\h=[]):=by
 have hal:=hf.alen
 refine ZF 42 Tryz.func295 (ar (iA (YU n) fun b1=>iA (XG s) fun b2=>?_))
 refine Z0 (Yi (ab 0 (Y6 (fun fz gz m F h=>∃(k:Nat),(k<=s.args.length)/\F=sF [2,3,4] fz [(7,.i k)]/\h=gz/\m=s.args.length-k) _ _ _ ⟨0,ob,rfl,rfl,rfl⟩ (wk [0,0] (Yd fl)) ?_)))
 rintro m F h ⟨k,Yj,rfl,rfl,rfl⟩
 refine Yl 3 [0] (iw (Yf s.args) (Y5 ((k:Int)<(s.args.length:Int)) (fun Za=>?_) (fun Za=>?_)))
 ·refine ak (aq (ab 1 (aD 27 (Zm 23 27 [0,1,2,3] (db (b:=((k:Int) != (i:Int))) 18 (fun Zb=>?_) (fun Zb=>?_))))))
  ·refine ZH 20 23 [4,5,6] [0] ?_
   obtain ⟨x1,Z3⟩:=Zs s.args k om
   refine dx 7 (Zj none (k:Int) 1 (Y3 Z3)) (ZH 15 19 [8,9,10,11] [0] ?_)
   obtain ⟨x2,Zx⟩:=Zs s.args i om
   refine dx 12 (Zj none (i:Int) 1 (Y3 Zx)) (Zm 10 14 [13,14,15,16] (db (b:=(x1==x2)) 31 (fun ZB=>?_) (fun ZB=>?_)))
   ·refine Zm 6 10 [17,18,19,20] (db (b:=(decide ((k:Int)>(i:Int)))) 35 (fun YE=>?_) (fun YE=>?_))
    ·exact Zm 0 6 [21,22,23,24,25,26] (de (Wc (ar (Zr (r1 [] ⟨true,rfl,rfl⟩)))))
    refine ZH 3 6 [21,22,23] [1,0] (Z9 24 (Yo 24 [] [] [] (ED n s k (hnum:=hf.call)) (Zm 0 2 [25,26] (de (ac (WH n s.op s.num k) Iff.rfl (fun Zg=>?_) (fun Zg=>?_))))))
    ·exact ar (Zr (r1 [] ⟨true,rfl,rfl⟩))
    exact ak (az (Z2 1 (ZJ k (Z0 (ZK ⟨k+1,ob,rfl,rfl,rfl⟩ (wk [0,0] (ZM k fl)))))))
   exact Zm 0 10 [17,18,19,20,21,22,23,24,25,26] (de (Wr (ak (az (Z2 1 (ZJ k (Z0 (ZK ⟨k+1,ob,rfl,rfl,rfl⟩ (wk [0,0] (ZM k fl))))))))))
  exact Zm 0 23 [4,5,6,7,8,9,10,11,12,13,14,15,16,17,18,19,20,21,22,23,24,25,26] (de (Wr (ak (az (Z2 1 (ZJ k (Z0 (ZK ⟨k+1,ob,rfl,rfl,rfl⟩ (wk [0,0] (ZM k fl))))))))))
 exact ax 0 (ar (Zr (r1 [] ⟨false,rfl,rfl⟩)))
theorem OR (n:Zi) (s:Z4) (i:Nat) (mm:Nat) (os:LI) (ls:LI) (hn:X6 n:=by exact ob) (hf:FS n.decls n.routines.length mm s:=by exact ob) (hi:i<s.args.length:=by exact ob) (ho:os.length<=100000000:=by exact ob) (hl:ls.length<=100000000:=by exact ob):Zk 279 [Yq n,YI s,.i i,Z5 os,Z5 ls] [] (fun r h=>∃(wr:Bool),r=.b wr/\h=[]):=by
 refine ZF 34 Tryz.func279 (ar (iA (YU n) fun b1=>iA (XG s) fun b2=>Z0 (Zw 4 [0] ?_)))
 obtain ⟨x1,Z3⟩:=Zs s.args i om
 refine Zo (Zj none (i:Int) 1 (Y3 Z3)) (Z2 1 (Zz [] (T1 ls x1) (Z2 1 (ib (b:=(decide (x1∈ls))) 18 (fun Zb=>?_) (fun Zb=>?_)))))
 ·exact Zr (r1 [] ⟨true,rfl,rfl⟩)
 refine ZO 4 [0] (Zo (Zj none (i:Int) 1 (Y3 Z3)) (Z2 1 (Zz [] (T1 os x1) (Z2 3 (ib (b:=(!(decide (x1∈os)))) 28 (fun ZB=>?_) (fun ZB=>?_))))))
 ·exact Zr (r1 [] ⟨true,rfl,rfl⟩)
 refine ZO 3 [1,0] (ic [] (Z87 n s i mm) ?_)
 rintro _ _ ⟨wr1,rfl,rfl⟩
 exact Zr (r1 [] ⟨wr1,rfl,rfl⟩)
theorem Z7n (n:Zi) (us:LI) (s:Z4) (os:LI) (ls:LI) (mm:Nat) (hn:X6 n:=by exact ob) (hf:FS n.decls n.routines.length mm s:=by exact ob) (hvl:us.length=mm:=by exact ob) (hm:mm<=100000000:=by exact ob) (ho:os.length<=100000000:=by exact ob) (hl:ls.length<=100000000:=by exact ob):Zk 245 [Yq n,Z5 us,YI s,Z5 os,Z5 ls] [] (fun r h=>∃(zs:LI),r=Z5 zs/\h=[]/\zs.length<=s.args.length/\∀z∈zs,z∈s.args):=by
 have hal:=hf.alen
 refine ZF 43 Tryz.func245 (ar (iA (YU n) fun b1=>iA (XG s) fun b2=>Z0 (ar (iL (Z7 []) 0 1 fun v1=>?_))))
 refine Z0 (Yi (ab 0 (Y6 (fun fz gz m F h=>∃(k:Nat) (zs:LI) (u:Value),(k<=s.args.length)/\(zs.length<=k)/\(∀z∈zs,z∈s.args)/\F=sF [1,3,4,5,7] fz [(11,ZQ zs u),(12,.i k)]/\h=[Zc gz 1,Zc gz 2,.tail u 1]/\m=s.args.length-k) _ _ _ ⟨0,[],v1,ob,ob,(fun z hz=>by cases hz),rfl,rfl,rfl⟩ (wk [1,1,0] (fr (Yd fl))) ?_)))
 rintro m F h ⟨k,zs,u,Yj,Zl,Zy,rfl,rfl,rfl⟩
 refine Yl 3 [0] (iw (Yf s.args) (Y5 ((k:Int)<(s.args.length:Int)) (fun Za=>?_) (fun Za=>?_)))
 ·obtain ⟨a1,ha1⟩:=Zs s.args k om
  have har:=hf.args a1 (ZW ha1)
  refine ak (aq (ab 1 (Zw 4 [1,0] (Zz [] (H2 n us s k a1 (hnum:=hf.call) (ha:=ha1)) (Z2 1 (ib (b:=UI n us s.op s.num a1 k) 26 (fun Zb=>?_) (fun Zb=>?_)))))))
  ·refine ZO 5 [1,0] (ic [] (OR n s k mm os ls) ?_)
   rintro _ _ ⟨wr1,rfl,rfl⟩
   refine YH wr1 Iff.rfl (fun Zg=>?_) (fun Zg=>?_)
   ·exact az (ZO 4 [0] (Zo (Zj none (k:Int) 1 (Y3 ha1)) (Z2 1 (iL (Z7 [a1]) 1 1 fun v2=>ZU 0 [(40,Z5 [a1])] (ip 3 (Z7 (zs++[a1])) (Z7 zs) (Z7 [a1]) u none 1 (YC _) (YC _) (We _) (by simp<;>omega) (by simp [Wd,Z7]) fun v3=>Z0 (az (Z2 1 (ZJ k (Z0 (ZK ⟨k+1,(zs++[a1]),v3,ob,ob,(by first|exact Zy|exact XJ Zy (ZW ha1)),rfl,rfl,rfl⟩ (wk [2,2,0] (fr (ZM k fl)))))))))))))
   exact ak (az (Z2 1 (ZJ k (Z0 (ZK ⟨k+1,zs,u,ob,ob,(by first|exact Zy|exact XJ Zy (ZW ha1)),rfl,rfl,rfl⟩ (ZG 3 (fr (ZM k fl))))))))
  exact Z0 (Wr (ak (az (Z2 1 (ZJ k (Z0 (ZK ⟨k+1,zs,u,ob,ob,(by first|exact Zy|exact XJ Zy (ZW ha1)),rfl,rfl,rfl⟩ (ZG 3 (fr (ZM k fl))))))))))
 exact ax 0 (ar (Zr (r2 [] [ZQ zs u] ⟨zs,rfl,rfl,⟨by omega,Zy⟩⟩ (Ze.forget _ _))))
theorem Z80 (n:Zi) (us:LI) (s:Z4) (os:LI) (ls:LI) (mm:Nat) (hn:X6 n:=by exact ob) (hf:FS n.decls n.routines.length mm s:=by exact ob) (hvl:us.length=mm:=by exact ob) (hm:mm<=100000000:=by exact ob) (ho:os.length<=100000000:=by exact ob) (hl:ls.length<=100000000:=by exact ob):Zk 247 [Yq n,Z5 us,YI s,Z5 os,Z5 ls] [] (fun r h=>∃(zs:LI) (v:Value),r=ZQ zs v/\h=[.tail v 1]/\zs.length<=os.length/\∀z∈zs,z∈os):=by
 have hal:=hf.alen
 refine ZF 55 Tryz.func247 (ar (iA (YU n) fun b1=>iA (XG s) fun b2=>Z0 (Yl 4 [0] (ib (b:=(s.op==7)) 16 (fun Zb=>?_) (fun Zb=>?_)))))
 ·refine Z0 (Wc (Ya 2 (ic [] (OL os ls) ?_)))
  rintro _ _ ⟨zs1,v1,rfl,rfl,Yk⟩
  have hco:=Yk
  exact Zr (r1 [0] ⟨zs1,v1,rfl,rfl,(by first|exact hco|exact ⟨by omega,Zy⟩)⟩)
 refine VT [0] (ac (s.op==8) Zq (fun Za=>?_) (fun Za=>?_))
 ·refine Ya 2 (ic [] (OL os ls) ?_)
  rintro _ _ ⟨zs2,v2,rfl,rfl,YR⟩
  have hco:=YR
  exact Zr (r1 [0] ⟨zs2,v2,rfl,rfl,(by first|exact hco|exact ⟨by omega,Zy⟩)⟩)
 refine ak (Ya 1 (ic [] (UD os) ?_))
 rintro _ _ ⟨v3,rfl,rfl⟩
 refine Z0 (Yi (ab 0 (Y6 (fun fz gz m F h=>∃(k:Nat) (zs:LI) (u:Value),(k<=s.args.length)/\(zs.length<=os.length)/\(∀z∈zs,z∈os)/\F=sF [1,3,4,5,7] fz [(11,ZQ zs u),(12,.i k)]/\h=[Zc gz 1,Zc gz 2,.tail u 1]/\m=s.args.length-k) _ _ _ ⟨0,os,v3,ob,ob,(fun z hz=>hz),rfl,rfl,rfl⟩ (wk [1,1,0] (fr (Yd fl))) ?_)))
 rintro m F h ⟨k,zs,u,Yj,Zl,Zy,rfl,rfl,rfl⟩
 refine Yl 3 [0] (iw (Yf s.args) (Y5 ((k:Int)<(s.args.length:Int)) (fun Zg=>?_) (fun Zg=>?_)))
 ·obtain ⟨a1,ha1⟩:=Zs s.args k om
  have har:=hf.args a1 (ZW ha1)
  refine ak (aq (ab 1 (Zw 4 [1,0] (Zz [] (H2 n us s k a1 (hnum:=hf.call) (ha:=ha1)) (Z2 1 (ib (b:=UI n us s.op s.num a1 k) 38 (fun ZB=>?_) (fun ZB=>?_)))))))
  ·refine ZO 5 [1,0] (ic [] (OR n s k mm os ls) ?_)
   rintro _ _ ⟨wr1,rfl,rfl⟩
   refine YH (!wr1) (p:=¬(wr1=true)) (YA Iff.rfl) (fun ZC=>?_) (fun ZC=>?_)
   ·refine az (ZO 4 [0] (Zo (Zj none (k:Int) 1 (Y3 ha1)) (ZU 1 [(47,Z5 zs)] (ic [] (OZ zs a1) ?_))))
    rintro _ _ ⟨v4,rfl,rfl⟩
    exact Z0 (az (Z2 1 (ZJ k (Z0 (ZK ⟨k+1,(Qc zs a1),v4,ob,(by first|exact Zl|exact VE (Er _ _) Zl),(by first|exact Zy|exact (fun z hz=>Zy z (Dg hz))),rfl,rfl,rfl⟩ (wk [1,1,0] (fr (ZM k fl))))))))
   exact ak (az (Z2 1 (ZJ k (Z0 (ZK ⟨k+1,zs,u,ob,(by first|exact Zl|exact VE (Er _ _) Zl),(by first|exact Zy|exact (fun z hz=>Zy z (Dg hz))),rfl,rfl,rfl⟩ (ZG 3 (fr (ZM k fl))))))))
  exact Z0 (Wr (ak (az (Z2 1 (ZJ k (Z0 (ZK ⟨k+1,zs,u,ob,(by first|exact Zl|exact VE (Er _ _) Zl),(by first|exact Zy|exact (fun z hz=>Zy z (Dg hz))),rfl,rfl,rfl⟩ (ZG 3 (fr (ZM k fl))))))))))
 exact ax 0 (ar (Zr (r1 [2] ⟨zs,u,rfl,rfl,(by first|exact hco|exact ⟨by omega,Zy⟩)⟩)))
theorem Z81 (n:Zi) (s:Z4) (os:LI) (ls:LI) (mm:Nat) (hn:X6 n:=by exact ob) (hf:FS n.decls n.routines.length mm s:=by exact ob) (ho:os.length<=100000000:=by exact ob) (hl:ls.length<=100000000:=by exact ob):Zk 248 [Yq n,YI s,Z5 os,Z5 ls] [] (fun r h=>∃(zs:LI),r=Z5 zs/\h=[]/\zs.length<=s.args.length/\∀z∈zs,z∈s.args):=by
 have hal:=hf.alen
 refine ZF 50 Tryz.func248 (ar (iA (YU n) fun b1=>iA (XG s) fun b2=>Z0 (ar (iL (Z7 []) 0 1 fun v1=>?_))))
 refine Z0 (Yi (ab 0 (Y6 (fun fz gz m F h=>∃(k:Nat) (zs:LI) (u:Value),(k<=s.args.length)/\(zs.length<=k)/\(∀z∈zs,z∈s.args)/\F=sF [2,3,4,5] fz [(9,ZQ zs u),(10,.i k)]/\h=[Zc gz 1,Zc gz 2,.tail u 1]/\m=s.args.length-k) _ _ _ ⟨0,[],v1,ob,ob,(fun z hz=>by cases hz),rfl,rfl,rfl⟩ (wk [1,1,0] (fr (Yd fl))) ?_)))
 rintro m F h ⟨k,zs,u,Yj,Zl,Zy,rfl,rfl,rfl⟩
 refine Yl 3 [0] (iw (Yf s.args) (Y5 ((k:Int)<(s.args.length:Int)) (fun Za=>?_) (fun Za=>?_)))
 ·obtain ⟨a1,ha1⟩:=Zs s.args k om
  have har:=hf.args a1 (ZW ha1)
  refine ak (aq (ab 1 (Zw 3 [1,0] (Zz [] (ED n s k (hnum:=hf.call)) (XU 13 [2,3,4,5,9,10] [(31,.b (WH n s.op s.num k&&(decide (a1∈os))))] (fun gz=>gz) ?_ (fun hj1=>?_))))))
  ·refine Xv [2,3,4,5,9,10] [(41,.b ((WH n s.op s.num k&&(decide (a1∈os)))&&(!(decide (a1∈ls)))))] (fun gz=>gz) ?_ ?_
   ·refine Z2 1 (ib (b:=(WH n s.op s.num k&&(decide (a1∈os)))) 32 (fun Zb=>?_) (fun Zb=>?_))
    ·exact ZO 4 [0] (Zo (Zj none (k:Int) 1 (Y3 ha1)) (Z2 1 (Zz [] (T1 ls a1) (Z0 (ZG 3 (Zt (!(decide (a1∈ls))) Zb fl))))))
    exact Z0 (ZG 3 (Zt false Zb fl))
   refine ac ((WH n s.op s.num k&&(decide (a1∈os)))&&(!(decide (a1∈ls)))) (p:=((WH n s.op s.num k=true)/\(a1∈os))/\(¬(a1∈ls))) (YL (YL Iff.rfl dq) (YA dq)) (fun Zg=>?_) (fun Zg=>?_)
   ·refine az (ZO 4 [0] (Zo (Zj none (k:Int) 1 (Y3 ha1)) (ZU 1 [(42,Z5 zs)] (ic [] (E3 zs a1) ?_))))
    rintro _ _ ⟨v2,rfl,rfl⟩
    exact Z0 (az (Z2 1 (ZJ k (Z0 (ZK ⟨k+1,(Us zs a1),v2,ob,(by first|omega|(have:=D3 zs a1;omega)),(by first|exact Zy|exact (fun z hz=>(Ea.1 hz).elim (Zy z) (fun e=>e▸ZW ha1))),rfl,rfl,rfl⟩ (wk [1,1,0] (fr (ZM k fl))))))))
   exact ak (az (Z2 1 (ZJ k (Z0 (ZK ⟨k+1,zs,u,ob,(by first|omega|(have:=D3 zs a1;omega)),(by first|exact Zy|exact (fun z hz=>(Ea.1 hz).elim (Zy z) (fun e=>e▸ZW ha1))),rfl,rfl,rfl⟩ (ZG 3 (fr (ZM k fl))))))))
  refine Z2 1 (ib (b:=WH n s.op s.num k) 23 (fun ZB=>?_) (fun ZB=>?_))
  ·exact ZO 4 [0] (Zo (Zj none (k:Int) 1 (Y3 ha1)) (Z2 1 (Zz [] (T1 os a1) (Z2 1 (YB (ZG 3 (Zt (decide (a1∈os)) ZB fl)) hj1)))))
  exact Z2 8 (YB (ZG 3 (Zt false ZB fl)) hj1)
 exact ax 0 (ar (Zr (r2 [] [ZQ zs u] ⟨zs,rfl,rfl,⟨by omega,Zy⟩⟩ (Ze.forget _ _))))
theorem Do (rt:Y8) (b:Z6) (hp:rt.params.length<=4294967296:=by exact ob) (hl:rt.lent.length<=4294967296:=by exact ob):Zk 82 [Kx rt,ZZ b] [] (Ys (Kx (Y8.mk rt.params rt.lent rt.result b))):=by
 refine ZF 15 Tryz.func82 (ar (iA (KH rt) fun b1=>iA (Xm b) fun b2=>iA [nl,nl,.i 0,nl,.i 0] fun b3=>ie (aD 11 (ZH 4 11 [0,1,3,4,6,7,8] [2,2,2,1] (Z9 2 (dc 2 [] [1,2,2] [b2,b1,b1] (UD rt.params) ?_))))))
 rintro _ _ ⟨v1,rfl,rfl⟩
 refine Z9 5 (dc 5 [] [1,2] [b2,b1] (UD rt.lent) ?_)
 rintro _ _ ⟨v2,rfl,rfl⟩
 exact Zm 1 2 [9] (Z9 10 (YK 10 2 [] [] b3 [ZQ rt.params v1,ZQ rt.lent v2,.i rt.result,Wz b.steps,.i b.result] (de (ZD (r3 [] [.agg [ZQ rt.params v1,ZQ rt.lent v2,.i rt.result,Wz b.steps,.i b.result]] [0] [(b3,b3)] ⟨rfl,rfl⟩ (Ze.agg (.cons (Ze.sl _ (Yp Z7 ob)) (.cons (Ze.sl _ (Yp Z7 ob)) (.cons li (.cons (Ze.sl _ (Yp Zv ob)) (.cons li .nil)))))))))))
theorem Z7i (n:Zi) (us:LI) (fds:LI) (kd:Z6) (os:LI) (ls:LI) (mm:Nat) (bb:Nat) (hn:X6 n:=by exact ob) (hf:fB n.decls n.routines.length (mm+fds.length) kd:=by exact ob) (hop:VB V1 kd:=by exact ob) (hul:us.length=mm:=by exact ob) (hfl:fds.length<=3:=by exact ob) (hm:mm+3+4*kd.sz<=100000:=by exact ob) (hor:∀v∈os,0<=v/\v<(mm:Int)) (hol:os.length+3+4*kd.sz<=730:=by exact ob) (hal:ls.length+2000*kd.sz<=1000000:=by exact ob) (hbz:kd.sz<=500:=by exact ob) (hb:kd.sz<bb:=by exact ob) (ih:∀(us2:LI) (b2:Z6) (os2:LI) (as2:LI) (m2:Nat),(fB n.decls n.routines.length m2 b2)->(VB V1 b2)->(us2.length=m2)->(m2+4*b2.sz<=100000)->(∀v∈os2,0<=v/\v<(m2:Int))->(os2.length+4*b2.sz<=730)->(as2.length+2000*b2.sz<=1000000)->(b2.sz<=500)->(b2.sz<bb)->Zk 202 [Yq n,Z5 us2,ZZ b2,Z5 os2,Z5 as2] [] (fun r h=>∃(y:Z6),r=ZZ y/\h=[]/\KB n.decls n.routines.length m2 y (4500*b2.sz))):Zk 280 [Yq n,Z5 us,Z5 fds,ZZ kd,Z5 os,Z5 ls] [] (fun r h=>∃(y:Z6),r=ZZ y/\h=[]/\KB n.decls n.routines.length (mm+fds.length) y (4500*kd.sz+1470)):=by
 refine ZF 115 Tryz.func280 (ar (iA (YU n) fun b1=>iA (Xm kd) fun b2=>iA [nl,.i 0] fun b3=>ie (Ya 1 (iw (Yf us) (Z0 (Ya 2 (ic [] (Kn us fds) ?_)))))))
 rintro _ _ ⟨v1,rfl,rfl⟩
 refine Z0 (Zw 2 [2] (io (.i (((us++fds).length:Nat):Int)) (.i (((Z7 (us++fds)).length:Nat):Int)) (li (by rw [Yf])) (Zz [] (Z05 kd (((us++fds).length:Nat):Int)) ?_)))
 have hub:=H8 (n:=(((us++fds).length:Nat):Int)) kd []
 simp only [XA,Vu] at hub
 refine Z0 (ar (iL (Z7 []) 0 1 fun v2=>Z0 (ar (iL (Z7 []) 0 1 fun v3=>?_))))
 refine Z0 (Yi (ab 0 (Y6 (fun fz gz m F h=>∃(k:Nat) (ms:LI) (u:Value) (dr:LI) (w:Value),(k<=os.length)/\(ms.length<=k)/\(dr.length<=k)/\(∀v∈ms,0<=v/\v<(mm:Int))/\(∀v∈dr,0<=v/\v<(mm:Int))/\F=sF [2,4,5,6,9,12,13,15] fz [(14,Z5 (us++fds)),(16,ZQ ms u),(17,ZQ dr w),(18,.i k)]/\h=[Zc gz 3,Zc gz 4,Zc gz 5,.tail u 1,.tail w 1]/\m=os.length-k) _ _ _ ⟨0,[],v2,[],v3,ob,ob,ob,(fun v hv=>by cases hv),(fun v hv=>by cases hv),rfl,rfl,rfl⟩ (wk [3,3,3,1,0] (fc (x:=ZQ (us++fds) v1) (Ze.forget _ _) (fw (Yd fl)))) ?_)))
 rintro m F h ⟨k,ms,u,dr,w,Yj,Zl,Zy,Yv,XY,rfl,rfl,rfl⟩
 refine YO 2 (iw (Yf os) (Y5 ((k:Int)<(os.length:Int)) (fun Za=>?_) (fun Za=>?_)))
 ·obtain ⟨o1,ho1⟩:=Zs os k om
  have hor1:=hor o1 (ZW ho1)
  refine ak (aq (ab 1 (Ya 3 (Zo (Zj none (k:Int) 1 (Y3 ho1)) (Z2 1 (Zz [] (T1 (Tj (((us++fds).length:Nat):Int) kd []) o1) (Xv [2,4,5,6,9,12,13,14,15,16,17,18] [(53,.b ((decide (o1∈(Tj (((us++fds).length:Nat):Int) kd [])))||(decide (o1∈ls))))] (fun gz=>gz) ?_ ?_)))))))
  ·refine Z2 1 (ib (b:=(decide (o1∈(Tj (((us++fds).length:Nat):Int) kd [])))) 46 (fun Zb=>?_) (fun Zb=>?_))
   ·exact Z0 (ZG 5 (Zt true Zb fl))
   exact Z2 3 (Zo (Zj none (k:Int) 1 (Y3 ho1)) (Z2 1 (Zz [] (T1 ls o1) (Z0 (ZG 5 (Zt (decide (o1∈ls)) Zb fl))))))
  refine ac ((decide (o1∈(Tj (((us++fds).length:Nat):Int) kd [])))||(decide (o1∈ls))) (p:=(o1∈(Tj (((us++fds).length:Nat):Int) kd []))∨(o1∈ls)) (Yr dq dq) (fun Zg=>?_) (fun Zg=>?_)
  ·exact az (Z2 3 (Zo (Zj none (k:Int) 1 (Y3 ho1)) (Z2 1 (iL (Z7 [o1]) 1 1 fun v4=>ZU 0 [(59,Z5 [o1])] (ip 4 (Z7 (ms++[o1])) (Z7 ms) (Z7 [o1]) u none 1 (YC _) (YC _) (We _) (by simp<;>omega) (by simp [Wd,Z7]) fun v5=>Z0 (az (Z2 1 (ZJ k (Z0 (ZK ⟨k+1,(ms++[o1]),v5,dr,w,ob,ob,ob,(by first|exact Yv|exact XJ Yv hor1),(by first|exact XY|exact XJ XY hor1),rfl,rfl,rfl⟩ (wk [2,2,2,0,1] (fw (fr (ZM k fl))))))))))))))
  exact az (Z2 3 (Zo (Zj none (k:Int) 1 (Y3 ho1)) (Z2 1 (iL (Z7 [o1]) 1 1 fun v6=>ZU 0 [(66,Z5 [o1])] (ip 5 (Z7 (dr++[o1])) (Z7 dr) (Z7 [o1]) w none 1 (YC _) (YC _) (We _) (by simp<;>omega) (by simp [Wd,Z7]) fun v7=>Z0 (az (Z2 1 (ZJ k (Z0 (ZK ⟨k+1,ms,u,(dr++[o1]),v7,ob,ob,ob,(by first|exact Yv|exact XJ Yv hor1),(by first|exact XY|exact XJ XY hor1),rfl,rfl,rfl⟩ (wk [2,2,2,2,0] (fw (fr (ZM k fl))))))))))))))
 refine ax 0 (ar (iL (Z7 []) 0 1 fun v8=>?_))
 refine Z0 (Yi (ab 2 (Y6 (fun fz gz m F h=>∃(k:Nat) (ps:LI) (w2:Value),(k<=fds.length)/\(ps.length<=k)/\(∀v∈ps,(mm:Int)<=v/\v<((mm+fds.length:Nat):Int))/\F=sF [2,5,6,9,12,13,14,15,16,17] fz [(19,ZQ ps w2),(20,.i k)]/\h=[Zc gz 1,Zc gz 2,Zc gz 3,Zc gz 4,Zc gz 5,.tail w2 1]/\m=fds.length-k) _ _ _ ⟨0,[],v8,ob,ob,(fun v hv=>by cases hv),rfl,rfl,rfl⟩ (wk [1,1,1,1,1,0] (fr (Yd fl))) ?_)))
 rintro m F h ⟨k,ps,w2,Up,Wa,XZ,rfl,rfl,rfl⟩
 refine YO 2 (iw (Yf fds) (Y5 ((k:Int)<(fds.length:Int)) (fun ZC=>?_) (fun ZC=>?_)))
 ·refine ak (aq (ab 3 (Ya 2 ?_)))
  obtain ⟨x1,Z3⟩:=Zs fds k om
  refine Zo (Zj none (k:Int) 1 (Y3 Z3)) (Xv [2,5,6,9,12,13,14,15,16,17,19,20] [(86,.b ((x1 != 0)&&(decide (((us.length+k:Nat):Int)∈(Tj (((us++fds).length:Nat):Int) kd [])))))] (fun gz=>gz) ?_ ?_)
  ·refine Z2 3 (ib (b:=(x1 != 0)) 80 (fun ZB=>?_) (fun ZB=>?_))
   ·exact Z2 3 (ia (((us.length+k:Nat):Int)) (((us.length:Int))+((k:Int))) (Zz [] (T1 (Tj (((us++fds).length:Nat):Int) kd []) ((us.length+k:Nat):Int)) (Z0 (ZG 6 (Zt (decide (((us.length+k:Nat):Int)∈(Tj (((us++fds).length:Nat):Int) kd []))) ZB fl)))))
   exact Z0 (ZG 6 (Zt false ZB fl))
  refine ac ((x1 != 0)&&(decide (((us.length+k:Nat):Int)∈(Tj (((us++fds).length:Nat):Int) kd [])))) (p:=(x1≠0)/\(((us.length+k:Nat):Int)∈(Tj (((us++fds).length:Nat):Int) kd []))) (YL Ym dq) (fun Yg=>?_) (fun Yg=>?_)
  ·exact az (Z2 3 (ia (((us.length+k:Nat):Int)) (((us.length:Int))+((k:Int))) (iL (Z7 [((us.length+k:Nat):Int)]) 1 1 fun v9=>ZU 0 [(91,Z5 [((us.length+k:Nat):Int)])] (ip 6 (Z7 (ps++[((us.length+k:Nat):Int)])) (Z7 ps) (Z7 [((us.length+k:Nat):Int)]) w2 none 1 (YC _) (YC _) (We _) (by simp<;>omega) (by simp [Wd,Z7]) fun v10=>Z0 (az (Z2 1 (ZJ k (Z0 (ZK ⟨k+1,(ps++[((us.length+k:Nat):Int)]),v10,ob,ob,(by first|exact XZ|exact XJ XZ om),rfl,rfl,rfl⟩ (wk [2,2,2,2,2,0] (fr (ZM k fl))))))))))))
  exact ak (az (Z2 1 (ZJ k (Z0 (ZK ⟨k+1,ps,w2,ob,ob,(by first|exact XZ|exact XJ XZ om),rfl,rfl,rfl⟩ (ZG 6 (fr (ZM k fl))))))))
 refine ax 2 (ar (ZU 1 [(93,Z5 ps)] (ic [] (KO 14 ps) ?_)))
 rintro _ _ ⟨v11,rfl,rfl⟩
 refine ZU 1 [(95,Z5 dr)] (ic [] (KO 15 dr) ?_)
 rintro _ _ ⟨v12,rfl,rfl⟩
 refine ZU 0 [(96,Wz (dr.map (Zu 15)))] (ip 1 (Zv ((ps.map (Zu 14))++(dr.map (Zu 15)))) (Zv (ps.map (Zu 14))) (Zv (dr.map (Zu 15))) v11 none 5 (Xe _) (Xe _) (VP _) (by simp<;>omega) (by simp [WW,Zv]) fun v13=>?_)
 refine Z0 (aD 12 (ZH 5 12 [0,1,2,3,4,6,7] [4,3] (J2 (fun fz gz F h=>∃(y1:Z6) (b4:Nat) (zs1:LI),(zs1.length<=ls.length/\∀z∈zs1,z∈ls)/\(KB n.decls n.routines.length (mm+fds.length) y1 (4500*kd.sz))/\F=sF [12,21] fz [(22,.p b4 0)]/\h=[.obj b4 (Xm y1),Zc gz 0,Zc gz 1,Zc gz 2,Zc gz 3,Zc gz 4,Zc gz 6,Zc gz 7]) ?_ ?_)))
 ·refine VN 5 10 ?_ ?_
  ·refine dp 5 5 [1,2] [b2,b1] (Z7 (ms++ps)) (Z7 ms) (Z7 ps) u (some w2) 1 (YC _) (YC _) (We _) (by simp<;>omega) (by simp [Wd,Z7]) fun v14=>VN 8 10 ?_ ?_
   ·refine dc 8 [] [1,2] [b2,b1] (II ls (us.length:Int)) ?_
    rintro _ _ ⟨zs1,v15,rfl,rfl,Xl⟩
    have hbl:=Xl
    refine Yw 3 3 [] [(103,Z5 (ms++ps)),(106,Z5 zs1)] (VN 9 10 ?_ ?_)
    ·refine dc 9 [] [] [] (ih (us++fds) kd (ms++ps) zs1 (mm+fds.length) hf hop (by rw [Yt,hul]) ob (fun v hv=>by rcases Xd.1 hv with h|h;exact (by have:=Yv v h;omega);exact (by have:=XZ v h;omega)) (by rw [Yt];omega) ob ob ob) ?_
     rintro _ _ ⟨y1,rfl,rfl,W2⟩
     have hkb:=W2
     have hkl:=hkb.len
     exact Z9 10 (dA 10 [] [] [nl,.i 0] fun b4=>Z9 11 (YK 11 0 [] [] b4 (Xm y1) (de (ZP ⟨_,b4,_,(by assumption),(by assumption),rfl,rfl⟩ (wk [0,2,2,2,2,2,2,2] fl)))))
    refine dA 10 [1,2] [b2,b1] [nl,.i 0] fun b5=>Z9 9 (dc 9 [] [] [] (ih (us++fds) kd (ms++ps) zs1 (mm+fds.length) hf hop (by rw [Yt,hul]) ob (fun v hv=>by rcases Xd.1 hv with h|h;exact (by have:=Yv v h;omega);exact (by have:=XZ v h;omega)) (by rw [Yt];omega) ob ob ob) ?_)
    rintro _ _ ⟨y2,rfl,rfl,WG⟩
    have hkb:=WG
    have hkl:=hkb.len
    exact Z9 11 (YK 11 0 [] [] b5 (Xm y2) (de (ZP ⟨_,b5,_,(by assumption),(by assumption),rfl,rfl⟩ (wk [0,2,2,2,2,2,2,2] fl))))
   refine dA 10 [1,2] [b2,b1] [nl,.i 0] fun b6=>Z9 8 (dc 8 [] [2,3] [b2,b1] (II ls (us.length:Int)) ?_)
   rintro _ _ ⟨zs2,v16,rfl,rfl,V3⟩
   have hbl:=V3
   refine Yw 2 2 [] [(103,Z5 (ms++ps)),(106,Z5 zs2)] (Z9 9 (dc 9 [] [] [] (ih (us++fds) kd (ms++ps) zs2 (mm+fds.length) hf hop (by rw [Yt,hul]) ob (fun v hv=>by rcases Xd.1 hv with h|h;exact (by have:=Yv v h;omega);exact (by have:=XZ v h;omega)) (by rw [Yt];omega) ob ob ob) ?_))
   rintro _ _ ⟨y3,rfl,rfl,Vr⟩
   have hkb:=Vr
   have hkl:=hkb.len
   exact Z9 11 (YK 11 1 [] [] b6 (Xm y3) (de (ZP ⟨_,b6,_,(by assumption),(by assumption),rfl,rfl⟩ (wk [0,2,2,2,2,2,2,2] fl))))
  refine dA 10 [1,2] [b2,b1] [nl,.i 0] fun b7=>Yw 4 4 [] [(102,Z5 ps)] (Z9 5 (dp 5 6 [2,3] [b2,b1] (Z7 (ms++ps)) (Z7 ms) (Z7 ps) u none 1 (YC _) (YC _) (We _) (by simp<;>omega) (by simp [Wd,Z7]) fun v17=>Z9 8 (dc 8 [] [2,3] [b2,b1] (II ls (us.length:Int)) ?_)))
  rintro _ _ ⟨zs3,v18,rfl,rfl,UK⟩
  have hbl:=UK
  refine Yw 2 2 [] [(103,Z5 (ms++ps)),(106,Z5 zs3)] (Z9 9 (dc 9 [] [] [] (ih (us++fds) kd (ms++ps) zs3 (mm+fds.length) hf hop (by rw [Yt,hul]) ob (fun v hv=>by rcases Xd.1 hv with h|h;exact (by have:=Yv v h;omega);exact (by have:=XZ v h;omega)) (by rw [Yt];omega) ob ob ob) ?_))
  rintro _ _ ⟨y4,rfl,rfl,Te⟩
  have hkb:=Te
  have hkl:=hkb.len
  exact Z9 11 (YK 11 2 [] [] b7 (Xm y4) (de (ZP ⟨_,b7,_,(by assumption),(by assumption),rfl,rfl⟩ (wk [0,2,2,2,2,2,2,2] fl))))
 rintro F h ⟨y1,b4,zs1,Xl,W2,rfl,rfl⟩
 have hbl:=Xl
 have hkb:=W2
 have hkl:=hkb.len
 exact aD 8 (ZH 3 8 [0,1,2,4,5] [0,0] (Z9 3 (dp 3 1 [0] [b4] (Zv (((ps.map (Zu 14))++(dr.map (Zu 15)))++y1.steps)) (Zv ((ps.map (Zu 14))++(dr.map (Zu 15)))) (Zv y1.steps) v13 none 5 (Xe _) (Xe _) (VP _) (by simp<;>omega) (by simp [WW,Zv]) fun v19=>Zm 1 2 [6] (Z9 7 (YK 7 3 [] [] b3 [X4 (((ps.map (Zu 14))++(dr.map (Zu 15)))++y1.steps) v19,.i y1.result] (de (ZD (r3 [] [.agg [X4 (((ps.map (Zu 14))++(dr.map (Zu 15)))++y1.steps) v19,.i y1.result]] [0] [(b3,b3)] ⟨(Z6.mk (((ps.map (Zu 14))++(dr.map (Zu 15)))++y1.steps) y1.result),rfl,rfl,((hkb.put (fun v hv=>by have:=XZ v hv;omega) (fun v hv=>by have:=XY v hv;omega)).le om)⟩ (Ze.agg (.cons (Ze.forget _ _) (.cons (lr _) .nil)))))))))))
theorem Z7j (n:Zi) (us:LI) (s:Z4) (os:LI) (ls:LI) (mm:Nat) (bb:Nat) (hn:X6 n:=by exact ob) (hf:FS n.decls n.routines.length mm s:=by exact ob) (h11:s.op<=11:=by exact ob) (hop:Kh V1 s.kids:=by exact ob) (hul:us.length=mm:=by exact ob) (hm:mm+4*s.sz<=100000:=by exact ob) (hor:∀v∈os,0<=v/\v<(mm:Int)) (hol:os.length+4*s.sz<=730:=by exact ob) (hal:ls.length+2000*s.sz<=1000000:=by exact ob) (hbz:s.sz<=500:=by exact ob) (hb:s.sz<=bb:=by exact ob) (ih:∀(us2:LI) (b2:Z6) (os2:LI) (as2:LI) (m2:Nat),(fB n.decls n.routines.length m2 b2)->(VB V1 b2)->(us2.length=m2)->(m2+4*b2.sz<=100000)->(∀v∈os2,0<=v/\v<(m2:Int))->(os2.length+4*b2.sz<=730)->(as2.length+2000*b2.sz<=1000000)->(b2.sz<=500)->(b2.sz<bb)->Zk 202 [Yq n,Z5 us2,ZZ b2,Z5 os2,Z5 as2] [] (fun r h=>∃(y:Z6),r=ZZ y/\h=[]/\KB n.decls n.routines.length m2 y (4500*b2.sz))):Zk 246 [Yq n,Z5 us,YI s,Z5 os,Z5 ls] [] (fun r h=>∃(y:Z4),r=YI y/\h=[]/\KT n.decls n.routines.length mm y (4500*Xc s.kids+4420)):=by
 have XB:=hn.decls
 have hkf:=hf.few XB
 have hsa:=hf.alen
 refine ZF 62 Tryz.func246 (ar (iA (YU n) fun b1=>iA (XG s) fun b2=>iA [.i 0,.i 0,.i 0,nl,nl] fun b3=>ie (ar (iL (YM []) 0 2 fun v1=>Z0 (Zw 4 [3,2] (ic [] (A3 n.decls s.num) ?_))))))
 rintro _ _ ⟨v2,rfl,rfl⟩
 refine Z0 (Yi (ab 0 (Y6 (fun fz gz m F h=>∃(k:Nat) (ks:List Z6) (u:Value),(k<=s.kids.length)/\(ks.length=k)/\(KK n.decls n.routines.length (T0 n.decls s.op s.num mm) ks (4500*Xc (s.kids.take k)+1470*k))/\F=sF [1,3,4,5,7,10] fz [(11,Ty ks u),(12,Z5 (ZY n.decls s.num)),(13,.i k)]/\h=[Zc gz 2,Zc gz 3,Zc gz 4,.tail u 2]/\m=s.kids.length-k) _ _ _ ⟨0,[],v1,ob,ob,(KK.nil.le (Ku _)),rfl,rfl,rfl⟩ (wk [2,2,2,1] (fr (fc (x:=ZQ (ZY n.decls s.num) v2) (Ze.forget _ _) (Yd fl)))) ?_)))
 rintro m F h ⟨k,ks,u,Yj,Zl,Zy,rfl,rfl,rfl⟩
 refine Yl 3 [1] (iw (Uy s.kids) (Y5 ((k:Int)<(s.kids.length:Int)) (fun Za=>?_) (fun Za=>?_)))
 ·refine ak (aq (ab 1 (ar (iL (Z7 []) 0 1 fun v3=>?_))))
  refine Z0 (X9 (VT [2] (XW (fun fz gz F h=>∃(fds:LI),(T0 n.decls s.op s.num mm k=mm+fds.length)/\(fds.length<=3)/\F=sF [1,3,4,5,7,10,11,12,13] fz [(14,Z5 fds)]/\h=[Zc gz 1,Zc gz 2,Zc gz 3,Zc gz 4]) ?_ ?_)))
  ·refine ac (s.op==8) Zq (fun Zg=>?_) (fun Zg=>?_)
   ·refine aE 8 (ZH 4 8 [0,1,2,3] [3] ?_)
    obtain ⟨x1,Z3⟩:=Zs (ZY n.decls s.num) k (by have:=hf.k8 (by assumption);omega)
    have hcf:=Ud XB x1
    exact dx 4 (Zj none (k:Int) 1 (Y3 Z3)) (Zm 2 3 [5] (Z9 6 (Yo 6 [] [] [] (KN n.decls x1) (Zm 0 1 [7] (de (ZP ⟨ZV n.decls x1,(M9 (by assumption) Z3),ob,rfl,rfl⟩ (wk [1,1,1,1] fl)))))))
   exact ak (ZP ⟨[],(by rw [Ma (by assumption)];rfl),ob,rfl,rfl⟩ (wk [1,1,1,1] fl))
  rintro F h ⟨fds,Uf,Az,rfl,rfl⟩
  refine aE 15 (ZH 8 15 [0,1,2,3,4,5,6] [2,1] ?_)
  obtain ⟨x2,Zx⟩:=Zs s.kids k om
  have hkz:=Tx Zx
  have hfk:=DY hf.kids Zx
  rw [Vu,Uf] at hfk
  have hok:=Df.1 hop x2 (ZW Zx)
  have hbt:=Fc Zx
  have hba:=Fd Zx
  refine dx 7 (Zj none (k:Int) 2 (T9 Zx)) (Zm 4 7 [8,9,10] (Z9 11 (dc 11 [] [] [] (Z7i n us fds x2 os ls mm bb (hf:=hfk) (hop:=hok) (hor:=hor) (ih:=ih)) ?_)))
  rintro _ _ ⟨y1,rfl,rfl,ZX⟩
  have hkb:=ZX
  exact Z9 12 (WK 12 [] [] [ZZ y1] (YM [y1]) (Tp [y1]).symm 1 2 fun v4=>Yw 2 2 [] [(51,Wb [y1])] (Z9 13 (dp 13 4 [] [] (YM (ks++[y1])) (YM ks) (YM [y1]) u none 2 (Q4 _) (Q4 _) (Ft _) (by simp<;>omega) (by simp [An,YM]) fun v5=>Zm 0 1 [14] (de (az (Z2 1 (ZJ k (Z0 (ZK ⟨k+1,(ks++[y1]),v5,ob,ob,((Zy.snoc Zl (by rw [Uf];exact hkb)).le om),rfl,rfl,rfl⟩ (wk [2,2,2,0] (fw (ZM k fl))))))))))))
 refine ax 0 (aD 10 (ZH 3 10 [0,1,2,3,4,5,7] [1,1,1] (Z9 6 (dc 6 [] [1,1] [b2,b2] (UD s.args) ?_))))
 rintro _ _ ⟨v6,rfl,rfl⟩
 exact Zm 1 2 [8] (Z9 9 (YK 9 1 [] [] b3 [.i s.op,.i s.num,.i 0,ZQ s.args v6,Ty ks u] (de (ZD (r3 [] [.agg [.i s.op,.i s.num,.i 0,ZQ s.args v6,Ty ks u]] [0] [(b3,b3)] ⟨(Z4.mk s.op s.num 0 s.args ks),rfl,rfl,((KT.of (into:=0) hf h11 om om Zy).le (by have:=HO (xs:=s.kids) (k:=k) om;omega))⟩ (Ze.agg (.cons (lr _) (.cons (lr _) (.cons (lr _) (.cons (Ze.forget _ _) (.cons (Ze.forget _ _) .nil)))))))))))
theorem Z7g (n:Zi) (us:LI) (b:Z6) (os:LI) (ls:LI) (mm:Nat) (hn:X6 n) (hf:fB n.decls n.routines.length mm b) (hop:VB V1 b) (hul:us.length=mm) (hm:mm+4*b.sz<=100000) (hor:∀v∈os,0<=v/\v<(mm:Int)) (hol:os.length+4*b.sz<=730) (hal:ls.length+2000*b.sz<=1000000) (hbz:b.sz<=500) (ih:∀(us2:LI) (b2:Z6) (os2:LI) (as2:LI) (m2:Nat),(fB n.decls n.routines.length m2 b2)->(VB V1 b2)->(us2.length=m2)->(m2+4*b2.sz<=100000)->(∀v∈os2,0<=v/\v<(m2:Int))->(os2.length+4*b2.sz<=730)->(as2.length+2000*b2.sz<=1000000)->(b2.sz<=500)->(b2.sz<b.sz)->Zk 202 [Yq n,Z5 us2,ZZ b2,Z5 os2,Z5 as2] [] (fun r h=>∃(y:Z6),r=ZZ y/\h=[]/\KB n.decls n.routines.length m2 y (4500*b2.sz))):Zk 202 [Yq n,Z5 us,ZZ b,Z5 os,Z5 ls] [] (fun r h=>∃(y:Z6),r=ZZ y/\h=[]/\KB n.decls n.routines.length mm y (4500*b.sz)):=by
 have XB:=hn.decls
 have hbe:=b.sz_eq
 have ZL:=Uk b
 obtain ⟨hfs,hr1,hr2⟩:=(DX b).1 hf
 have hos:=Ce.1 ((Gu b).1 hop)
 have hdn:=I7 hos
 have hdl:=hdn b.steps.length (X7 _)
 rw [V6] at hdl
 refine ZF 149 Tryz.func202 (ar (iA (YU n) fun b1=>iA (Xm b) fun b2=>iA [nl,.i 0] fun b3=>ie (ar (iL (Zv []) 0 5 fun v1=>Z0 (Ya 1 (ic [] (UD us) ?_))))))
 rintro _ _ ⟨v2,rfl,rfl⟩
 refine Z0 (Ya 1 (ic [] (UD os) ?_))
 rintro _ _ ⟨v3,rfl,rfl⟩
 refine Z0 (Yi (ab 0 (Y6 (fun fz gz m F h=>∃(k:Nat) (vs:LI) (w:Value) (ms:LI) (u:Value) (xs:List Z4) (v:Value),(k<=b.steps.length)/\(vs.length=mm+k)/\(CL n.decls n.routines.length mm xs k (4500*Yb (b.steps.take k)))/\(ms.length<=os.length+k)/\(∀v∈ms,0<=v/\v<((mm+k:Nat):Int))/\F=sF [4,5,7,10] fz [(11,X4 xs v),(12,ZQ vs w),(13,ZQ ms u),(14,.i k)]/\h=[Zc gz 3,Zc gz 4,Zc gz 5,.tail u 1,.tail v 5,.tail w 1]/\m=b.steps.length-k) _ _ _ ⟨0,us,v2,os,v3,[],v1,ob,ob,CL.nil,ob,hor,rfl,rfl,rfl⟩ (wk [3,3,3,0,1,0] (fw (fr (Yd fl)))) ?_)))
 rintro m F h ⟨k,vs,w,ms,u,xs,v,Yj,Zl,Zy,Yv,XY,rfl,rfl,rfl⟩
 refine Yl 3 [1] (iw (VO b.steps) (Y5 ((k:Int)<(b.steps.length:Int)) (fun Za=>?_) (fun Za=>?_)))
 ·refine ak (aq (ab 1 (Zw 3 [1] ?_)))
  obtain ⟨x1,Z3⟩:=Zs b.steps k om
  have Xr:=Ck Z3
  have hfS:=(FD x1).1 (DZ hfs Z3)
  rw [hdn k om] at hfS
  have hoS:=(Eo x1).1 (hos x1 (ZW Z3))
  have htk:=Mr Z3
  have hse:=(x1).sz_eq
  have hal4:=hfS.alen
  have hxl:=Zy.len
  have htl:=QO b.steps (k+1)
  have hsd:=Z0a b.steps (k+1)
  have hul2:=MC (n:=((vs.length+1:Nat):Int)) (b.steps.drop (k+1)) []
  have hul3:=H9 (n:=((vs.length+1:Nat):Int)) (Tk ((vs.length+1:Nat):Int) (b.steps.drop (k+1)) []) b.result
  simp only [XA,Vu] at hul2
  refine Zo (Zj none (k:Int) 5 (V2 Z3)) (Z2 1 (iA [.i 0,.i 0,.i 0,nl,nl] fun b4=>ZI 0 b4 (XG x1) (ie (Ya 1 (iw (Yf vs) (Z0 (ar (QL 3 [(41,Z5 vs)] [3,0] (Zz [] (Mn n vs x1 ob ob) (Z0 (Zw 2 [2] (ia (((vs.length+1:Nat):Int)) (((vs.length:Int))+(1)) (Z2 1 (ZJ k (iL (Z7 []) 0 1 fun v4=>ZU 0 [(49,Z5 [])] (Zz [] (SP b ((vs.length+1:Nat):Int) (k+1) [] (hk:=om) (hz:=(by simp only [XA];omega))) (Z2 1 (ic [] (Z8u (T2 ((vs.length+1:Nat):Int) (Tk ((vs.length+1:Nat):Int) (b.steps.drop (k+1)) []) b.result) ls) ?_))))))))))))))))))
  rintro _ _ ⟨zs1,rfl,rfl,ZX⟩
  have hun:=ZX
  refine Z0 (ar (QL 6 [(55,Z5 vs),(57,Z5 ms)] [4,1] (ic [] (Z7n n vs x1 ms zs1 (mm+k) (hf:=hfS)) ?_)))
  rintro _ _ ⟨zs2,rfl,rfl,Yk⟩
  have hdu:=Yk
  have hq1:=Zy.cnts (op:=14) (.inl rfl) (vs:=zs2) (fun v hv=>hfS.args v (hdu.2 v hv))
  have hl1:=hq1.len
  refine ic [] (KO 14 zs2) ?_
  rintro _ _ ⟨v5,rfl,rfl⟩
  refine ZU 0 [(60,Wz (zs2.map (Zu 14)))] (ip 7 (Zv (xs++(zs2.map (Zu 14)))) (Zv xs) (Zv (zs2.map (Zu 14))) v none 5 (Xe _) (Xe _) (VP _) (by simp<;>omega) (by simp [WW,Zv]) fun v6=>Z0 (ar (QL 6 [(64,Z5 vs),(66,Z5 ms)] [6,3] (ic [] (Z7j n vs x1 ms zs1 (mm+k) b.sz (hf:=hfS) (h11:=hoS.1) (hop:=hoS.2) (hor:=XY) (ih:=ih)) ?_))))
  rintro _ _ ⟨y1,rfl,rfl,YG⟩
  have hkt:=YG
  have hq2:=hq1.kt hkt
  have hl2:=hq2.len
  refine UX [YI y1] (Zv [y1]) (Vx [y1]).symm 1 5 fun v7=>ZU 0 [(69,Wz [y1])] (ip 1 (Zv ((xs++(zs2.map (Zu 14)))++[y1])) (Zv (xs++(zs2.map (Zu 14)))) (Zv [y1]) v6 none 5 (Xe _) (Xe _) (VP _) (by simp<;>omega) (by simp [WW,Zv]) fun v8=>Z0 (ar (QL 5 [(72,Z5 vs),(74,Z5 ms)] [7,4] (ic [] (Z80 n vs x1 ms zs1 (mm+k) (hf:=hfS)) ?_))))
  rintro _ _ ⟨zs3,v9,rfl,rfl,YR⟩
  have hla:=YR
  refine Z0 (ar (QL 4 [(79,Z5 zs3)] [8,5] (ic [] (Z81 n x1 zs3 zs1 (mm+k) (hf:=hfS)) ?_)))
  rintro _ _ ⟨zs4,rfl,rfl,Xl⟩
  have hld:=Xl
  have hq3:=hq2.cnts (op:=15) (.inr rfl) (vs:=zs4) (fun v hv=>by have:=hfS.args v (hld.2 v hv);omega)
  have hl3:=hq3.len
  refine Z0 (Ya 2 (ic [] (KO 15 zs4) ?_))
  rintro _ _ ⟨v10,rfl,rfl⟩
  refine ZU 0 [(84,Wz (zs4.map (Zu 15)))] (ip 2 (Zv (((xs++(zs2.map (Zu 14)))++[y1])++(zs4.map (Zu 15)))) (Zv ((xs++(zs2.map (Zu 14)))++[y1])) (Zv (zs4.map (Zu 15))) v8 none 5 (Xe _) (Xe _) (VP _) (by simp<;>omega) (by simp [WW,Zv]) fun v11=>?_)
  refine Z0 (Yi (ab 2 (Y6 (fun fz gz m F h=>∃(j:Nat) (m3:LI) (u3:Value) (v3:Value) (w3:Value),(j<=zs4.length)/\(m3.length<=os.length+k)/\(∀v∈m3,0<=v/\v<((mm+k:Nat):Int))/\F=sF [4,5,7,10,14,16,17,18,19] fz [(11,X4 (((xs++(zs2.map (Zu 14)))++[y1])++(zs4.map (Zu 15))) v3),(12,ZQ vs w3),(13,ZQ m3 u3),(20,.i j)]/\h=[Zc gz 7,Zc gz 8,Zc gz 9,.tail u3 1,.tail v3 5,.tail w3 1]/\m=zs4.length-j) _ _ _ ⟨0,zs3,v9,v11,w,ob,ob,(fun v hv=>XY v (hla.2 v hv)),rfl,rfl,rfl⟩ (wk [7,7,7,2,0,6] (fw (fr (Yd fl)))) ?_)))
  rintro m F h ⟨j,m3,u3,v3,w3,Up,Wa,XZ,rfl,rfl,rfl⟩
  refine YO 2 (iw (Yf zs4) (Y5 ((j:Int)<(zs4.length:Int)) (fun Zg=>?_) (fun Zg=>?_)))
  ·refine ak (aq (ab 3 (az (Z2 3 ?_))))
   obtain ⟨x2,Zx⟩:=Zs zs4 j om
   refine Zo (Zj none (j:Int) 1 (Y3 Zx)) (ZU 1 [(92,Z5 m3)] (ic [] (OZ m3 x2) ?_))
   rintro _ _ ⟨v12,rfl,rfl⟩
   exact Z0 (az (Z2 1 (ZJ j (Z0 (ZK ⟨j+1,(Qc m3 x2),v12,v3,w3,ob,(VE (Er _ _) Wa),(fun v hv=>XZ v (Dg hv)),rfl,rfl,rfl⟩ (wk [1,1,1,0,1,1] (fw (fr (ZM j fl)))))))))
  refine ax 2 (Ya 2 (iL (Z7 [Yc n vs x1]) 1 1 fun v13=>ZU 0 [(100,Z5 [Yc n vs x1])] (ip 6 (Z7 (vs++[Yc n vs x1])) (Z7 vs) (Z7 [Yc n vs x1]) w3 none 1 (YC _) (YC _) (We _) (by simp<;>omega) (by simp [Wd,Z7]) fun v14=>Z0 (ar (Xv [4,5,7,10,11,12,13,14,16,17] [(108,.b (((Yc n vs x1) != 0)&&(decide ((vs.length:Int)∈zs1))))] (fun gz=>gz) ?_ ?_)))))
  ·refine Z2 3 (ib (b:=((Yc n vs x1) != 0)) 104 (fun Zb=>?_) (fun Zb=>?_))
   ·exact Z2 2 (Zz [] (T1 zs1 (vs.length:Int)) (Z0 (ZG 7 (Zt (decide ((vs.length:Int)∈zs1)) Zb fl))))
   exact Z0 (ZG 7 (Zt false Zb fl))
  refine ac (((Yc n vs x1) != 0)&&(decide ((vs.length:Int)∈zs1))) (p:=((Yc n vs x1)≠0)/\((vs.length:Int)∈zs1)) (YL Ym dq) (fun ZC=>?_) (fun ZC=>?_)
  ·exact az (Z2 2 (iL (Z7 [(vs.length:Int)]) 1 1 fun v15=>ZU 0 [(111,Z5 [(vs.length:Int)])] (ip 6 (Z7 (m3++[(vs.length:Int)])) (Z7 m3) (Z7 [(vs.length:Int)]) u3 none 1 (YC _) (YC _) (We _) (by simp<;>omega) (by simp [Wd,Z7]) fun v16=>Z0 (az (Z2 1 (ZJ k (Z0 (ZK ⟨k+1,(vs++[Yc n vs x1]),v14,(m3++[(vs.length:Int)]),v16,(((xs++(zs2.map (Zu 14)))++[y1])++(zs4.map (Zu 15))),v3,ob,ob,(by first|exact hq3.le om|exact (hq3.cnt (op:=15) (.inr rfl) om).le om),ob,(by first|exact XJ (fun v hv=>by have:=XZ v hv;omega) om|exact (fun v hv=>by have:=XZ v hv;omega)),rfl,rfl,rfl⟩ (wk [4,4,4,0,3,1] (fw (fr (ZM k fl))))))))))))
  refine ar (YH ((Yc n vs x1) != 0) Ym (fun Yg=>?_) (fun Yg=>?_))
  ·exact az (Z2 2 (Zz [] (A4 15 (vs.length:Int)) (UX [YI (Zu 15 (vs.length:Int))] (Zv [(Zu 15 (vs.length:Int))]) (Vx [(Zu 15 (vs.length:Int))]).symm 1 5 fun v17=>ZU 0 [(118,Wz [(Zu 15 (vs.length:Int))])] (ip 7 (Zv ((((xs++(zs2.map (Zu 14)))++[y1])++(zs4.map (Zu 15)))++[(Zu 15 (vs.length:Int))])) (Zv (((xs++(zs2.map (Zu 14)))++[y1])++(zs4.map (Zu 15)))) (Zv [(Zu 15 (vs.length:Int))]) v3 none 5 (Xe _) (Xe _) (VP _) (by simp<;>omega) (by simp [WW,Zv]) fun v18=>Z0 (az (Z2 1 (ZJ k (Z0 (ZK ⟨k+1,(vs++[Yc n vs x1]),v14,m3,u3,((((xs++(zs2.map (Zu 14)))++[y1])++(zs4.map (Zu 15)))++[(Zu 15 (vs.length:Int))]),v18,ob,ob,(by first|exact hq3.le om|exact (hq3.cnt (op:=15) (.inr rfl) om).le om),ob,(by first|exact XJ (fun v hv=>by have:=XZ v hv;omega) om|exact (fun v hv=>by have:=XZ v hv;omega)),rfl,rfl,rfl⟩ (wk [4,4,4,4,0,1] (fw (fr (ZM k fl)))))))))))))
  exact ak (az (Z2 1 (ZJ k (Z0 (ZK ⟨k+1,(vs++[Yc n vs x1]),v14,m3,u3,(((xs++(zs2.map (Zu 14)))++[y1])++(zs4.map (Zu 15))),v3,ob,ob,(by first|exact hq3.le om|exact (hq3.cnt (op:=15) (.inr rfl) om).le om),ob,(by first|exact XJ (fun v hv=>by have:=XZ v hv;omega) om|exact (fun v hv=>by have:=XZ v hv;omega)),rfl,rfl,rfl⟩ (wk [2,2,2,2,2,0] (fw (fr (ZM k fl)))))))))
 have hxl:=Zy.len
 have htl:=QO b.steps k
 refine ax 0 (Yl 3 [1] ?_)
 obtain ⟨x3,YS⟩:=Zs vs b.result.toNat om
 refine Zo (Zj (some w) b.result 1 (Y3 YS)) (Xv [7,10,11] [(138,.b ((x3 != 0)&&((decide (b.result∈ls))||(!(decide (b.result∈ms))))))] (fun gz=>gz) ?_ ?_)
 ·refine Z2 3 (ib (b:=(x3 != 0)) 126 (fun ZB=>?_) (fun ZB=>?_))
  ·refine ZO 3 [1] (Zz [] (T1 ls b.result) (Z2 1 (ib (b:=(decide (b.result∈ls))) 131 (fun YE=>?_) (fun YE=>?_))))
   ·exact Z0 (ZG 6 (Zt true (And.intro ZB YE) fl))
   exact QL 3 [(132,Z5 ms)] [1] (Zz [] (T1 ms b.result) (Z0 (ZG 6 (Zt (!(decide (b.result∈ms))) (And.intro ZB YE) fl))))
  exact Z0 (ZG 6 (Zt false ZB fl))
 refine ac ((x3 != 0)&&((decide (b.result∈ls))||(!(decide (b.result∈ms))))) (p:=(x3≠0)/\((b.result∈ls)∨(¬(b.result∈ms)))) (YL Ym (Yr dq (YA dq))) (fun Xf=>?_) (fun Xf=>?_)
 ·exact az (ZO 3 [1] (Zz [] (A4 14 b.result) (UX [YI (Zu 14 b.result)] (Zv [Zu 14 b.result]) (Vx [Zu 14 b.result]).symm 1 5 fun v19=>ZU 0 [(143,Wz [Zu 14 b.result])] (ip 5 (Zv (xs++[Zu 14 b.result])) (Zv xs) (Zv [Zu 14 b.result]) v none 5 (Xe _) (Xe _) (VP _) (by simp<;>omega) (by simp [WW,Zv]) fun v20=>Z0 (Zw 4 [3] (ZI 2 b3 [X4 (xs++[Zu 14 b.result]) v20,.i b.result] (ie (ZD (r3 [] [.agg [X4 (xs++[Zu 14 b.result]) v20,.i b.result]] [0] [(b3,b3)] ⟨(Z6.mk (xs++[Zu 14 b.result]) b.result),rfl,rfl,(((Zy.cnt (op:=14) (.inl rfl) om).block om).le (by have:=QO b.steps k;omega))⟩ (Ze.agg (.cons (Ze.forget _ _) (.cons (lr _) .nil))))))))))))
 exact ak (Zw 4 [1] (ZI 0 b3 [X4 xs v,.i b.result] (ie (ZD (r3 [] [.agg [X4 xs v,.i b.result]] [0] [(b3,b3)] ⟨(Z6.mk xs b.result),rfl,rfl,((Zy.block om).le (by have:=QO b.steps k;omega))⟩ (Ze.agg (.cons (Ze.forget _ _) (.cons (lr _) .nil))))))))
theorem Z7f (n:Zi) (us:LI) (b:Z6) (os:LI) (ls:LI) (mm:Nat) (hn:X6 n:=by exact ob) (hf:fB n.decls n.routines.length mm b:=by exact ob) (hop:VB V1 b:=by exact ob) (hul:us.length=mm:=by exact ob) (hm:mm+4*b.sz<=100000:=by exact ob) (hor:∀v∈os,0<=v/\v<(mm:Int)) (hol:os.length+4*b.sz<=730:=by exact ob) (hal:ls.length+2000*b.sz<=1000000:=by exact ob) (hbz:b.sz<=500:=by exact ob):Zk 202 [Yq n,Z5 us,ZZ b,Z5 os,Z5 ls] [] (fun r h=>∃(y:Z6),r=ZZ y/\h=[]/\KB n.decls n.routines.length mm y (4500*b.sz)):=by
 have key:∀k:Nat,∀(us2:LI) (b2:Z6) (os2:LI) (as2:LI) (m2:Nat),(fB n.decls n.routines.length m2 b2)->(VB V1 b2)->(us2.length=m2)->(m2+4*b2.sz<=100000)->(∀v∈os2,0<=v/\v<(m2:Int))->(os2.length+4*b2.sz<=730)->(as2.length+2000*b2.sz<=1000000)->(b2.sz<=500)->(b2.sz<k)->Zk 202 [Yq n,Z5 us2,ZZ b2,Z5 os2,Z5 as2] [] (fun r h=>∃(y:Z6),r=ZZ y/\h=[]/\KB n.decls n.routines.length m2 y (4500*b2.sz)):=by
  intro k
  induction k with
  | zero=>intro us2 b2 os2 as2 m2 h1 h2 h3 h4 h5 h6 h7 h8 h9;omega
  | succ k ih=>intro us2 b2 os2 as2 m2 h1 h2 h3 h4 h5 h6 h7 h8 h9;exact Z7g n us2 b2 os2 as2 m2 hn h1 h2 h3 h4 h5 h6 h7 h8 fun us3 b3 os3 as3 m3 q1 q2 q3 q4 q5 q6 q7 q8 q9=>ih us3 b3 os3 as3 m3 q1 q2 q3 q4 q5 q6 q7 q8 om
 exact key (b.sz+1) us b os ls mm hf hop hul hm hor hol hal hbz om
theorem Z7h (n:Zi) (rt:Y8) (qz:Nat) (hn:X6 n:=by exact ob) (hr:RF n.decls n.routines.length qz V1 rt:=by exact ob) (hqz:qz<=181:=by exact ob):Zk 146 [Yq n,Kx rt] [] (fun r h=>∃(y:Z6),r=ZZ y/\h=[]/\KB n.decls n.routines.length rt.params.length y (4500*qz+10)):=by
 have hrp:rt.params.length<=3:=(TC.bd (f:=⟨rt.params,rt.result,default⟩) hr.sig).1
 have hrl:=hr.lent.1
 have hrz:=hr.body.2
 refine ZF 65 Tryz.func146 (ar (iA (YU n) fun b1=>iA (KH rt) fun b2=>iA [nl,.i 0] fun b3=>ie (Zw 4 [1,1] (iw (Yf rt.params) (Zz [] (Z05 rt.body (rt.params.length:Int)) ?_)))))
 have hub:=H8 (n:=(rt.params.length:Int)) rt.body []
 simp only [XA,Vu] at hub
 refine Z0 (ar (iL (Z7 []) 0 1 fun v1=>Z0 (ar (iL (Z7 []) 0 1 fun v2=>?_))))
 refine Z0 (Yi (ab 0 (Y6 (fun fz gz m F h=>∃(k:Nat) (os:LI) (u:Value) (dr:LI) (w:Value),(k<=rt.params.length)/\(os.length<=k)/\(dr.length<=k)/\(∀v∈os,0<=v/\v<(rt.params.length:Int))/\(∀v∈dr,0<=v/\v<(rt.params.length:Int))/\F=sF [2,3,4,5] fz [(6,ZQ os u),(7,ZQ dr w),(8,.i k)]/\h=[Zc gz 2,Zc gz 3,Zc gz 4,.tail u 1,.tail w 1]/\m=rt.params.length-k) _ _ _ ⟨0,[],v1,[],v2,ob,ob,ob,(fun v hv=>by cases hv),(fun v hv=>by cases hv),rfl,rfl,rfl⟩ (wk [2,2,2,1,0] (fw (Yd fl))) ?_)))
 rintro m F h ⟨k,os,u,dr,w,Yj,Zl,Zy,Yv,XY,rfl,rfl,rfl⟩
 refine Yl 3 [1] (iw (Yf rt.params) (Y5 ((k:Int)<(rt.params.length:Int)) (fun Za=>?_) (fun Za=>?_)))
 ·refine ak (aq (ab 1 (Zw 3 [1] ?_)))
  obtain ⟨x1,Z3⟩:=Zs rt.params k om
  refine Zo (Zj none (k:Int) 1 (Y3 Z3)) (Xv [2,3,4,5,6,7,8] [(37,.b ((x1 != 0)&&(!(decide ((k:Int)∈rt.lent)))))] (fun gz=>gz) ?_ ?_)
  ·refine Z2 3 (ib (b:=(x1 != 0)) 31 (fun Zb=>?_) (fun Zb=>?_))
   ·exact ZO 3 [1] (Zz [] (T1 rt.lent (k:Int)) (Z0 (ZG 5 (Zt (!(decide ((k:Int)∈rt.lent))) Zb fl))))
   exact Z0 (ZG 5 (Zt false Zb fl))
  refine ac ((x1 != 0)&&(!(decide ((k:Int)∈rt.lent)))) (p:=(x1≠0)/\(¬((k:Int)∈rt.lent))) (YL Ym (YA dq)) (fun Zg=>?_) (fun Zg=>?_)
  ·refine Ya 2 (Zz [] (T1 (Tj (rt.params.length:Int) rt.body []) (k:Int)) (ie (W9 ((k:Int)∈(Tj (rt.params.length:Int) rt.body [])) (fun ZC=>?_) (fun ZC=>?_))))
   ·exact az (Z2 2 (iL (Z7 [(k:Int)]) 1 1 fun v3=>ZU 0 [(43,Z5 [(k:Int)])] (ip 4 (Z7 (os++[(k:Int)])) (Z7 os) (Z7 [(k:Int)]) u none 1 (YC _) (YC _) (We _) (by simp<;>omega) (by simp [Wd,Z7]) fun v4=>Z0 (az (Z2 1 (ZJ k (Z0 (ZK ⟨k+1,(os++[(k:Int)]),v4,dr,w,ob,ob,ob,(by first|exact Yv|exact XJ Yv om),(by first|exact XY|exact XJ XY om),rfl,rfl,rfl⟩ (wk [2,2,2,0,1] (fw (ZM k fl)))))))))))
   exact az (Z2 2 (iL (Z7 [(k:Int)]) 1 1 fun v5=>ZU 0 [(47,Z5 [(k:Int)])] (ip 5 (Z7 (dr++[(k:Int)])) (Z7 dr) (Z7 [(k:Int)]) w none 1 (YC _) (YC _) (We _) (by simp<;>omega) (by simp [Wd,Z7]) fun v6=>Z0 (az (Z2 1 (ZJ k (Z0 (ZK ⟨k+1,os,u,(dr++[(k:Int)]),v6,ob,ob,ob,(by first|exact Yv|exact XJ Yv om),(by first|exact XY|exact XJ XY om),rfl,rfl,rfl⟩ (wk [2,2,2,2,0] (fw (ZM k fl)))))))))))
  exact ak (az (Z2 1 (ZJ k (Z0 (ZK ⟨k+1,os,u,dr,w,ob,ob,ob,(by first|exact Yv|exact XJ Yv om),(by first|exact XY|exact XJ XY om),rfl,rfl,rfl⟩ (ZG 5 (fw (ZM k fl))))))))
 refine ax 0 (Zw 6 [2,1,1] (iL (Z7 []) 0 1 fun v7=>ZU 0 [(54,Z5 os),(55,Z5 [])] (ic [] (Z7f n rt.params rt.body os [] rt.params.length (hf:=hr.body.1) (hop:=hr.op) (hor:=Yv) (hal:=(by simp only [XA];omega))) ?_)))
 rintro _ _ ⟨y1,rfl,rfl,YG⟩
 have hkb:=YG
 have hkl:=hkb.len
 refine iA [nl,.i 0] fun b4=>ZI 0 b4 (Xm y1) (ie (aD 9 (CC 4 9 [0,2,3,5,6] [(57,Z5 dr)] [0,0] (Z9 1 (dc 1 [] [0,0] [b4,b4] (KO 15 dr) ?_)))))
 rintro _ _ ⟨v8,rfl,rfl⟩
 exact Z9 4 (dp 4 0 [0] [b4] (Zv ((dr.map (Zu 15))++y1.steps)) (Zv (dr.map (Zu 15))) (Zv y1.steps) v8 none 5 (Xe _) (Xe _) (VP _) (by simp<;>omega) (by simp [WW,Zv]) fun v9=>Zm 1 2 [7] (Z9 8 (YK 8 3 [] [] b3 [X4 ((dr.map (Zu 15))++y1.steps) v9,.i y1.result] (de (ZD (r3 [] [.agg [X4 ((dr.map (Zu 15))++y1.steps) v9,.i y1.result]] [0] [(b3,b3)] ⟨(Z6.mk ((dr.map (Zu 15))++y1.steps) y1.result),rfl,rfl,((hkb.put1 (op:=15) (.inr rfl) XY).le om)⟩ (Ze.agg (.cons (Ze.forget _ _) (.cons (lr _) .nil)))))))))
theorem Z7k (n:Zi) (qz:Nat) (hn:FO n qz V1:=by exact ob) (hqz:qz<=181:=by exact ob):Zk 85 [Yq n] [] (fun r h=>∃(n2:Zi),r=Yq n2/\h=[]/\FO n2 (4500*qz+10) VM):=by
 have hnl:=hn.fn.len
 have XB:=hn.fn.decls.ok
 have hok:=hn.fn.ok
 refine ZF 36 Tryz.func85 (ar (iA (YU n) fun b1=>iA [nl,nl] fun b2=>ie (Zw 2 [1] (Zz [] (Cj n.decls) (iL (YQ []) 0 5 fun v1=>Z2 1 (iA [nl,nl] fun b3=>?_))))))
 refine ZI 0 b3 [ZT n.decls,WT [] v1] (ie (Yi (ab 0 (Y6 (fun fz gz m F h=>∃(k:Nat) (rs:List Y8) (u:Value),(k<=n.routines.length)/\(rs.length=k)/\(∀r∈rs,RF n.decls n.routines.length (4500*qz+10) VM r)/\F=sF [1,2,3] fz [(4,.i k)]/\h=[.obj b3 [ZT n.decls,WT rs u],Zc gz 2,Zc gz 3,.tail u 5]/\m=n.routines.length-k) _ _ _ ⟨0,[],v1,ob,ob,(fun r hr=>by cases hr),rfl,rfl,rfl⟩ (wk [0,1,1,0] (Yd fl)) ?_))))
 rintro m F h ⟨k,rs,u,Yj,Zl,Zy,rfl,rfl,rfl⟩
 refine Yl 3 [2] (iw (Ur n.routines) (Y5 ((k:Int)<(n.routines.length:Int)) (fun Za=>?_) (fun Za=>?_)))
 ·refine ak (aq (ab 1 (aE 19 (ZH 14 19 [0,1,2,3,4] [0,2] ?_))))
  obtain ⟨x1,Z3⟩:=Zs n.routines k om
  have hrf:=hn.rf (ZW Z3)
  have hrp:(x1).params.length<=3:=(TC.bd (f:=⟨(x1).params,(x1).result,default⟩) hrf.sig).1
  have hrl:=hrf.lent.1
  have hrz:=hrf.body.2
  refine dx 5 (Zj none (k:Int) 5 (Wv Z3)) (ZH 8 13 [6,7,8,9,10] [2,2] (dx 11 (Zj none (k:Int) 5 (Wv Z3)) (Zm 6 7 [12] (Z9 13 (dc 13 [] [2,0] [b1,b3] (Z7h n x1 qz (hr:=hrf)) ?_)))))
  rintro _ _ ⟨y1,rfl,rfl,ZX⟩
  have hkb:=ZX
  exact Z9 14 (Yo 14 [] [0] [b3] (Do x1 y1 (hp:=om) (hl:=om)) (Z9 15 (dL 15 [0] [b3] (YQ [Y8.mk x1.params x1.lent x1.result y1]) 1 5 fun v2=>Yw 3 3 [] [(32,KJ [Y8.mk x1.params x1.lent x1.result y1])] (Z9 16 (dp 16 4 [] [] (YQ (rs++[Y8.mk x1.params x1.lent x1.result y1])) (YQ rs) (YQ [Y8.mk x1.params x1.lent x1.result y1]) u none 5 (UV _) (UV _) (B9 _) (by simp<;>omega) (by simp [BX,YQ]) fun v3=>Zm 1 2 [17] (Z9 18 (YK 18 2 [] [] b3 [ZT n.decls,WT (rs++[Y8.mk x1.params x1.lent x1.result y1]) v3] (de (az (Z2 1 (ZJ k (Z0 (ZK ⟨k+1,(rs++[Y8.mk x1.params x1.lent x1.result y1]),v3,ob,ob,(XJ Zy (by first|exact hrf.with hkb.fb hkb.sz hkb.op|(rw [Z6.eta];exact hrf.with hkb.fb hkb.sz hkb.op))),rfl,rfl,rfl⟩ (wk [0,2,2,0] (ZM k fl)))))))))))))))
 exact ax 0 (Zw 1 [0] (ZI 1 b2 [ZT n.decls,WT rs u] (ie (ZD (r3 [] [.agg [ZT n.decls,WT rs u]] [0] [(b2,b2)] ⟨(Zi.mk n.decls rs),rfl,rfl,(FO.fin hn.fn om Zy).1⟩ (Ze.agg (.cons (lr _) (.cons (Ze.forget _ _) .nil))))))))
theorem Z7c (n:Zi) (us:LI) (s:Z4) (mm:Nat) (hn:X6 n:=by exact ob) (hf:FS n.decls n.routines.length mm s:=by exact ob) (hvl:us.length=mm:=by exact ob) (hm:mm<=100000000:=by exact ob):Zk 204 [Yq n,Z5 us,YI s] [] (fun r h=>∃(zs:LI),r=Z5 zs/\h=[]/\zs.length<=s.args.length/\∀z∈zs,z∈s.args):=by
 have hal:=hf.alen
 refine ZF 31 Tryz.func204 (ar (iA (YU n) fun b1=>iA (XG s) fun b2=>Z0 (ar (iL (Z7 []) 0 1 fun v1=>?_))))
 refine Z0 (Yi (ab 0 (Y6 (fun fz gz m F h=>∃(k:Nat) (zs:LI) (u:Value),(k<=s.args.length)/\(zs.length<=k)/\(∀z∈zs,z∈s.args)/\F=sF [1,3,5] fz [(7,ZQ zs u),(8,.i k)]/\h=[Zc gz 1,Zc gz 2,.tail u 1]/\m=s.args.length-k) _ _ _ ⟨0,[],v1,ob,ob,(fun z hz=>by cases hz),rfl,rfl,rfl⟩ (wk [1,1,0] (fr (Yd fl))) ?_)))
 rintro m F h ⟨k,zs,u,Yj,Zl,Zy,rfl,rfl,rfl⟩
 refine Yl 3 [0] (iw (Yf s.args) (Y5 ((k:Int)<(s.args.length:Int)) (fun Za=>?_) (fun Za=>?_)))
 ·obtain ⟨a1,ha1⟩:=Zs s.args k om
  have har:=hf.args a1 (ZW ha1)
  refine ak (aq (ab 1 (Zw 4 [1,0] (Zz [] (H2 n us s k a1 (hnum:=hf.call) (ha:=ha1)) (ie (ac (UI n us s.op s.num a1 k) Iff.rfl (fun Zg=>?_) (fun Zg=>?_)))))))
  ·exact az (ZO 4 [0] (Zo (Zj none (k:Int) 1 (Y3 ha1)) (Z2 1 (iL (Z7 [a1]) 1 1 fun v2=>ZU 0 [(28,Z5 [a1])] (ip 3 (Z7 (zs++[a1])) (Z7 zs) (Z7 [a1]) u none 1 (YC _) (YC _) (We _) (by simp<;>omega) (by simp [Wd,Z7]) fun v3=>Z0 (az (Z2 1 (ZJ k (Z0 (ZK ⟨k+1,(zs++[a1]),v3,ob,ob,(by first|exact Zy|exact XJ Zy (ZW ha1)),rfl,rfl,rfl⟩ (wk [2,2,0] (fr (ZM k fl)))))))))))))
  exact ak (az (Z2 1 (ZJ k (Z0 (ZK ⟨k+1,zs,u,ob,ob,(by first|exact Zy|exact XJ Zy (ZW ha1)),rfl,rfl,rfl⟩ (ZG 3 (fr (ZM k fl))))))))
 exact ax 0 (ar (Zr (r2 [] [ZQ zs u] ⟨zs,rfl,rfl,⟨by omega,Zy⟩⟩ (Ze.forget _ _))))
theorem Z7y (n:Zi) (us:LI) (s:Z4) (mm:Nat) (bb:Nat) (hn:X6 n:=by exact ob) (hf:FS n.decls n.routines.length mm s:=by exact ob) (h11:s.op<=11:=by exact ob) (hop:Kh V1 s.kids:=by exact ob) (hul:us.length=mm:=by exact ob) (hm:mm+4*s.sz<=100000:=by exact ob) (hbz:s.sz<=500:=by exact ob) (hb:s.sz<=bb:=by exact ob) (ih:∀(us2:LI) (b2:Z6) (mi2:LI) (m2:Nat),(fB n.decls n.routines.length m2 b2)->(VB V1 b2)->(us2.length=m2)->(m2+4*b2.sz<=100000)->(∀v∈mi2,0<=v/\v<(m2:Int))->(mi2.length<=3)->(b2.sz<=500)->(b2.sz<bb)->Zk 147 [Yq n,Z5 us2,ZZ b2,Z5 mi2] [] (fun r h=>∃(y:Z6),r=ZZ y/\h=[]/\KB n.decls n.routines.length m2 y (60*b2.sz))):Zk 205 [Yq n,Z5 us,YI s] [] (fun r h=>∃(y:Z4),r=YI y/\h=[]/\KT n.decls n.routines.length mm y (60*Xc s.kids+23)):=by
 have XB:=hn.decls
 have hkf:=hf.few XB
 have hsa:=hf.alen
 refine ZF 72 Tryz.func205 (ar (iA (YU n) fun b1=>iA (XG s) fun b2=>iA [.i 0,.i 0,.i 0,nl,nl] fun b3=>ie (ar (iL (YM []) 0 2 fun v1=>Z0 (Zw 4 [3,2] (ic [] (A3 n.decls s.num) ?_))))))
 rintro _ _ ⟨v2,rfl,rfl⟩
 refine Z0 (Yi (ab 0 (Y6 (fun fz gz m F h=>∃(k:Nat) (ks:List Z6) (u:Value),(k<=s.kids.length)/\(ks.length=k)/\(KK n.decls n.routines.length (T0 n.decls s.op s.num mm) ks (60*Xc (s.kids.take k)+6*k))/\F=sF [1,3,5,6] fz [(7,Ty ks u),(8,Z5 (ZY n.decls s.num)),(9,.i k)]/\h=[Zc gz 2,Zc gz 3,Zc gz 4,.tail u 2]/\m=s.kids.length-k) _ _ _ ⟨0,[],v1,ob,ob,(KK.nil.le (Ku _)),rfl,rfl,rfl⟩ (wk [2,2,2,1] (fr (fc (x:=ZQ (ZY n.decls s.num) v2) (Ze.forget _ _) (Yd fl)))) ?_)))
 rintro m F h ⟨k,ks,u,Yj,Zl,Zy,rfl,rfl,rfl⟩
 refine Yl 3 [1] (iw (Uy s.kids) (Y5 ((k:Int)<(s.kids.length:Int)) (fun Za=>?_) (fun Za=>?_)))
 ·refine ak (aq (ab 1 (ar (iL (Z7 []) 0 1 fun v3=>?_))))
  refine Z0 (X9 (VT [2] (XW (fun fz gz F h=>∃(fds:LI),(T0 n.decls s.op s.num mm k=mm+fds.length)/\(fds.length<=3)/\F=sF [1,3,5,6,7,8,9] fz [(10,Z5 fds)]/\h=[Zc gz 1,Zc gz 2,Zc gz 3,Zc gz 4]) ?_ ?_)))
  ·refine ac (s.op==8) Zq (fun Zg=>?_) (fun Zg=>?_)
   ·refine aE 8 (ZH 4 8 [0,1,2,3] [3] ?_)
    obtain ⟨x1,Z3⟩:=Zs (ZY n.decls s.num) k (by have:=hf.k8 (by assumption);omega)
    have hcf:=Ud XB x1
    exact dx 4 (Zj none (k:Int) 1 (Y3 Z3)) (Zm 2 3 [5] (Z9 6 (Yo 6 [] [] [] (KN n.decls x1) (Zm 0 1 [7] (de (ZP ⟨ZV n.decls x1,(M9 (by assumption) Z3),ob,rfl,rfl⟩ (wk [1,1,1,1] fl)))))))
   exact ak (ZP ⟨[],(by rw [Ma (by assumption)];rfl),ob,rfl,rfl⟩ (wk [1,1,1,1] fl))
  rintro F h ⟨fds,Uf,Az,rfl,rfl⟩
  refine Ya 2 (iw (Yf us) (ic [] (OP fds us.length) ?_))
  rintro _ _ ⟨xs1,rfl,rfl,ZX⟩
  have hhf:=ZX
  refine Z0 (aD 13 (ZH 7 13 [0,1,2,4,5,6] [2,1] ?_))
  obtain ⟨x2,Zx⟩:=Zs s.kids k om
  have hkz:=Tx Zx
  have hfk:=DY hf.kids Zx
  rw [Vu,Uf] at hfk
  have hok:=Df.1 hop x2 (ZW Zx)
  have hbt:=Fc Zx
  have hba:=Fd Zx
  refine dx 7 (Zj none (k:Int) 2 (T9 Zx)) (Zm 4 6 [8,9] (J2 (fun fz gz F h=>∃(y1:Z6) (b4:Nat),(KB n.decls n.routines.length (mm+fds.length) y1 (60*x2.sz))/\F=sF [1,3,5,6,7,8,9,11] fz [(12,.p b4 0)]/\h=[.obj b4 (Xm y1),Zc gz 0,Zc gz 1,Zc gz 2,Zc gz 3]) ?_ ?_))
  ·refine VN 3 11 ?_ ?_
   ·refine dc 3 [] [1,2] [b2,b1] (Kn us fds) ?_
    rintro _ _ ⟨v4,rfl,rfl⟩
    refine Yw 3 3 [] [(44,Z5 (us++fds))] (VN 10 11 ?_ ?_)
    ·refine dc 10 [] [] [] (ih (us++fds) x2 xs1 (mm+fds.length) hfk hok (by rw [Yt,hul]) ob (fun v hv=>by have:=hhf.2 v hv;omega) ob ob ob) ?_
     rintro _ _ ⟨y1,rfl,rfl,Yk⟩
     have hkb:=Yk
     have hkl:=hkb.len
     exact Z9 11 (dA 11 [] [] [nl,.i 0] fun b4=>Z9 12 (YK 12 0 [] [] b4 (Xm y1) (de (ZP ⟨_,b4,(by assumption),rfl,rfl⟩ (wk [0,1,1,1,1] fl)))))
    refine dA 11 [1,2] [b2,b1] [nl,.i 0] fun b5=>Z9 10 (dc 10 [] [] [] (ih (us++fds) x2 xs1 (mm+fds.length) hfk hok (by rw [Yt,hul]) ob (fun v hv=>by have:=hhf.2 v hv;omega) ob ob ob) ?_)
    rintro _ _ ⟨y2,rfl,rfl,YG⟩
    have hkb:=YG
    have hkl:=hkb.len
    exact Z9 12 (YK 12 0 [] [] b5 (Xm y2) (de (ZP ⟨_,b5,(by assumption),rfl,rfl⟩ (wk [0,1,1,1,1] fl))))
   refine dA 11 [1,2] [b2,b1] [nl,.i 0] fun b6=>Z9 3 (dc 3 [] [2,3] [b2,b1] (Kn us fds) ?_)
   rintro _ _ ⟨v5,rfl,rfl⟩
   refine Yw 2 2 [] [(44,Z5 (us++fds))] (Z9 10 (dc 10 [] [] [] (ih (us++fds) x2 xs1 (mm+fds.length) hfk hok (by rw [Yt,hul]) ob (fun v hv=>by have:=hhf.2 v hv;omega) ob ob ob) ?_))
   rintro _ _ ⟨y3,rfl,rfl,YR⟩
   have hkb:=YR
   have hkl:=hkb.len
   exact Z9 12 (YK 12 1 [] [] b6 (Xm y3) (de (ZP ⟨_,b6,(by assumption),rfl,rfl⟩ (wk [0,1,1,1,1] fl))))
  rintro F h ⟨y1,b4,Yk,rfl,rfl⟩
  have hkb:=Yk
  have hkl:=hkb.len
  refine aE 12 (ZH 6 12 [0,1,3,4,6,7] [0,0] (Z9 2 (dc 2 [] [0,0] [b4,b4] (KO 14 xs1) ?_)))
  rintro _ _ ⟨v6,rfl,rfl⟩
  exact Z9 5 (dp 5 0 [0] [b4] (Zv ((xs1.map (Zu 14))++y1.steps)) (Zv (xs1.map (Zu 14))) (Zv y1.steps) v6 none 5 (Xe _) (Xe _) (VP _) (by simp<;>omega) (by simp [WW,Zv]) fun v7=>Yw 3 4 [8] [(60,.agg [Wz ((xs1.map (Zu 14))++y1.steps),.i y1.result])] (Z9 9 (WK 9 [] [] [ZZ (Z6.mk ((xs1.map (Zu 14))++y1.steps) y1.result)] (YM [Z6.mk ((xs1.map (Zu 14))++y1.steps) y1.result]) (Tp [Z6.mk ((xs1.map (Zu 14))++y1.steps) y1.result]).symm 1 2 fun v8=>Yw 2 2 [] [(61,Wb [Z6.mk ((xs1.map (Zu 14))++y1.steps) y1.result])] (Z9 10 (dp 10 6 [] [] (YM (ks++[Z6.mk ((xs1.map (Zu 14))++y1.steps) y1.result])) (YM ks) (YM [Z6.mk ((xs1.map (Zu 14))++y1.steps) y1.result]) u none 2 (Q4 _) (Q4 _) (Ft _) (by simp<;>omega) (by simp [An,YM]) fun v9=>Zm 0 1 [11] (de (az (Z2 1 (ZJ k (Z0 (ZK ⟨k+1,(ks++[Z6.mk ((xs1.map (Zu 14))++y1.steps) y1.result]),v9,ob,ob,((Zy.snoc Zl (by rw [Uf];exact hkb.put1 (op:=14) (.inl rfl) (fun v hv=>by have:=hhf.2 v hv;omega))).le om),rfl,rfl,rfl⟩ (wk [4,4,4,0] (fw (ZM k fl))))))))))))))
 refine ax 0 (aD 10 (ZH 3 10 [0,1,2,3,4,5,7] [1,1,1] (Z9 6 (dc 6 [] [1,1] [b2,b2] (UD s.args) ?_))))
 rintro _ _ ⟨v10,rfl,rfl⟩
 exact Zm 1 2 [8] (Z9 9 (YK 9 1 [] [] b3 [.i s.op,.i s.num,.i 0,ZQ s.args v10,Ty ks u] (de (ZD (r3 [] [.agg [.i s.op,.i s.num,.i 0,ZQ s.args v10,Ty ks u]] [0] [(b3,b3)] ⟨(Z4.mk s.op s.num 0 s.args ks),rfl,rfl,((KT.of (into:=0) hf h11 om om Zy).le (by have:=HO (xs:=s.kids) (k:=k) om;omega))⟩ (Ze.agg (.cons (lr _) (.cons (lr _) (.cons (lr _) (.cons (Ze.forget _ _) (.cons (Ze.forget _ _) .nil)))))))))))
theorem Z7x (n:Zi) (us:LI) (b:Z6) (mi:LI) (mm:Nat) (hn:X6 n) (hf:fB n.decls n.routines.length mm b) (hop:VB V1 b) (hul:us.length=mm) (hm:mm+4*b.sz<=100000) (hmr:∀v∈mi,0<=v/\v<(mm:Int)) (hml:mi.length<=3) (hbz:b.sz<=500) (ih:∀(us2:LI) (b2:Z6) (mi2:LI) (m2:Nat),(fB n.decls n.routines.length m2 b2)->(VB V1 b2)->(us2.length=m2)->(m2+4*b2.sz<=100000)->(∀v∈mi2,0<=v/\v<(m2:Int))->(mi2.length<=3)->(b2.sz<=500)->(b2.sz<b.sz)->Zk 147 [Yq n,Z5 us2,ZZ b2,Z5 mi2] [] (fun r h=>∃(y:Z6),r=ZZ y/\h=[]/\KB n.decls n.routines.length m2 y (60*b2.sz))):Zk 147 [Yq n,Z5 us,ZZ b,Z5 mi] [] (fun r h=>∃(y:Z6),r=ZZ y/\h=[]/\KB n.decls n.routines.length mm y (60*b.sz)):=by
 have XB:=hn.decls
 have hbe:=b.sz_eq
 have ZL:=Uk b
 obtain ⟨hfs,hr1,hr2⟩:=(DX b).1 hf
 have hos:=Ce.1 ((Gu b).1 hop)
 have hdn:=I7 hos
 have hdl:=hdn b.steps.length (X7 _)
 rw [V6] at hdl
 refine ZF 80 Tryz.func147 (ar (iA (YU n) fun b1=>iA (Xm b) fun b2=>iA [nl,.i 0] fun b3=>ie (ar (iL (Zv []) 0 5 fun v1=>Z0 (Ya 1 (ic [] (UD us) ?_))))))
 rintro _ _ ⟨v2,rfl,rfl⟩
 refine Z0 (Ya 1 (ic [] (UD mi) ?_))
 rintro _ _ ⟨v3,rfl,rfl⟩
 refine Z0 (Yi (ab 0 (Y6 (fun fz gz m F h=>∃(k:Nat) (vs:LI) (w:Value) (ow:LI) (u:Value) (xs:List Z4) (v:Value) (z0:Nat),(k<=b.steps.length)/\(vs.length=mm+k)/\(CL n.decls n.routines.length mm xs k z0)/\(z0+2*ow.length<=60*Yb (b.steps.take k)+2*mi.length)/\(∀v∈ow,0<=v/\v<((mm+k:Nat):Int))/\F=sF [4,6,8] fz [(9,X4 xs v),(10,ZQ vs w),(11,ZQ ow u),(12,.i k)]/\h=[Zc gz 3,Zc gz 4,Zc gz 5,.tail u 1,.tail v 5,.tail w 1]/\m=b.steps.length-k) _ _ _ ⟨0,us,v2,mi,v3,[],v1,0,ob,ob,CL.nil,(by simp),hmr,rfl,rfl,rfl⟩ (wk [3,3,3,0,1,0] (fw (fr (Yd fl)))) ?_)))
 rintro m F h ⟨k,vs,w,ow,u,xs,v,z0,Yj,Zl,Zy,Yv,XY,rfl,rfl,rfl⟩
 refine Yl 3 [1] (iw (VO b.steps) (Y5 ((k:Int)<(b.steps.length:Int)) (fun Za=>?_) (fun Za=>?_)))
 ·refine ak (aq (ab 1 (Zw 3 [1] ?_)))
  obtain ⟨x1,Z3⟩:=Zs b.steps k om
  have Xr:=Ck Z3
  have hfS:=(FD x1).1 (DZ hfs Z3)
  rw [hdn k om] at hfS
  have hoS:=(Eo x1).1 (hos x1 (ZW Z3))
  have htk:=Mr Z3
  have hse:=(x1).sz_eq
  have hal4:=hfS.alen
  have hxl:=Zy.len
  have htl:=QO b.steps (k+1)
  refine Zo (Zj none (k:Int) 5 (V2 Z3)) (Z2 1 (iA [.i 0,.i 0,.i 0,nl,nl] fun b4=>ZI 0 b4 (XG x1) (ie (ar (QL 3 [(33,Z5 vs)] [3,0] (Zz [] (Mn n vs x1 ob ob) (Z0 (ar (QL 4 [(38,Z5 vs)] [3,0] (ic [] (Z7c n vs x1 (mm+k) (hf:=hfS)) ?_))))))))))
  rintro _ _ ⟨zs1,rfl,rfl,ZX⟩
  have hdu:=ZX
  have hq1:=Zy.cnts (op:=14) (.inl rfl) (vs:=zs1) (fun v hv=>hfS.args v (hdu.2 v hv))
  have hl1:=hq1.len
  refine ic [] (KO 14 zs1) ?_
  rintro _ _ ⟨v4,rfl,rfl⟩
  refine ZU 0 [(41,Wz (zs1.map (Zu 14)))] (ip 6 (Zv (xs++(zs1.map (Zu 14)))) (Zv xs) (Zv (zs1.map (Zu 14))) v none 5 (Xe _) (Xe _) (VP _) (by simp<;>omega) (by simp [WW,Zv]) fun v5=>Z0 (ar (QL 4 [(45,Z5 vs)] [5,2] (ic [] (Z7y n vs x1 (mm+k) b.sz (hf:=hfS) (h11:=hoS.1) (hop:=hoS.2) (ih:=ih)) ?_))))
  rintro _ _ ⟨y1,rfl,rfl,Yk⟩
  have hkt:=Yk
  have hq2:=hq1.kt hkt
  have hl2:=hq2.len
  refine UX [YI y1] (Zv [y1]) (Vx [y1]).symm 1 5 fun v6=>ZU 0 [(48,Wz [y1])] (ip 1 (Zv ((xs++(zs1.map (Zu 14)))++[y1])) (Zv (xs++(zs1.map (Zu 14)))) (Zv [y1]) v5 none 5 (Xe _) (Xe _) (VP _) (by simp<;>omega) (by simp [WW,Zv]) fun v7=>Z0 (X9 (YH ((Yc n vs x1) != 0) Ym (fun Zg=>?_) (fun Zg=>?_))))
  ·exact az (Z2 2 (iw (Yf vs) (iL (Z7 [(vs.length:Int)]) 1 1 fun v8=>ZU 0 [(55,Z5 [(vs.length:Int)])] (ip 8 (Z7 (ow++[(vs.length:Int)])) (Z7 ow) (Z7 [(vs.length:Int)]) u none 1 (YC _) (YC _) (We _) (by simp<;>omega) (by simp [Wd,Z7]) fun v9=>Z0 (az (Z2 2 (iL (Z7 [Yc n vs x1]) 1 1 fun v10=>ZU 0 [(59,Z5 [Yc n vs x1])] (ip 10 (Z7 (vs++[Yc n vs x1])) (Z7 vs) (Z7 [Yc n vs x1]) w none 1 (YC _) (YC _) (We _) (by simp<;>omega) (by simp [Wd,Z7]) fun v11=>Z0 (az (Z2 1 (ZJ k (Z0 (ZK ⟨k+1,(vs++[Yc n vs x1]),v11,(ow++[(vs.length:Int)]),v9,((xs++(zs1.map (Zu 14)))++[y1]),v7,_,ob,ob,hq2,(by (try simp only [Yt,YT,XA]);omega),(by first|exact XJ (fun v hv=>by have:=XY v hv;omega) om|exact (fun v hv=>by have:=XY v hv;omega)),rfl,rfl,rfl⟩ (wk [8,8,8,2,3,0] (fw (fr (ZM k fl)))))))))))))))))
  exact ak (az (Z2 2 (iL (Z7 [Yc n vs x1]) 1 1 fun v12=>ZU 0 [(59,Z5 [Yc n vs x1])] (ip 9 (Z7 (vs++[Yc n vs x1])) (Z7 vs) (Z7 [Yc n vs x1]) w none 1 (YC _) (YC _) (We _) (by simp<;>omega) (by simp [Wd,Z7]) fun v13=>Z0 (az (Z2 1 (ZJ k (Z0 (ZK ⟨k+1,(vs++[Yc n vs x1]),v13,ow,u,((xs++(zs1.map (Zu 14)))++[y1]),v7,_,ob,ob,hq2,(by (try simp only [Yt,YT,XA]);omega),(by first|exact XJ (fun v hv=>by have:=XY v hv;omega) om|exact (fun v hv=>by have:=XY v hv;omega)),rfl,rfl,rfl⟩ (wk [6,6,6,6,2,0] (fw (fr (ZM k fl)))))))))))))
 have hxl:=Zy.len
 have htl:=QO b.steps k
 refine ax 0 (Yl 3 [1] ?_)
 obtain ⟨x2,Zx⟩:=Zs vs b.result.toNat om
 refine Zo (Zj (some w) b.result 1 (Y3 Zx)) (YH (x2 != 0) Ym (fun ZC=>?_) (fun ZC=>?_))
 ·refine az (ZO 3 [1] (Zz [] (A4 14 b.result) (UX [YI (Zu 14 b.result)] (Zv [Zu 14 b.result]) (Vx [Zu 14 b.result]).symm 1 5 fun v14=>ZU 0 [(71,Wz [Zu 14 b.result])] (ip 5 (Zv (xs++[Zu 14 b.result])) (Zv xs) (Zv [Zu 14 b.result]) v none 5 (Xe _) (Xe _) (VP _) (by simp<;>omega) (by simp [WW,Zv]) fun v15=>Z0 (aD 8 (CC 4 8 [0,1,4,5] [(74,Z5 ow)] [3] (Z9 2 (dc 2 [] [1] [b2] (KO 15 ow) ?_))))))))
  rintro _ _ ⟨v16,rfl,rfl⟩
  exact Yw 3 3 [] [(75,Wz (ow.map (Zu 15)))] (Z9 3 (dp 3 1 [1] [b2] (Zv ((xs++[Zu 14 b.result])++(ow.map (Zu 15)))) (Zv (xs++[Zu 14 b.result])) (Zv (ow.map (Zu 15))) v15 none 5 (Xe _) (Xe _) (VP _) (by simp<;>omega) (by simp [WW,Zv]) fun v17=>Zm 1 2 [6] (Z9 7 (YK 7 3 [] [] b3 [X4 ((xs++[Zu 14 b.result])++(ow.map (Zu 15))) v17,.i b.result] (de (ZD (r3 [] [.agg [X4 ((xs++[Zu 14 b.result])++(ow.map (Zu 15))) v17,.i b.result]] [0] [(b3,b3)] ⟨(Z6.mk ((xs++[Zu 14 b.result])++(ow.map (Zu 15))) b.result),rfl,rfl,((((Zy.cnt (op:=14) (.inl rfl) om).cnts (op:=15) (.inr rfl) (fun v hv=>by have:=XY v hv;omega)).block om).le (by have:=QO b.steps k;omega))⟩ (Ze.agg (.cons (Ze.forget _ _) (.cons (lr _) .nil))))))))))
 refine ak (aD 8 (CC 4 8 [0,1,4,5] [(74,Z5 ow)] [1] (Z9 2 (dc 2 [] [1] [b2] (KO 15 ow) ?_))))
 rintro _ _ ⟨v18,rfl,rfl⟩
 exact Yw 3 3 [] [(75,Wz (ow.map (Zu 15)))] (Z9 3 (dp 3 5 [1] [b2] (Zv (xs++(ow.map (Zu 15)))) (Zv xs) (Zv (ow.map (Zu 15))) v none 5 (Xe _) (Xe _) (VP _) (by simp<;>omega) (by simp [WW,Zv]) fun v19=>Zm 1 2 [6] (Z9 7 (YK 7 2 [] [] b3 [X4 (xs++(ow.map (Zu 15))) v19,.i b.result] (de (ZD (r3 [] [.agg [X4 (xs++(ow.map (Zu 15))) v19,.i b.result]] [0] [(b3,b3)] ⟨(Z6.mk (xs++(ow.map (Zu 15))) b.result),rfl,rfl,(((Zy.cnts (op:=15) (.inr rfl) (fun v hv=>by have:=XY v hv;omega)).block om).le (by have:=QO b.steps k;omega))⟩ (Ze.agg (.cons (Ze.forget _ _) (.cons (lr _) .nil))))))))))
theorem Z7w (n:Zi) (us:LI) (b:Z6) (mi:LI) (mm:Nat) (hn:X6 n:=by exact ob) (hf:fB n.decls n.routines.length mm b:=by exact ob) (hop:VB V1 b:=by exact ob) (hul:us.length=mm:=by exact ob) (hm:mm+4*b.sz<=100000:=by exact ob) (hmr:∀v∈mi,0<=v/\v<(mm:Int)) (hml:mi.length<=3:=by exact ob) (hbz:b.sz<=500:=by exact ob):Zk 147 [Yq n,Z5 us,ZZ b,Z5 mi] [] (fun r h=>∃(y:Z6),r=ZZ y/\h=[]/\KB n.decls n.routines.length mm y (60*b.sz)):=by
 have key:∀k:Nat,∀(us2:LI) (b2:Z6) (mi2:LI) (m2:Nat),(fB n.decls n.routines.length m2 b2)->(VB V1 b2)->(us2.length=m2)->(m2+4*b2.sz<=100000)->(∀v∈mi2,0<=v/\v<(m2:Int))->(mi2.length<=3)->(b2.sz<=500)->(b2.sz<k)->Zk 147 [Yq n,Z5 us2,ZZ b2,Z5 mi2] [] (fun r h=>∃(y:Z6),r=ZZ y/\h=[]/\KB n.decls n.routines.length m2 y (60*b2.sz)):=by
  intro k
  induction k with
  | zero=>intro us2 b2 mi2 m2 h1 h2 h3 h4 h5 h6 h7 h9;omega
  | succ k ih=>intro us2 b2 mi2 m2 h1 h2 h3 h4 h5 h6 h7 h9;exact Z7x n us2 b2 mi2 m2 hn h1 h2 h3 h4 h5 h6 h7 fun us3 b3 mi3 m3 q1 q2 q3 q4 q5 q6 q7 q9=>ih us3 b3 mi3 m3 q1 q2 q3 q4 q5 q6 q7 om
 exact key (b.sz+1) us b mi mm hf hop hul hm hmr hml hbz om
theorem Z8g (rt:Y8) (hp:rt.params.length<=1000000:=by exact ob) (hl:rt.lent.length<=1000000:=by exact ob):Zk 148 [Kx rt] [] (fun r h=>∃(os:LI),r=Z5 os/\h=[]/\os.length<=rt.params.length/\∀v∈os,0<=v/\v<(rt.params.length:Int)):=by
 refine ZF 31 Tryz.func148 (ar (iA (KH rt) fun b1=>Z0 (ar (iL (Z7 []) 0 1 fun v1=>?_))))
 refine Z0 (Yi (ab 0 (Y6 (fun fz gz m F h=>∃(k:Nat) (os:LI) (u:Value),(k<=rt.params.length)/\(os.length<=k)/\(∀v∈os,0<=v/\v<(rt.params.length:Int))/\F=sF [1] fz [(3,ZQ os u),(4,.i k)]/\h=[Zc gz 1,.tail u 1]/\m=rt.params.length-k) _ _ _ ⟨0,[],v1,ob,ob,(fun v hv=>by cases hv),rfl,rfl,rfl⟩ (wk [1,0] (fr (Yd fl))) ?_)))
 rintro m F h ⟨k,os,u,Yj,Zl,Zy,rfl,rfl,rfl⟩
 refine Yl 3 [0] (iw (Yf rt.params) (Y5 ((k:Int)<(rt.params.length:Int)) (fun Za=>?_) (fun Za=>?_)))
 ·refine ak (aq (ab 1 (Zw 3 [0] ?_)))
  obtain ⟨x1,Z3⟩:=Zs rt.params k om
  refine Zo (Zj none (k:Int) 1 (Y3 Z3)) (Xv [1,3,4] [(25,.b ((x1 != 0)&&(!(decide ((k:Int)∈rt.lent)))))] (fun gz=>gz) ?_ ?_)
  ·refine Z2 3 (ib (b:=(x1 != 0)) 19 (fun Zb=>?_) (fun Zb=>?_))
   ·exact ZO 3 [0] (Zz [] (T1 rt.lent (k:Int)) (Z0 (wk [0,0] (Zt (!(decide ((k:Int)∈rt.lent))) Zb fl))))
   exact Z0 (wk [0,0] (Zt false Zb fl))
  refine ac ((x1 != 0)&&(!(decide ((k:Int)∈rt.lent)))) (p:=(x1≠0)/\(¬((k:Int)∈rt.lent))) (YL Ym (YA dq)) (fun Zg=>?_) (fun Zg=>?_)
  ·exact az (Z2 2 (iL (Z7 [(k:Int)]) 1 1 fun v2=>ZU 0 [(28,Z5 [(k:Int)])] (ip 2 (Z7 (os++[(k:Int)])) (Z7 os) (Z7 [(k:Int)]) u none 1 (YC _) (YC _) (We _) (by simp<;>omega) (by simp [Wd,Z7]) fun v3=>Z0 (az (Z2 1 (ZJ k (Z0 (ZK ⟨k+1,(os++[(k:Int)]),v3,ob,ob,(by first|exact Zy|exact XJ Zy om),rfl,rfl,rfl⟩ (wk [2,0] (fr (ZM k fl)))))))))))
  exact ak (az (Z2 1 (ZJ k (Z0 (ZK ⟨k+1,os,u,ob,ob,(by first|exact Zy|exact XJ Zy om),rfl,rfl,rfl⟩ (wk [0,0] (fr (ZM k fl))))))))
 exact ax 0 (ar (Zr (r2 [] [ZQ os u] ⟨os,rfl,rfl,⟨by omega,Zy⟩⟩ (Ze.forget _ _))))
theorem Z7v (n:Zi) (qz:Nat) (hn:FO n qz V1:=by exact ob) (hqz:qz<=181:=by exact ob):Zk 86 [Yq n] [] (fun r h=>∃(n2:Zi),r=Yq n2/\h=[]/\FO n2 (60*qz) VM):=by
 have hnl:=hn.fn.len
 have XB:=hn.fn.decls.ok
 have hok:=hn.fn.ok
 refine ZF 39 Tryz.func86 (ar (iA (YU n) fun b1=>iA [nl,nl] fun b2=>ie (Zw 2 [1] (Zz [] (Cj n.decls) (iL (YQ []) 0 5 fun v1=>Z2 1 (iA [nl,nl] fun b3=>?_))))))
 refine ZI 0 b3 [ZT n.decls,WT [] v1] (ie (Yi (ab 0 (Y6 (fun fz gz m F h=>∃(k:Nat) (rs:List Y8) (u:Value),(k<=n.routines.length)/\(rs.length=k)/\(∀r∈rs,RF n.decls n.routines.length (60*qz) VM r)/\F=sF [1,2,3] fz [(4,.i k)]/\h=[.obj b3 [ZT n.decls,WT rs u],Zc gz 2,Zc gz 3,.tail u 5]/\m=n.routines.length-k) _ _ _ ⟨0,[],v1,ob,ob,(fun r hr=>by cases hr),rfl,rfl,rfl⟩ (wk [0,1,1,0] (Yd fl)) ?_))))
 rintro m F h ⟨k,rs,u,Yj,Zl,Zy,rfl,rfl,rfl⟩
 refine Yl 3 [2] (iw (Ur n.routines) (Y5 ((k:Int)<(n.routines.length:Int)) (fun Za=>?_) (fun Za=>?_)))
 ·refine ak (aq (ab 1 (Zw 3 [2] ?_)))
  obtain ⟨x1,Z3⟩:=Zs n.routines k om
  have hrf:=hn.rf (ZW Z3)
  have hrp:(x1).params.length<=3:=(TC.bd (f:=⟨(x1).params,(x1).result,default⟩) hrf.sig).1
  have hrl:=hrf.lent.1
  have hrz:=hrf.body.2
  refine Zo (Zj none (k:Int) 5 (Wv Z3)) (Z2 1 (iA [nl,nl,.i 0,nl,.i 0] fun b4=>ZI 0 b4 (KH x1) (ie (aE 16 (ZH 7 16 [0,1,2,3,4,5,6,7,8] [1,0,3,0,0,0] (Z9 9 (dc 9 [] [0,0,3,0,1] [b4,b4,b1,b4,b3] (Z8g x1) ?_)))))))
  rintro _ _ ⟨os1,rfl,rfl,ZX⟩
  have hop:=ZX
  refine Z9 10 (dc 10 [] [0,1] [b4,b3] (Z7w n x1.params x1.body os1 _ (hf:=hrf.body.1) (hop:=hrf.op) (hul:=rfl) (hmr:=hop.2)) ?_)
  rintro _ _ ⟨y1,rfl,rfl,Yk⟩
  have hkb0:=Yk
  have hkb:=hkb0.le (z2:=60*qz) om
  exact Z9 11 (Yo 11 [] [1] [b3] (Do x1 y1 (hp:=om) (hl:=om)) (Z9 12 (dL 12 [1] [b3] (YQ [Y8.mk x1.params x1.lent x1.result y1]) 1 5 fun v2=>Yw 3 3 [] [(35,KJ [Y8.mk x1.params x1.lent x1.result y1])] (Z9 13 (dp 13 5 [] [] (YQ (rs++[Y8.mk x1.params x1.lent x1.result y1])) (YQ rs) (YQ [Y8.mk x1.params x1.lent x1.result y1]) u none 5 (UV _) (UV _) (B9 _) (by simp<;>omega) (by simp [BX,YQ]) fun v3=>Zm 1 2 [14] (Z9 15 (YK 15 3 [] [] b3 [ZT n.decls,WT (rs++[Y8.mk x1.params x1.lent x1.result y1]) v3] (de (az (Z2 1 (ZJ k (Z0 (ZK ⟨k+1,(rs++[Y8.mk x1.params x1.lent x1.result y1]),v3,ob,ob,(XJ Zy (by first|exact hrf.with hkb.fb hkb.sz hkb.op|(rw [Z6.eta];exact hrf.with hkb.fb hkb.sz hkb.op))),rfl,rfl,rfl⟩ (wk [0,3,3,0] (ZM k fl)))))))))))))))
 exact ax 0 (Zw 1 [0] (ZI 1 b2 [ZT n.decls,WT rs u] (ie (ZD (r3 [] [.agg [ZT n.decls,WT rs u]] [0] [(b2,b2)] ⟨(Zi.mk n.decls rs),rfl,rfl,(FO.fin hn.fn om Zy).1⟩ (Ze.agg (.cons (lr _) (.cons (Ze.forget _ _) .nil))))))))
theorem SZ (s:Z4) :Zk 224 [YI s] [] (Ys (.b ((s.op==14)||(s.op==15)))):=by
 refine ZF 11 Tryz.func224 (ar (iA (XG s) fun b1=>Z0 (ar (XU 8 [] [(10,.b ((s.op==14)||(s.op==15)))] (fun gz=>gz) ?_ (fun hj1=>?_)))))
 ·exact Zr (Dr)
 refine ZO 4 [0] (ib (b:=(s.op==14)) 6 (fun Zb=>?_) (fun Zb=>?_))
 ·exact Z2 4 (YB (wk [0] (Zt true Zb fl)) hj1)
 exact ZO 4 [0] (YB (wk [0] (Zt (s.op==15) Zb fl)) hj1)
theorem Z8v (rn:List Z4) (hrn:∀s∈rn,∃a,s.args=[a]) (hl:rn.length<=100000000:=by exact ob):Zk 267 [Wz rn] [] (fun r h=>∃(vs:LI),r=Z5 vs/\h=[]/\BP vs/\vs.length<=rn.length/\∀v∈vs,∃s∈rn,s.args=[v]):=by
 refine ZF 22 Tryz.func267 (ZE (ar (iL (Z7 []) 0 1 fun v1=>?_)))
 refine Z0 (Yi (ab 0 (Y6 (fun fz gz m F h=>∃(k:Nat) (vs:LI),(k<=rn.length)/\(vs.length<=k)/\(BP vs)/\(∀v∈vs,∃s∈rn,s.args=[v])/\F=sF [0] fz [(3,Z5 vs),(4,.i k)]/\h=[]/\m=rn.length-k) _ _ _ ⟨0,[],ob,ob,List.Pairwise.nil,(fun v hv=>by cases hv),rfl,rfl,rfl⟩ (wk [] (fc (x:=ZQ [] v1) (Ze.forget _ _) (Yd fl))) ?_)))
 rintro m F h ⟨k,vs,Yj,Zl,Zy,Yv,rfl,rfl,rfl⟩
 refine YO 2 (iw (VO rn) (Y5 ((k:Int)<(rn.length:Int)) (fun Za=>?_) (fun Za=>?_)))
 ·refine ak (aq (ab 1 (az (Z2 3 ?_))))
  obtain ⟨x1,Z3⟩:=Zs rn k om
  have hxm:=ZW Z3
  obtain ⟨xa,hxa⟩:=hrn _ hxm
  refine Zo (Zj none (k:Int) 5 (V2 Z3)) (Z2 2 ?_)
  obtain ⟨x2,Zx⟩:=Zs x1.args 0 (by rw [hxa];simp)
  have hxe:x1.args=[x2]:=by have h:=Zx;rw [hxa] at h;rw [hxa];simpa using h
  refine Zo (Zj none 0 1 (Y3 Zx)) (Z2 1 (ic [] (E3 vs x2) ?_))
  rintro _ _ ⟨v2,rfl,rfl⟩
  exact Z0 (az (Z2 1 (ZJ k (Z0 (ZK ⟨k+1,(Us vs x2),ob,(by have:=D3 vs x2;omega),(Pn Zy),(fun v hv=>(Ea.1 hv).elim (Yv v) (fun e=>⟨x1,hxm,by rw [e];exact hxe⟩)),rfl,rfl,rfl⟩ (wk [] (fc (x:=ZQ (Us vs x2) v2) (Ze.forget _ _) (ZM k fl))))))))
 exact ax 0 (ar (Zr (r1 [] ⟨vs,rfl,rfl,⟨Zy,by omega,Yv⟩⟩)))
theorem Z88 (rn:List Z4) (v:Int) (hrn:∀s∈rn,∃a,s.args=[a]) (hl:rn.length<=100000000:=by exact ob):Zk 268 [Wz rn,.i v] [] (fun r h=>∃(z:Int),r=.i z/\h=[]/\-((VX rn v:Nat):Int)<=z/\z<=((VX rn v:Nat):Int)):=by
 refine ZF 44 Tryz.func268 (ZE (ZE (Yi (ab 0 (Y6 (fun fz gz m F h=>∃(k:Nat) (z:Int),(k<=rn.length)/\(-((VX (rn.take k) v:Nat):Int)<=z/\z<=((VX (rn.take k) v:Nat):Int))/\F=sF [0,1] fz [(5,.i z),(6,.i k)]/\h=gz/\m=rn.length-k) _ _ _ ⟨0,0,ob,(by simp [VX]),rfl,rfl,rfl⟩ (wk [] (fr (Yd fl))) ?_)))))
 rintro m F h ⟨k,z,Yj,Zl,rfl,rfl,rfl⟩
 refine YO 2 (iw (VO rn) (Y5 ((k:Int)<(rn.length:Int)) (fun Za=>?_) (fun Za=>?_)))
 ·refine ak (aq (ab 1 (Ya 2 ?_)))
  obtain ⟨x1,Z3⟩:=Zs rn k om
  have hxm:=ZW Z3
  obtain ⟨xa,hxa⟩:=hrn _ hxm
  have hct:=Z44 Z3 v
  have hcl:=Z45 rn (k+1) v
  have hcm:=NI rn v
  refine Zo (Zj none (k:Int) 5 (V2 Z3)) (Z2 2 ?_)
  obtain ⟨x2,Zx⟩:=Zs x1.args 0 (by rw [hxa];simp)
  have hg0:=JB Zx
  rw [hg0] at hct
  refine Zo (Zj none 0 1 (Y3 Zx)) (Xv [0,1,5,6] [(29,.b ((x2==v)&&(x1.op==14)))] (fun gz=>gz) ?_ ?_)
  ·refine Z2 4 (ib (b:=(x2==v)) 22 (fun Zb=>?_) (fun Zb=>?_))
   ·exact Z2 2 (Zo (Zj none (k:Int) 5 (V2 Z3)) (Z0 (wk [] (Zt (x1.op==14) Zb fl))))
   exact Z0 (wk [] (Zt false Zb fl))
  refine ac ((x2==v)&&(x1.op==14)) (p:=(x2=v)/\(x1.op=14)) (YL Zq Zq) (fun Zg=>?_) (fun Zg=>?_)
  ·exact az (Z2 1 (ia ((z+1)) ((z)+(1)) (Z0 (az (Z2 1 (ZJ k (Z0 (ZK ⟨k+1,(z+1),ob,(by first|(rw [hct,Zd om];omega)|(rw [hct,Z8 om];omega)),rfl,rfl,rfl⟩ (wk [] (fr (ZM k fl)))))))))))
  refine Ya 2 (Zo (Zj none (k:Int) 5 (V2 Z3)) (Z2 2 (Zo (Zj none 0 1 (Y3 Zx)) (YH (x2==v) Zq (fun ZC=>?_) (fun ZC=>?_)))))
  ·exact az (Z2 1 (ia ((z-1)) ((z)-(1)) (Z0 (az (Z2 1 (ZJ k (Z0 (ZK ⟨k+1,(z-1),ob,(by first|(rw [hct,Zd om];omega)|(rw [hct,Z8 om];omega)),rfl,rfl,rfl⟩ (wk [] (fr (ZM k fl)))))))))))
  exact ak (az (Z2 1 (ZJ k (Z0 (ZK ⟨k+1,z,ob,(by first|(rw [hct,Zd om];omega)|(rw [hct,Z8 om];omega)),rfl,rfl,rfl⟩ (wk [] (fr (ZM k fl))))))))
 exact ax 0 (ar (Zr (r1 [] ⟨z,rfl,rfl,(by have e:=Zl;rw [Vt om] at e;exact e)⟩)))
theorem OV (rn:List Z4) (hrn:∀s∈rn,∃a,s.args=[a]) (hl:rn.length<=100000000:=by exact ob):Zk 225 [Wz rn] [] (fun r h=>∃(D:LI) (R:LI) (v:Value),r=X4 (D.map (Zu 14)++R.map (Zu 15)) v/\h=[.tail v 5]/\D.length+R.length<=rn.length/\(∀v∈D,∃s∈rn,s.args=[v])/\∀v∈R,∃s∈rn,s.args=[v]):=by
 refine ZF 51 Tryz.func225 (ZE (ar (iL (Z7 []) 0 1 fun v1=>Z0 (ar (iL (Z7 []) 0 1 fun v2=>Z0 (Ya 1 (ic [] (Z8v rn (hrn:=ob)) ?_)))))))
 rintro _ _ ⟨vs1,rfl,rfl,ZX⟩
 have hvo:=ZX
 have hsl:=Z0t rn hvo.1
 refine Z0 (Yi (ab 0 (Y6 (fun fz gz m F h=>∃(k:Nat) (D:LI) (u:Value) (R:LI) (w:Value),(k<=vs1.length)/\(D.length+R.length<=VL rn (vs1.take k))/\(∀v∈D,v∈vs1)/\(∀v∈R,v∈vs1)/\F=sF [0,5] fz [(3,ZQ D u),(4,ZQ R w),(6,.i k)]/\h=[.tail u 1,.tail w 1]/\m=vs1.length-k) _ _ _ ⟨0,[],v1,[],v2,ob,(by simp [VL]),(fun v hv=>by cases hv),(fun v hv=>by cases hv),rfl,rfl,rfl⟩ (wk [1,0] (fw (Yd fl))) ?_)))
 rintro m F h ⟨k,D,u,R,w,Yj,Zl,Zy,Yv,rfl,rfl,rfl⟩
 refine YO 2 (iw (Yf vs1) (Y5 ((k:Int)<(vs1.length:Int)) (fun Za=>?_) (fun Za=>?_)))
 ·refine ak (aq (ab 1 (Ya 3 ?_)))
  obtain ⟨x1,Z3⟩:=Zs vs1 k om
  have hst:=Zh5 (rn:=rn) Z3
  have hsk:=Mu rn vs1 (k+1)
  have hxm:=ZW Z3
  refine Zo (Zj none (k:Int) 1 (Y3 Z3)) (Z2 1 (ic [] (Z88 rn x1 (hrn:=ob)) ?_))
  rintro _ _ ⟨z1,rfl,rfl,Yk⟩
  have hnt:=Yk
  refine Z0 (aq (ab 2 (Y6 (fun fz gz m F h=>∃(z:Int) (D2:LI) (u2:Value) (w2:Value),((D2.length:Int)+(R.length:Int)+z<=((VL rn (vs1.take k):Nat):Int)+((VX rn x1:Nat):Int))/\((D2.length:Int)+(R.length:Int)-z<=((VL rn (vs1.take k):Nat):Int)+((VX rn x1:Nat):Int))/\(∀v∈D2,v∈vs1)/\F=sF [0,5,6] fz [(3,ZQ D2 u2),(4,ZQ R w2),(7,.i z)]/\h=[.tail u2 1,.tail w2 1]/\m=z.toNat) _ _ _ ⟨z1,D,u,w,om,om,Zy,rfl,rfl,rfl⟩ (wk [0,0] fl) ?_)))
  rintro m F h ⟨z,D2,u2,w2,Up,Wa,XZ,rfl,rfl,rfl⟩
  refine X9 (Y5 (z>0) (fun Zg=>?_) (fun Zg=>?_))
  ·exact ak (aq (ab 3 (az (Z2 3 (Zo (Zj none (k:Int) 1 (Y3 Z3)) (Z2 1 (iL (Z7 [x1]) 1 1 fun v3=>ZU 0 [(33,Z5 [x1])] (ip 1 (Z7 (D2++[x1])) (Z7 D2) (Z7 [x1]) u2 none 1 (YC _) (YC _) (We _) (by simp<;>omega) (by simp [Wd,Z7]) fun v4=>Z0 (az (Z2 1 (ia ((z-1)) ((z)-(1)) (Z0 (ZK ⟨(z-1),(D2++[x1]),v4,w2,(by simp only [Yt,YT,XA];omega),(by simp only [Yt,YT,XA];omega),(XJ XZ hxm),rfl,rfl,rfl⟩ (wk [0,1] fl))))))))))))))
  refine ax 2 (ab 4 (Y6 (fun fz gz m F h=>∃(y:Int) (R2:LI) (u3:Value) (w3:Value),((D2.length:Int)+(R2.length:Int)+y<=((VL rn (vs1.take k):Nat):Int)+((VX rn x1:Nat):Int))/\((D2.length:Int)+(R2.length:Int)-y<=((VL rn (vs1.take k):Nat):Int)+((VX rn x1:Nat):Int))/\(∀v∈R2,v∈vs1)/\F=sF [0,5,6] fz [(3,ZQ D2 u3),(4,ZQ R2 w3),(7,.i y)]/\h=[.tail u3 1,.tail w3 1]/\m=(-y).toNat) _ _ _ ⟨z,R,u2,w2,ob,ob,Yv,rfl,rfl,rfl⟩ (wk [0,0] fl) ?_))
  rintro m F h ⟨y,R2,u3,w3,ND,Fe,NE,rfl,rfl,rfl⟩
  refine X9 (Y5 (y<0) (fun ZC=>?_) (fun ZC=>?_))
  ·exact ak (aq (ab 5 (az (Z2 3 (Zo (Zj none (k:Int) 1 (Y3 Z3)) (Z2 1 (iL (Z7 [x1]) 1 1 fun v5=>ZU 0 [(44,Z5 [x1])] (ip 2 (Z7 (R2++[x1])) (Z7 R2) (Z7 [x1]) w3 none 1 (YC _) (YC _) (We _) (by simp<;>omega) (by simp [Wd,Z7]) fun v6=>Z0 (az (Z2 1 (ia ((y+1)) ((y)+(1)) (Z0 (ZK ⟨(y+1),(R2++[x1]),u3,v6,(by simp only [Yt,YT,XA];omega),(by simp only [Yt,YT,XA];omega),(XJ NE hxm),rfl,rfl,rfl⟩ (wk [2,0] fl))))))))))))))
  exact ax 4 (az (Z2 1 (ZJ k (Z0 (ZK ⟨k+1,D2,u3,R2,w3,ob,(by rw [hst];omega),XZ,NE,rfl,rfl,rfl⟩ (wk [0,0] (fw (ZM k fl))))))))
 have Xr:=Mu rn vs1 k
 refine ax 0 (ar (ZU 1 [(46,Z5 D)] (ic [] (KO 14 D) ?_)))
 rintro _ _ ⟨v7,rfl,rfl⟩
 refine ZU 1 [(48,Z5 R)] (ic [] (KO 15 R) ?_)
 rintro _ _ ⟨v8,rfl,rfl⟩
 exact ZU 0 [(49,Wz (R.map (Zu 15)))] (ip 1 (Zv ((D.map (Zu 14))++(R.map (Zu 15)))) (Zv (D.map (Zu 14))) (Zv (R.map (Zu 15))) v7 none 5 (Xe _) (Xe _) (VP _) (by simp<;>omega) (by simp [WW,Zv]) fun v9=>Zr (r2 [0] [X4 ((D.map (Zu 14))++(R.map (Zu 15))) v9] ⟨_,_,v9,rfl,rfl,⟨by have:=Mu rn vs1 k;omega,fun v hv=>hvo.2.2 v (Zy v hv),fun v hv=>hvo.2.2 v (Yv v hv)⟩⟩ (Ze.slh _ (Yp Zv ob))))
theorem Z78 (ds:List Zf) (nf:Nat) (b:Z6) (mm:Nat) (hf:fB ds nf mm b) (hop:VB VM b) (hz:b.sz<=100000000) (ih:∀(b2:Z6) (m2:Nat),(fB ds nf m2 b2)->(VB VM b2)->(b2.sz<=100000000)->(b2.sz<b.sz)->Zk 179 [ZZ b2] [] (fun r h=>∃(y:Z6),r=ZZ y/\h=[]/\KB ds nf m2 y b2.sz)):Zk 179 [ZZ b] [] (fun r h=>∃(y:Z6),r=ZZ y/\h=[]/\KB ds nf mm y b.sz):=by
 have hbe:=b.sz_eq
 have ZL:=Uk b
 obtain ⟨hfs,hr1,hr2⟩:=(DX b).1 hf
 have hos:=Ce.1 ((Gu b).1 hop)
 refine ZF 72 Tryz.func179 (ar (iA (Xm b) fun b1=>iA [nl,.i 0] fun b2=>ie (ar (iL (Zv []) 0 5 fun v1=>Z0 (ar (iL (Zv []) 0 5 fun v2=>?_))))))
 refine Z0 (Yi (ab 0 (Y6 (fun fz gz m F h=>∃(k:Nat) (xs:List Z4) (v:Value) (rn:List Z4) (u:Value) (z0:Nat),(k<=b.steps.length)/\(CL ds nf mm xs (X5 (b.steps.take k)) z0)/\(z0+2*rn.length<=Yb (b.steps.take k))/\(MP (mm+(X5 (b.steps.take k))) rn)/\F=sF [1,2] fz [(3,X4 xs v),(4,X4 rn u),(5,.i k)]/\h=[Zc gz 2,Zc gz 3,.tail u 5,.tail v 5]/\m=b.steps.length-k) _ _ _ ⟨0,[],v1,[],v2,0,ob,CL.nil,(by simp [Yb]),(fun s hs=>by cases hs),rfl,rfl,rfl⟩ (wk [2,2,0,0] (fw (Yd fl))) ?_)))
 rintro m F h ⟨k,xs,v,rn,u,z0,Yj,Zl,Zy,Yv,rfl,rfl,rfl⟩
 refine Yl 3 [1] (iw (VO b.steps) (Y5 ((k:Int)<(b.steps.length:Int)) (fun Za=>?_) (fun Za=>?_)))
 ·refine ak (aq (ab 1 (Zw 3 [1] ?_)))
  obtain ⟨x1,Z3⟩:=Zs b.steps k om
  have Xr:=Ck Z3
  have hfS:=(FD x1).1 (DZ hfs Z3)
  have hoS:=(Eo x1).1 (hos x1 (ZW Z3))
  have htk:=Mr Z3
  have htl:=QO b.steps (k+1)
  have hse:=(x1).sz_eq
  have hdt:=O7 Z3
  have hxl:=Zl.len
  have hkl2:=Fb (x1).kids
  refine Zo (Zj none (k:Int) 5 (V2 Z3)) (Z2 1 (iA [.i 0,.i 0,.i 0,nl,nl] fun b3=>ZI 0 b3 (XG x1) (ie (Zw 1 [0] (Zz [] (SZ x1) (ie (ac ((x1.op==14)||(x1.op==15)) (p:=(x1.op=14)∨(x1.op=15)) (Yr Zq Zq) (fun Zg=>?_) (fun Zg=>?_))))))))
  ·refine az (ZO 2 [0] (UX [YI x1] (Zv [x1]) (Vx [x1]).symm 1 5 fun v3=>ZU 0 [(27,Wz [x1])] (ip 4 (Zv (rn++[x1])) (Zv rn) (Zv [x1]) u none 5 (Xe _) (Xe _) (VP _) (by simp<;>omega) (by simp [WW,Zv]) fun v4=>Z0 (az (Z2 1 (ZJ k (Z0 ?_)))))))
   obtain ⟨⟨pa,hpa,hpr⟩,Yk,hpc⟩:=hfS.pair (by assumption)
   rw [Zd hpc,Cs] at hdt
   exact ZK ⟨k+1,xs,v,(rn++[x1]),v4,_,ob,(by rw [hdt];exact Zl),(by rw [htk];simp only [Yt,YT,XA];omega),(by rw [hdt];exact XJ Yv ⟨pa,hpa,hpr⟩),rfl,rfl,rfl⟩ (wk [3,3,0,2] (fw (ZM k fl)))
  refine ar (ZU 2 [(30,Wz rn)] (ic [] (OV rn (hrn:=(fun s hs=>(Yv s hs).elim fun a h=>⟨a,h.1⟩))) ?_))
  rintro _ _ ⟨D1,R1,v5,rfl,rfl,ZX⟩
  have hsr:=ZX
  have hq1:=Zl.run Yv hsr.2.1 hsr.2.2
  have hl1:=Zl.len
  have htl1:=QO b.steps k
  refine ZU 0 [(31,Wz (D1.map (Zu 14)++R1.map (Zu 15)))] (ip 5 (Zv (xs++(D1.map (Zu 14)++R1.map (Zu 15)))) (Zv xs) (Zv (D1.map (Zu 14)++R1.map (Zu 15))) v none 5 (Xe _) (Xe _) (VP _) (by simp<;>omega) (by simp [WW,Zv]) fun v6=>Z0 (ar (iL (Zv []) 0 5 fun v7=>Z0 (ar (iL (YM []) 0 2 fun v8=>?_)))))
  refine Z0 (Yi (ab 2 (Y6 (fun fz gz m F h=>∃(j:Nat) (ks:List Z6) (w:Value) (v3:Value) (u4:Value),(j<=x1.kids.length)/\(ks.length=j)/\(KK ds nf (T0 ds x1.op x1.num (mm+(X5 (b.steps.take k)))) ks (Xc (x1.kids.take j)))/\F=sF [1,2,5,6] fz [(3,X4 (xs++(D1.map (Zu 14)++R1.map (Zu 15))) v3),(4,X4 [] u4),(7,Ty ks w),(8,.i j)]/\h=[Zc gz 4,Zc gz 5,Zc gz 6,.tail u4 5,.tail v3 5,.tail w 2]/\m=x1.kids.length-j) _ _ _ ⟨0,[],v8,v6,v7,ob,ob,(KK.nil.le (Ku _)),rfl,rfl,rfl⟩ (wk [4,4,4,1,1,0] (fw (fr (Yd fl)))) ?_)))
  rintro m F h ⟨j,ks,w,v3,u4,Up,Wa,XZ,rfl,rfl,rfl⟩
  refine Yl 3 [0] (iw (Uy x1.kids) (Y5 ((j:Int)<(x1.kids.length:Int)) (fun ZC=>?_) (fun ZC=>?_)))
  ·refine ak (aq (ab 3 (az (ZO 4 [0] ?_))))
   obtain ⟨x2,Zx⟩:=Zs x1.kids j om
   have hkz:=Tx Zx
   have hfk:=DY hfS.kids Zx
   rw [Vu] at hfk
   have hok:=Df.1 hoS.2 x2 (ZW Zx)
   have hbt:=Fc Zx
   refine Zo (Zj none (j:Int) 2 (T9 Zx)) (Z2 1 (ic [] (ih x2 (T0 ds x1.op x1.num (mm+(X5 (b.steps.take k))) j) hfk hok ob ob) ?_))
   rintro _ _ ⟨y1,rfl,rfl,Yk⟩
   have hkb:=Yk
   exact UX [ZZ y1] (YM [y1]) (Tp [y1]).symm 1 2 fun v9=>ZU 0 [(49,Wb [y1])] (ip 6 (YM (ks++[y1])) (YM ks) (YM [y1]) w none 2 (Q4 _) (Q4 _) (Ft _) (by simp<;>omega) (by simp [An,YM]) fun v10=>Z0 (az (Z2 1 (ZJ j (Z0 (ZK ⟨j+1,(ks++[y1]),v10,v3,u4,ob,ob,((XZ.snoc Wa hkb).le om),rfl,rfl,rfl⟩ (wk [2,2,2,2,2,0] (fw (fr (ZM j fl))))))))))
  refine ax 2 (aE 15 (ZH 5 15 [0,1,2,3,4,5,6,7,8,10] [0,0,0,0] (Z9 9 (dc 9 [] [0,0,0] [b3,b3,b3] (UD x1.args) ?_))))
  rintro _ _ ⟨v11,rfl,rfl⟩
  refine Yw 3 4 [11] [(62,.agg [.i x1.op,.i x1.num,.i x1.into,Z5 x1.args,Wb ks])] (Z9 12 (WK 12 [] [] [YI (Z4.mk x1.op x1.num x1.into x1.args ks)] (Zv [Z4.mk x1.op x1.num x1.into x1.args ks]) (Vx [Z4.mk x1.op x1.num x1.into x1.args ks]).symm 1 5 fun v12=>Yw 2 2 [] [(63,Wz [Z4.mk x1.op x1.num x1.into x1.args ks])] (Z9 13 (dp 13 6 [] [] (Zv ((xs++(D1.map (Zu 14)++R1.map (Zu 15)))++[Z4.mk x1.op x1.num x1.into x1.args ks])) (Zv (xs++(D1.map (Zu 14)++R1.map (Zu 15)))) (Zv [Z4.mk x1.op x1.num x1.into x1.args ks]) v3 none 5 (Xe _) (Xe _) (VP _) (by simp<;>omega) (by simp [WW,Zv]) fun v13=>Zm 0 1 [14] (de (az (Z2 1 (ZJ k (Z0 ?_)))))))))
  obtain ⟨hn1,hn2⟩:=hfS.not_pair (by assumption) hoS.1
  rw [Z8 (by rw [hn2];simp)] at hdt
  have hbj:=HO (xs:=x1.kids) (k:=j) om
  have hkt:=KT.eq hfS hn1 om XZ
  have hq2:=hq1.kt hkt
  exact ZK ⟨k+1,((xs++(D1.map (Zu 14)++R1.map (Zu 15)))++[Z4.mk x1.op x1.num x1.into x1.args ks]),v13,[],u4,_,ob,(by rw [hdt];exact hq2),(by rw [htk];simp only [XA];omega),(fun s hs=>by cases hs),rfl,rfl,rfl⟩ (wk [4,4,4,0] (fw (ZM k fl)))
 have htl2:=QO b.steps k
 have hxl2:=Zl.len
 refine ax 0 (aD 8 (CC 4 8 [0,1,4,5] [(66,Wz rn)] [1] (Z9 2 (dc 2 [] [1] [b1] (OV rn (hrn:=(fun s hs=>(Yv s hs).elim fun a h=>⟨a,h.1⟩))) ?_))))
 rintro _ _ ⟨D2,R2,v14,rfl,rfl,YG⟩
 have hsr:=YG
 have hq1:=Zl.run Yv hsr.2.1 hsr.2.2
 have hl1:=Zl.len
 have htl1:=QO b.steps k
 exact Yw 3 3 [] [(67,Wz (D2.map (Zu 14)++R2.map (Zu 15)))] (Z9 3 (dp 3 4 [1] [b1] (Zv (xs++(D2.map (Zu 14)++R2.map (Zu 15)))) (Zv xs) (Zv (D2.map (Zu 14)++R2.map (Zu 15))) v none 5 (Xe _) (Xe _) (VP _) (by simp<;>omega) (by simp [WW,Zv]) fun v15=>Zm 1 2 [6] (Z9 7 (YK 7 2 [] [] b2 [X4 (xs++(D2.map (Zu 14)++R2.map (Zu 15))) v15,.i b.result] (de (ZD (r3 [] [.agg [X4 (xs++(D2.map (Zu 14)++R2.map (Zu 15))) v15,.i b.result]] [0] [(b2,b2)] ⟨(Z6.mk (xs++(D2.map (Zu 14)++R2.map (Zu 15))) b.result),rfl,rfl,(by have e:b.steps.take k=b.steps:=Vt om;rw [e] at Zy hq1;exact (hq1.block ⟨hr1,hr2⟩).le om)⟩ (Ze.agg (.cons (Ze.forget _ _) (.cons (lr _) .nil))))))))))
theorem Z77 (ds:List Zf) (nf:Nat) (b:Z6) (mm:Nat) (hf:fB ds nf mm b:=by exact ob) (hop:VB VM b:=by exact ob) (hz:b.sz<=100000000:=by exact ob):Zk 179 [ZZ b] [] (fun r h=>∃(y:Z6),r=ZZ y/\h=[]/\KB ds nf mm y b.sz):=by
 have key:∀k:Nat,∀(b2:Z6) (m2:Nat),(fB ds nf m2 b2)->(VB VM b2)->(b2.sz<=100000000)->(b2.sz<k)->Zk 179 [ZZ b2] [] (fun r h=>∃(y:Z6),r=ZZ y/\h=[]/\KB ds nf m2 y b2.sz):=by
  intro k
  induction k with
  | zero=>intro b2 m2 h1 h2 h3 h9;omega
  | succ k ih=>intro b2 m2 h1 h2 h3 h9;exact Z78 ds nf b2 m2 h1 h2 h3 fun b3 m3 q1 q2 q3 q9=>ih b3 m3 q1 q2 q3 om
 exact key (b.sz+1) b mm hf hop hz om
theorem Z79 (n:Zi) (qz:Nat) (hn:FO n qz VM:=by exact ob) (hqz:qz<=10000000:=by exact ob):Zk 126 [Yq n] [] (fun r h=>∃(n2:Zi),r=Yq n2/\h=[]/\FO n2 qz VM):=by
 have hnl:=hn.fn.len
 have XB:=hn.fn.decls.ok
 have hok:=hn.fn.ok
 refine ZF 36 Tryz.func126 (ar (iA (YU n) fun b1=>iA [nl,nl] fun b2=>ie (Zw 2 [1] (Zz [] (Cj n.decls) (iL (YQ []) 0 5 fun v1=>Z2 1 (iA [nl,nl] fun b3=>?_))))))
 refine ZI 0 b3 [ZT n.decls,WT [] v1] (ie (Yi (ab 0 (Y6 (fun fz gz m F h=>∃(k:Nat) (rs:List Y8) (u:Value),(k<=n.routines.length)/\(rs.length=k)/\(∀r∈rs,RF n.decls n.routines.length qz VM r)/\F=sF [1,2,3] fz [(4,.i k)]/\h=[.obj b3 [ZT n.decls,WT rs u],Zc gz 2,Zc gz 3,.tail u 5]/\m=n.routines.length-k) _ _ _ ⟨0,[],v1,ob,ob,(fun r hr=>by cases hr),rfl,rfl,rfl⟩ (wk [0,1,1,0] (Yd fl)) ?_))))
 rintro m F h ⟨k,rs,u,Yj,Zl,Zy,rfl,rfl,rfl⟩
 refine Yl 3 [2] (iw (Ur n.routines) (Y5 ((k:Int)<(n.routines.length:Int)) (fun Za=>?_) (fun Za=>?_)))
 ·refine ak (aq (ab 1 (aE 19 (ZH 14 19 [0,1,2,3,4] [0,2] ?_))))
  obtain ⟨x1,Z3⟩:=Zs n.routines k om
  have hrf:=hn.rf (ZW Z3)
  have hrp:(x1).params.length<=3:=(TC.bd (f:=⟨(x1).params,(x1).result,default⟩) hrf.sig).1
  have hrl:=hrf.lent.1
  have hrz:=hrf.body.2
  refine dx 5 (Zj none (k:Int) 5 (Wv Z3)) (ZH 9 13 [6,7,8,9] [2] (dx 10 (Zj none (k:Int) 5 (Wv Z3)) (Zm 6 8 [11,12] (Z9 13 (dc 13 [] [2,0] [b1,b3] (Z77 n.decls n.routines.length x1.body _ (hf:=hrf.body.1) (hop:=hrf.op)) ?_)))))
  rintro _ _ ⟨y1,rfl,rfl,ZX⟩
  have hkb0:=ZX
  have hkb:=hkb0.le (z2:=qz) hrz
  exact Z9 14 (Yo 14 [] [0] [b3] (Do x1 y1 (hp:=om) (hl:=om)) (Z9 15 (dL 15 [0] [b3] (YQ [Y8.mk x1.params x1.lent x1.result y1]) 1 5 fun v2=>Yw 3 3 [] [(32,KJ [Y8.mk x1.params x1.lent x1.result y1])] (Z9 16 (dp 16 4 [] [] (YQ (rs++[Y8.mk x1.params x1.lent x1.result y1])) (YQ rs) (YQ [Y8.mk x1.params x1.lent x1.result y1]) u none 5 (UV _) (UV _) (B9 _) (by simp<;>omega) (by simp [BX,YQ]) fun v3=>Zm 1 2 [17] (Z9 18 (YK 18 2 [] [] b3 [ZT n.decls,WT (rs++[Y8.mk x1.params x1.lent x1.result y1]) v3] (de (az (Z2 1 (ZJ k (Z0 (ZK ⟨k+1,(rs++[Y8.mk x1.params x1.lent x1.result y1]),v3,ob,ob,(XJ Zy (hrf.with hkb.fb hkb.sz hkb.op)),rfl,rfl,rfl⟩ (wk [0,2,2,0] (ZM k fl)))))))))))))))
 exact ax 0 (Zw 1 [0] (ZI 1 b2 [ZT n.decls,WT rs u] (ie (ZD (r3 [] [.agg [ZT n.decls,WT rs u]] [0] [(b2,b2)] ⟨(Zi.mk n.decls rs),rfl,rfl,(FO.fin hn.fn om Zy).1⟩ (Ze.agg (.cons (lr _) (.cons (Ze.forget _ _) .nil))))))))
theorem R3 (b:Nat) (ga:Hd) (gb:Hd) (gc:Hd) (gd:Hd) (ge:Hd) (gf:Hd) (n:Zi) (s:Z4) (L:Zh) (ln:LI) (q:Int) (i:Nat) (kb0:Z6) (m:LI) (hn:X6 n:=by exact ob) (hk:Xb n.decls L q:=by exact ob) (hf:Af n L.vars s:=by exact ob) (hop:s.op=7∨s.op=8:=by exact ob) (hkb:s.kids[i]? = some kb0:=by exact ob) (harm:(Xu n.decls s.op s.num)[i]? = some m:=by exact ob) (hbt:0<=Xh n (L.vars++m) kb0:=by exact ob) (hb:L.vars.length+4*s.sz<=1000000000:=by exact ob) (hq:0<=q/\q+4*s.sz<=999999990:=by exact ob) (hln:ln.length<=4294967296:=by exact ob) (ih:∀(b2:Z6) (c:Nat) (ra:Hd) (rb:Hd) (rc:Hd) (rd:Hd) (re:Hd) (rf:Hd) (M:Zh) (mm:Nat) (p:Int),(b2.sz<s.sz)->(Xb n.decls M p)->(0<=Xh n M.vars b2)->(mm<=M.vars.length)->(M.vars.length+4*b2.sz<=1000000000)->(0<=p/\p+4*b2.sz<=999999990)->Zk 170 [.p c 0,Yq n,ZZ b2,.i mm] [.obj c [.h ra,.h rb,.h rc,.h rd,.h re,.h rf,Z5 ln],rV ra M.vars,rV rb M.own,rV rc M.par,rV rd M.con,rV re M.fst,rV rf M.tok] (fun r h=>(∃(wa:Hd) (wb:Hd) (wc:Hd) (wd:Hd) (we:Hd) (wf:Hd) (M':Zh),r=.b true/\h=[.obj c [.h wa,.h wb,.h wc,.h wd,.h we,.h wf,Z5 ln],rV wa M'.vars,rV wb M'.own,rV wc M'.par,rV wd M'.con,rV we M'.fst,rV wf M'.tok]/\Wk n ln M mm b2=some M')∨(r=.b false/\h=[]/\Wk n ln M mm b2=none))):Zk 259 [.p b 0,Yq n,YI s,.i i] [.obj b [.h ga,.h gb,.h gc,.h gd,.h ge,.h gf,Z5 ln],rV ga L.vars,rV gb L.own,rV gc L.par,rV gd L.con,rV ge L.fst,rV gf L.tok] (fun r h=>(∃(c:Nat) (wa:Hd) (wb:Hd) (wc:Hd) (wd:Hd) (we:Hd) (wf:Hd) (L':Zh),r=.tup [.p c 0,.b true]/\h=[.obj c [.h wa,.h wb,.h wc,.h wd,.h we,.h wf,Z5 ln],rV wa L'.vars,rV wb L'.own,rV wc L'.par,rV wd L'.con,rV we L'.fst,rV wf L'.tok,.obj b [.h ga,.h gb,.h gc,.h gd,.h ge,.h gf,Z5 ln],rV ga L.vars,rV gb L.own,rV gc L.par,rV gd L.con,rV ge L.fst,rV gf L.tok]/\Wk n ln (WX n.decls L s.op s.num s.args i) L.vars.length kb0=some L')∨(r=.tup [.any,.b false]/\h=[.obj b [.h ga,.h gb,.h gc,.h gd,.h ge,.h gf,Z5 ln],rV ga L.vars,rV gb L.own,rV gc L.par,rV gd L.con,rV ge L.fst,rV gf L.tok]/\Wk n ln (WX n.decls L s.op s.num s.args i) L.vars.length kb0=none)):=by
 obtain ⟨e1,e2,e3,e4,e5⟩:=hk.len
 have XB:=hn.decls
 have hkz:=TK s
 have haz:=QA s
 have hK:=D8 hk hq.1 hf hop harm
 have hm3:=F4 XB harm
 have hkl:=(Xq.1 hkb).1
 have hks:=Tx hkb
 refine ZF 83 Tryz.func259 (ar (iA (YU n) fun b1=>iA (XG s) fun b2=>Z0 (Zw 4 [2] (Zo (KQ 3 ga L.vars) (Z0 (Ya 1 (ic [2,2,2,2,2,2,2] (Zbl b ga gb gc gd ge gf L ln (hlk:=hk.len)) ?_)))))))
 rintro _ _ ⟨c1,wa1,wb1,wc1,wd1,we1,wf1,rfl,rfl⟩
 refine Z0 (X9 (VT [14] (ac (s.op==8) Zq (fun Za=>?_) (fun Za=>?_))))
 ·obtain ⟨x,hxa⟩:=hf.one om
  have ha:s.args[0]? = some x:=by rw [hxa];rfl
  have hx:=hf.args x (by rw [hxa];simp)
  obtain ⟨cc,hcc,hmc⟩:=HJ Za harm
  have hal:=(Xq.1 ha).1
  have hcl:=(Xq.1 hcc).1
  have hm4:=hm3
  rw [hmc] at hm4
  refine Zw 4 [15,14] (ic [] (A3 n.decls s.num) ?_)
  rintro _ _ ⟨v1,rfl,rfl⟩
  refine Z2 1 (Zo (Zj (some v1) (i:Int) 1 (Y3 hcc)) (Z0 (Zw 3 [16] (Zz [] (KN n.decls cc) (Z0 (aD 11 (ZH 5 11 [0,1,2,3,4,5] [1,15] (dx 6 (Zj none 0 1 (Y3 ha)) (Zm 2 4 [7,8] (dx 9 (Wo 5 wd1 L.con x x.toNat (hq:=rfl)) (Z9 10 (JT 10 5 [] [] wd1 L.con x.toNat cc (de (aD 11 (ZH 5 11 [0,1,2,3,4,5] [2,15] (dx 6 (Zj none 0 1 (Y3 ha)) (Zm 2 4 [7,8] (dx 9 (Wo 6 we1 L.fst x x.toNat (hq:=rfl)) (Z9 10 (JT 10 6 [] [] we1 L.fst x.toNat (L.vars.length:Int) (de (ZE (ab 0 (Y6 (fun fz gz m F h=>∃(k:Nat) (L3:Zh) (ka:Hd) (kb:Hd) (kc:Hd) (kd:Hd) (ke:Hd) (kf:Hd),(k<=(ZV n.decls cc).length)/\(Wq L3)/\(L3.vars.length=L.vars.length+k)/\(Q7 L3 x ((ZV n.decls cc).drop k)=JP n.decls L x cc)/\F=sF [3,5,6,10,11,13] fz [(14,.i k)]/\h=[.obj c1 [.h ka,.h kb,.h kc,.h kd,.h ke,.h kf,Z5 ln],Zc gz 8,Zc gz 9,Zc gz 10,Zc gz 11,Zc gz 12,Zc gz 13,Zc gz 14,Zc gz 15,Zc gz 16,rV ka L3.vars,rV kb L3.own,rV kc L3.par,rV kd L3.con,rV ke L3.fst,rV kf L3.tok]/\m=(ZV n.decls cc).length-k) _ _ _ ⟨0,(Zh.mk L.vars L.own L.par (L.con.set x.toNat cc) (L.fst.set x.toNat (L.vars.length:Int)) L.tok),wa1,wb1,wc1,wd1,we1,wf1,ob,(Wq.arm hk.len),ob,(by rw [JP];rfl),rfl,rfl,rfl⟩ (wk [3,7,7,7,7,7,7,7,7,7,3,3,3,1,0,1] (Yd fl) (e:=(rc (rc (rc (rc (rc (rc (rc (rc (rc (rc (rv (xs:=L.vars) ob (rv (xs:=L.own) ob (rv (xs:=L.par) ob (rv (xs:=(L.con.set x.toNat cc)) ob (rv (xs:=(L.fst.set x.toNat (L.vars.length:Int))) ob (rv (xs:=L.tok) ob rz)))))))))))))))))) ?_))))))))))))))))))))))))
  rintro m F h ⟨k,L3,ka,kb,kc,kd,ke,kf,Yj,Zl,Zy,Yv,rfl,rfl,rfl⟩
  refine YO 2 (io (.i (((ZV n.decls cc).length:Nat):Int)) (.i (((Z7 (ZV n.decls cc)).length:Nat):Int)) (li (by rw [Yf])) (Y5 ((k:Int)<(((ZV n.decls cc).length:Nat):Int)) (fun Zg=>?_) (fun Zg=>?_)))
  ·refine ak (aq (ab 1 (aE 10 (Zm 7 10 [0,1,2] ?_))))
   obtain ⟨x1,Z3⟩:=Zs (ZV n.decls cc) k om
   refine dx 3 (Zj none (k:Int) 1 (Y3 Z3)) (ZH 3 6 [4,5,6] [8] (dx 7 (Zj none 0 1 (Y3 ha)) (Zm 1 2 [8] (Z9 9 (dc 9 [0,9,9,9,9,9,9] [] [] (KI c1 ka kb kc kd ke kf L3 ln x1 0 x (hlk:=Zl)) ?_)))))
   rintro _ _ ⟨wa2,wb2,wc2,wd2,we2,wf2,rfl⟩
   exact de (az (Z2 1 (ZJ k (Z0 (ZK ⟨k+1,(L3.grow x1 0 x),wa2,wb2,wc2,wd2,we2,wf2,ob,(Wq.grow Zl),(by simp [Zh.grow];omega),(by rw [Y9 Z3,Q7] at Yv;exact Yv),rfl,rfl,rfl⟩ (wk [0,6,6,6,6,6,6,6,6,6,0,0,0,0,0,0] (ZM k fl)))))))
  have hE:WX n.decls L s.op s.num s.args i=L3:=by rw [Zb2 Za ha hcc,<-Yv,Xn om];rfl
  refine ax 0 (aD 12 (ZH 6 12 [0,1,2,3,4,5] [9,8] (dx 6 (Zj none (i:Int) 2 (T9 hkb)) (Zm 3 5 [7,8] (Z9 9 (dc 9 [0,9,9,9,9,9,9] [] [] (ih kb0 c1 ka kb kc kd ke kf L3 L.vars.length q ob (by rw [<-hE];exact hK.1) (by rw [<-hE,hK.2];exact hbt) (by rw [<-hE,hK.2];simp) (by rw [<-hE,hK.2,Yt];omega) ob) ?_))))))
  rintro _ _ (⟨wa3,wb3,wc3,wd3,we3,wf3,M'1,rfl,rfl,ZX⟩|⟨rfl,rfl,Yk⟩)
  ·exact Zm 0 2 [10,11] (de (ZD (r2 [0,0,0,0,0,0,0,0,0,0,0,0,0,0] [.p c1 0,.b true] (.inl ⟨c1,wa3,wb3,wc3,wd3,we3,wf3,M'1,rfl,rfl,(by rw [hE];exact ZX)⟩) (lr _))))
  exact Zm 0 2 [10,11] (de (ZD (r2 [0,0,0,0,0,0,0] [.p c1 0,.b false] (.inr ⟨rfl,rfl,(by rw [hE];exact Yk)⟩) (Ze.tup (.cons (Ze.any _) (.cons (lr _) .nil))))))
 have hE:=Zb3 (ds:=n.decls) (L:=L) (num:=s.num) (args:=s.args) (i:=i) Za
 refine ak (aD 12 (ZH 6 12 [0,1,2,3,4,5] [15,14] (dx 6 (Zj none (i:Int) 2 (T9 hkb)) (Zm 3 5 [7,8] (Z9 9 (dc 9 [0,0,0,0,0,0,0] [] [] (ih kb0 c1 wa1 wb1 wc1 wd1 we1 wf1 L L.vars.length q ob (by rw [<-hE];exact hK.1) (by rw [<-hE,hK.2];exact hbt) (by rw [<-hE,hK.2];simp) (by rw [<-hE,hK.2,Yt];omega) ob) ?_))))))
 rintro _ _ (⟨wa4,wb4,wc4,wd4,we4,wf4,M'2,rfl,rfl,YG⟩|⟨rfl,rfl,YR⟩)
 ·exact Zm 0 2 [10,11] (de (ZD (r2 [0,0,0,0,0,0,0,0,0,0,0,0,0,0] [.p c1 0,.b true] (.inl ⟨c1,wa4,wb4,wc4,wd4,we4,wf4,M'2,rfl,rfl,(by rw [hE];exact YG)⟩) (lr _))))
 exact Zm 0 2 [10,11] (de (ZD (r2 [0,0,0,0,0,0,0] [.p c1 0,.b false] (.inr ⟨rfl,rfl,(by rw [hE];exact YR)⟩) (Ze.tup (.cons (Ze.any _) (.cons (lr _) .nil))))))
theorem Zbk (b:Nat) (ga:Hd) (gb:Hd) (gc:Hd) (gd:Hd) (ge:Hd) (gf:Hd) (n:Zi) (s:Z4) (L:Zh) (ln:LI) (q:Int) (hn:X6 n:=by exact ob) (hk:Xb n.decls L q:=by exact ob) (hf:Af n L.vars s:=by exact ob) (hop:s.op=7∨s.op=8:=by exact ob) (hb:L.vars.length+4*s.sz<=1000000000:=by exact ob) (hq:0<=q/\q+4*s.sz<=999999990:=by exact ob) (hln:ln.length<=4294967296:=by exact ob) (ih:∀(b2:Z6) (c:Nat) (ra:Hd) (rb:Hd) (rc:Hd) (rd:Hd) (re:Hd) (rf:Hd) (M:Zh) (mm:Nat) (p:Int),(b2.sz<s.sz)->(Xb n.decls M p)->(0<=Xh n M.vars b2)->(mm<=M.vars.length)->(M.vars.length+4*b2.sz<=1000000000)->(0<=p/\p+4*b2.sz<=999999990)->Zk 170 [.p c 0,Yq n,ZZ b2,.i mm] [.obj c [.h ra,.h rb,.h rc,.h rd,.h re,.h rf,Z5 ln],rV ra M.vars,rV rb M.own,rV rc M.par,rV rd M.con,rV re M.fst,rV rf M.tok] (fun r h=>(∃(wa:Hd) (wb:Hd) (wc:Hd) (wd:Hd) (we:Hd) (wf:Hd) (M':Zh),r=.b true/\h=[.obj c [.h wa,.h wb,.h wc,.h wd,.h we,.h wf,Z5 ln],rV wa M'.vars,rV wb M'.own,rV wc M'.par,rV wd M'.con,rV we M'.fst,rV wf M'.tok]/\Wk n ln M mm b2=some M')∨(r=.b false/\h=[]/\Wk n ln M mm b2=none))):Zk 209 [.p b 0,Yq n,YI s] [.obj b [.h ga,.h gb,.h gc,.h gd,.h ge,.h gf,Z5 ln],rV ga L.vars,rV gb L.own,rV gc L.par,rV gd L.con,rV ge L.fst,rV gf L.tok] (fun r h=>(∃(wa:Hd) (wb:Hd) (wc:Hd) (wd:Hd) (we:Hd) (wf:Hd) (L':Zh),r=.b true/\h=[.obj b [.h wa,.h wb,.h wc,.h wd,.h we,.h wf,Z5 ln],rV wa L'.vars,rV wb L'.own,rV wc L'.par,rV wd L'.con,rV we L'.fst,rV wf L'.tok]/\Js n ln L s=some L')∨(r=.b false/\h=[]/\Js n ln L s=none)):=by
 obtain ⟨e1,e2,e3,e4,e5⟩:=hk.len
 have XB:=hn.decls
 have hkz:=TK s
 have haz:=QA s
 obtain ⟨hk1,hk2,hk3⟩:=hf.kids hop
 obtain ⟨kd,hkd⟩:=Zs s.kids 0 om
 obtain ⟨m0,hm0⟩:=Zs (Xu n.decls s.op s.num) 0 om
 obtain ⟨x,hxa⟩:=hf.one om
 have ha:s.args[0]? = some x:=by rw [hxa];rfl
 have hx:=hf.args x (by rw [hxa];simp)
 have hgx:=JB ha
 have hal:=(Xq.1 ha).1
 refine ZF 88 Tryz.func209 (ar (iA (YU n) fun b1=>iA (XG s) fun b2=>Z0 (X9 (Xv [0,4,5] [(23,.b ((s.op==8)&&(!XM L ln x)))] (fun gz=>[Zc gz 2,Zc gz 3,Zc gz 4,Zc gz 5,Zc gz 6,Zc gz 7,Zc gz 8,Zc gz 0,Zc gz 1]) ?_ ?_))))
 ·refine ZO 4 [0] (ib (b:=(s.op==8)) 15 (fun Zb=>?_) (fun Zb=>?_))
  ·exact ZO 3 [0] (Zo (Zj none 0 1 (Y3 ha)) (Z2 1 (Zz [2,2,2,2,2,2,2] (Gi b ga gb gc gd ge gf L ln x (hlk:=hk.len) (hd:=hk.down)) (Z0 (ZG 9 (Zt (!XM L ln x) Zb fl))))))
  exact Z0 (wk [2,2,2,2,2,2,2,0,0] (Zt false Zb fl))
 refine ac ((s.op==8)&&(!XM L ln x)) (p:=(s.op=8)/\(¬(XM L ln x=true))) (YL Zq (YA Iff.rfl)) (fun Za=>?_) (fun Za=>?_)
 ·exact ar (Zr (r1 [] (.inr ⟨rfl,rfl,(by rw [Js,Zd (by rw [hgx];exact Za)])⟩)))
 have hgo:=NG (n:=n) (ln:=ln) (L:=L) (s:=s) (by rw [hgx];exact Za) hkd
 refine ak (Zw 3 [8,7] (ic [0,0,0,0,0,0,0] (R3 b ga gb gc gd ge gf n s L ln q 0 kd m0 (hkb:=hkd) (harm:=hm0) (hbt:=(hk3 0 kd m0 hkd hm0)) (ih:=ob)) ?_))
 rintro _ _ (⟨c1,wa1,wb1,wc1,wd1,we1,wf1,L'1,rfl,rfl,YG⟩|⟨rfl,rfl,YR⟩)
 ·have hone:=YG
  obtain ⟨l1,l2⟩:=PM hn hk hq.1 hf hop hkd hm0 (hk3 0 kd m0 hkd hm0) hone
  refine Z0 (Yi (Wr (ak (Yi (ab 0 (Y6 (fun fz gz m F h=>∃(k:Nat),(1<=k/\k<=s.kids.length)/\(TI n ln L s.op s.num s.args L'1 (s.kids.drop k) k=TI n ln L s.op s.num s.args L'1 (s.kids.drop 1) 1)/\F=sF [0,4,5,7] fz [(9,.i k)]/\h=gz/\m=s.kids.length-k) _ _ _ ⟨1,ob,ob,rfl,rfl,rfl⟩ (ZG 16 (fc (x:=.i 1) li fl)) ?_))))))
  rintro m F h ⟨k,Yj,Zl,rfl,rfl,rfl⟩
  refine Yl 3 [14] (iw (Uy s.kids) (Y5 ((k:Int)<(s.kids.length:Int)) (fun Zg=>?_) (fun Zg=>?_)))
  ·obtain ⟨ke,hke⟩:=Zs s.kids k om
   obtain ⟨mk,hmk⟩:=Zs (Xu n.decls s.op s.num) k om
   have hcs:=Ec (n:=n) (ln:=ln) (L:=L) (op:=s.op) (num:=s.num) (args:=s.args) (one:=L'1) hke
   refine ak (aq (ab 1 (Zw 4 [15,14] (ic [7,7,7,7,7,7,7] (R3 b ga gb gc gd ge gf n s L ln q k ke mk (hkb:=hke) (harm:=hmk) (hbt:=(hk3 k ke mk hke hmk)) (ih:=ob)) ?_))))
   rintro _ _ (⟨c2,wa2,wb2,wc2,wd2,we2,wf2,L'2,rfl,rfl,Xl⟩|⟨rfl,rfl,W2⟩)
   ·have htwo:=Xl
    obtain ⟨l3,l4⟩:=PM hn hk hq.1 hf hop hke hmk (hk3 k ke mk hke hmk) htwo
    refine Z0 (aD 26 (ZH 15 26 [0,1,2,3,4,5,6,7,8,9,10] [14,0] (Z9 11 (T7 11 [16,2] [] [] [rV wb1 L'1.own,rV wb2 L'2.own] (Z02 L'1.own L'2.own) Cx (gL (v:=wb1) 0 (gL (v:=wb2) 1 gN)) (Ut (Ut Tg)) ?_))))
    rintro _ _ ⟨rfl,rfl⟩
    refine Ak [0,4,5,7,9] [(73,.b ((!(decide (L'1.own=L'2.own)))||(!(decide (L'1.tok=L'2.tok)))))] (fun gz=>gz) ?_ ?_
    ·refine Zm 11 14 [12,13,14] (db (b:=(!(decide (L'1.own=L'2.own)))) 62 (fun ZB=>?_) (fun ZB=>?_))
     ·exact Zm 0 11 [15,16,17,18,19,20,21,22,23,24,25] (de (ZG 23 (Zt true ZB fl)))
     refine ZH 3 11 [15,16,17,18,19,20,21,22] [15,2] (Z9 23 (T7 23 [20,7] [] [] [rV wf1 L'1.tok,rV wf2 L'2.tok] (Z02 L'1.tok L'2.tok) Cx (gL (v:=wf1) 0 (gL (v:=wf2) 1 gN)) (Ut (Ut Tg)) ?_))
     rintro _ _ ⟨rfl,rfl⟩
     exact Zm 0 2 [24,25] (de (wk [2,2,2,2,2,2,2,1,1,1,1,1,1,1,1,1,1,1,1,1,0,0,0] (Zt (!(decide (L'1.tok=L'2.tok))) ZB fl)))
    refine ac ((!(decide (L'1.own=L'2.own)))||(!(decide (L'1.tok=L'2.tok)))) (p:=(¬(L'1.own=L'2.own))∨(¬(L'1.tok=L'2.tok))) (Yr (YA dq) (YA dq)) (fun ZC=>?_) (fun ZC=>?_)
    ·exact ar (Zr (r1 [] (.inr ⟨rfl,rfl,(by rw [hgo,hone];exact Eh (by rw [<-Zl,hcs,htwo];exact St ZC))⟩)))
    exact ak (az (Z2 1 (ZJ k (Z0 (ZK ⟨k+1,ob,(by rw [hcs,htwo,Su ZC] at Zl;exact Zl),rfl,rfl,rfl⟩ (wk [15,15,0,14,14,14,14,7,7,7,7,7,7,7,7,7] (ZM k fl)))))))
   have htwo:=W2
   exact Z0 (aD 26 (Zm 0 26 [0,1,2,3,4,5,6,7,8,9,10,11,12,13,14,15,16,17,18,19,20,21,22,23,24,25] (de (Wc (ar (Zr (r1 [] (.inr ⟨rfl,rfl,(by rw [hgo,hone];exact Eh (by rw [<-Zl,hcs,htwo];rfl))⟩))))))))
  have hE:TI n ln L s.op s.num s.args L'1 (s.kids.drop 1) 1=true:=by rw [<-Zl,Xn om,TI]
  exact ax 0 (Zw 7 [0] (ZI 7 b [.h ga,.h wb1,.h gc,.h gd,.h ge,.h gf,Z5 ln] (ie (Zw 7 [1] (ZI 0 b [.h ga,.h wb1,.h gc,.h gd,.h ge,.h wf1,Z5 ln] (ie (ar (Zr (r1 [0,7,2,7,7,7,5] (.inl ⟨ga,wb1,gc,gd,ge,wf1,(Zh.mk L.vars L'1.own L.par L.con L.fst L'1.tok),rfl,rfl,(by rw [hgo,hone];exact Rg hE)⟩) (eq:=(rc (rv (xs:=L.vars) ob (rv (xs:=L'1.own) ob (rv (xs:=L.par) ob (rv (xs:=L.con) ob (rv (xs:=L.fst) ob (rv (xs:=L'1.tok) ob rz)))))))))))))))))
 have hone:=YR
 exact Z0 (Yi (Wc (ar (Zr (r1 [] (.inr ⟨rfl,rfl,(by rw [hgo,hone];rfl)⟩))))))
theorem R4 (b:Nat) (ga:Hd) (gb:Hd) (gc:Hd) (gd:Hd) (ge:Hd) (gf:Hd) (n:Zi) (s:Z4) (L:Zh) (ln:LI) (q:Int) (hn:X6 n:=by exact ob) (hk:Xb n.decls L q:=by exact ob) (ht:0<=Yc n L.vars s:=by exact ob) (hb:L.vars.length+4*s.sz<=1000000000:=by exact ob) (hq:0<=q/\q+4*s.sz<=999999990:=by exact ob) (hln:ln.length<=4294967296:=by exact ob) (ih:∀(b2:Z6) (c:Nat) (ra:Hd) (rb:Hd) (rc:Hd) (rd:Hd) (re:Hd) (rf:Hd) (M:Zh) (mm:Nat) (p:Int),(b2.sz<s.sz)->(Xb n.decls M p)->(0<=Xh n M.vars b2)->(mm<=M.vars.length)->(M.vars.length+4*b2.sz<=1000000000)->(0<=p/\p+4*b2.sz<=999999990)->Zk 170 [.p c 0,Yq n,ZZ b2,.i mm] [.obj c [.h ra,.h rb,.h rc,.h rd,.h re,.h rf,Z5 ln],rV ra M.vars,rV rb M.own,rV rc M.par,rV rd M.con,rV re M.fst,rV rf M.tok] (fun r h=>(∃(wa:Hd) (wb:Hd) (wc:Hd) (wd:Hd) (we:Hd) (wf:Hd) (M':Zh),r=.b true/\h=[.obj c [.h wa,.h wb,.h wc,.h wd,.h we,.h wf,Z5 ln],rV wa M'.vars,rV wb M'.own,rV wc M'.par,rV wd M'.con,rV we M'.fst,rV wf M'.tok]/\Wk n ln M mm b2=some M')∨(r=.b false/\h=[]/\Wk n ln M mm b2=none))):Zk 151 [.p b 0,Yq n,YI s] [.obj b [.h ga,.h gb,.h gc,.h gd,.h ge,.h gf,Z5 ln],rV ga L.vars,rV gb L.own,rV gc L.par,rV gd L.con,rV ge L.fst,rV gf L.tok] (fun r h=>(∃(wa:Hd) (wb:Hd) (wc:Hd) (wd:Hd) (we:Hd) (wf:Hd) (L':Zh),r=.b true/\h=[.obj b [.h wa,.h wb,.h wc,.h wd,.h we,.h wf,Z5 ln],rV wa L'.vars,rV wb L'.own,rV wc L'.par,rV wd L'.con,rV we L'.fst,rV wf L'.tok]/\Vb n ln L s=some L')∨(r=.b false/\h=[]/\Vb n ln L s=none)):=by
 obtain ⟨e1,e2,e3,e4,e5⟩:=hk.len
 have XB:=hn.decls
 have hkz:=TK s
 have haz:=QA s
 have hf:=EF ht
 refine ZF 89 Tryz.func151 (ar (iA (YU n) fun b1=>iA (XG s) fun b2=>Z0 (aD 8 (ZH 2 8 [0,1,2,3,4,5] [1,2,0] (Z9 6 (T7 6 [3] [] [] [rV ga L.vars] (Mn n L.vars s ob ob) Cx (gS (gL (v:=ga) 0 (gS gN))) (Ut Tg) ?_))))))
 rintro _ _ ⟨rfl,rfl⟩
 refine Zm 0 1 [7] (de (ZE (X9 (VT [1] (ab 0 (ar (YH (s.op==14) Zq (fun Za=>?_) (fun Za=>?_))))))))
 ·obtain ⟨x,hxa⟩:=hf.one om
  have ha:s.args[0]? = some x:=by rw [hxa];rfl
  have hx:=hf.args x (by rw [hxa];simp)
  have hgx:=JB ha
  have hal:=(Xq.1 ha).1
  obtain ⟨xo,hxo⟩:=Zs L.own x.toNat om
  have hgo:=VH hxo
  have hob:=hk.bd xo (ZW hxo)
  have hon:=hk.nn xo (ZW hxo)
  refine Zw 3 [1] (Zo (Zj none 0 1 (Y3 ha)) (Z2 1 (Zz [3,0,2,2,2,2,2] (Gi b ga gb gc gd ge gf L ln x (hlk:=hk.len) (hd:=hk.down)) (Z0 (aE 21 (ZH 15 21 [0,1,2,3,4,5] [0,7] (dx 6 (Zj none 0 1 (Y3 ha)) (ZH 7 14 [7,8,9,10,11,12,13] [0,7] (dx 14 (Zj none 0 1 (Y3 ha)) (Zm 5 6 [15] (dx 16 (Wo 2 gb L.own x x.toNat (hq:=rfl)) (Uq 17 (VU 2 gb L.own x.toNat xo hxo) (da 18 ((xo+1)) ((xo)+(1)) (dx 19 (Wo 2 gb L.own x x.toNat (hq:=rfl)) (Z9 20 (JT 20 2 [] [] gb L.own x.toNat (xo+1) (de (X9 (YH (!XM L ln x) (p:=¬(XM L ln x=true)) (YA Iff.rfl) (fun Zg=>?_) (fun Zg=>?_))))))))))))))))))))
  ·have hP:=(Gy (n:=n) (ln:=ln) (L:=L) Za hgx).trans (Z5u Zg)
   exact ar (Zr (r1 [] (.inr ⟨rfl,rfl,(by rw [Uw,hP];first|rfl|exact Tu (by assumption)|exact Tv (by assumption) (by assumption)|exact Tc (by assumption))⟩)))
  have hP:=(Gy (n:=n) (ln:=ln) (L:=L) Za hgx).trans (Z5v Zg hgo)
  obtain ⟨kx,hxv⟩:=Br hn hk hq.1 hf hP
  refine ak (Yl 2 [7] (Zz [] (Jf s.op) (Xv [0,5,7] [(80,.b (XR s.op&&((Yc n L.vars s) != 0)))] (fun gz=>gz) ?_ ?_)))
  ·refine Z2 1 (ib (b:=XR s.op) 77 (fun Zb=>?_) (fun Zb=>?_))
   ·exact Z0 (ZG 9 (Zt ((Yc n L.vars s) != 0) Zb fl))
   exact Z0 (ZG 9 (Zt false Zb fl))
  refine ac (XR s.op&&((Yc n L.vars s) != 0)) (p:=(XR s.op=true)/\((Yc n L.vars s)≠0)) (YL Iff.rfl Ym) (fun ZC=>?_) (fun ZC=>?_)
  ·refine az (Z2 2 (ic [1,1,0,0,0,0,0] (KI b ga gb gc gd ge gf (Zh.mk L.vars (L.own.set x.toNat (xo+1)) L.par L.con L.fst L.tok) ln (Yc n L.vars s) 1 (-1) (hlb:=(by rw [hxv];omega)) (hlk:=kx.len)) ?_))
   rintro _ _ ⟨wa1,wb1,wc1,wd1,we1,wf1,rfl⟩
   exact ie (ar (Zr (r1 [0,0,0,0,0,0,0] (.inl ⟨wa1,wb1,wc1,wd1,we1,wf1,((Zh.mk L.vars (L.own.set x.toNat (xo+1)) L.par L.con L.fst L.tok).grow (Yc n L.vars s) 1 (-1)),rfl,rfl,(by rw [Uw,hP];first|rfl|exact Tu (by assumption)|exact Tv (by assumption) (by assumption)|exact Tc (by assumption))⟩))))
  refine Zw 2 [7] (Zz [] (Jf s.op) (ie (ac (XR s.op) Iff.rfl (fun Yg=>?_) (fun Yg=>?_))))
  ·refine az (Z2 1 (ic [1,1,0,0,0,0,0] (KI b ga gb gc gd ge gf (Zh.mk L.vars (L.own.set x.toNat (xo+1)) L.par L.con L.fst L.tok) ln 0 0 (-1) (hlb:=(by rw [hxv];omega)) (hlk:=kx.len)) ?_))
   rintro _ _ ⟨wa2,wb2,wc2,wd2,we2,wf2,rfl⟩
   exact ie (ar (Zr (r1 [0,0,0,0,0,0,0] (.inl ⟨wa2,wb2,wc2,wd2,we2,wf2,((Zh.mk L.vars (L.own.set x.toNat (xo+1)) L.par L.con L.fst L.tok).grow 0 0 (-1)),rfl,rfl,(by rw [Uw,hP];first|rfl|exact Tu (by assumption)|exact Tv (by assumption) (by assumption)|exact Tc (by assumption))⟩))))
  exact ak (ar (Zr (r1 [1,1,0,0,0,0,0] (.inl ⟨ga,gb,gc,gd,ge,gf,(Zh.mk L.vars (L.own.set x.toNat (xo+1)) L.par L.con L.fst L.tok),rfl,rfl,(by rw [Uw,hP];first|rfl|exact Tu (by assumption)|exact Tv (by assumption) (by assumption)|exact Tc (by assumption))⟩) (eq:=(rc (rv (xs:=L.vars) ob (rv (xs:=(L.own.set x.toNat (xo+1))) ob (rv (xs:=L.par) ob (rv (xs:=L.con) ob (rv (xs:=L.fst) ob (rv (xs:=L.tok) ob rz)))))))))))
 refine ar (YH (s.op==15) Zq (fun Xf=>?_) (fun Xf=>?_))
 ·obtain ⟨x,hxa⟩:=hf.one om
  have ha:s.args[0]? = some x:=by rw [hxa];rfl
  have hx:=hf.args x (by rw [hxa];simp)
  have hgx:=JB ha
  have hal:=(Xq.1 ha).1
  refine az (ZO 3 [1] (Zo (Zj none 0 1 (Y3 ha)) (Z2 1 (ic [3,0,2,2,2,2,2] (Gj b ga gb gc gd ge gf L ln x (hlk:=hk.len) (hq:=(fun y hy=>⟨hk.nn y hy,by have:=hk.bd y hy;omega⟩))) ?_))))
  rintro _ _ (⟨wa3,wb3,wc3,wd3,we3,wf3,L'1,rfl,rfl,YG⟩|⟨rfl,rfl,YR⟩)
  ·have hP:=(Gz (n:=n) (ln:=ln) (L:=L) Xf hgx).trans (YG)
   obtain ⟨kx,hxv⟩:=Br hn hk hq.1 hf hP
   refine Z0 (Yi (Wr (ak (Yl 2 [7] (Zz [] (Jf s.op) (Xv [0,5,7] [(80,.b (XR s.op&&((Yc n L.vars s) != 0)))] (fun gz=>gz) ?_ ?_))))))
   ·refine Z2 1 (ib (b:=XR s.op) 77 (fun ZB=>?_) (fun ZB=>?_))
    ·exact Z0 (ZG 9 (Zt ((Yc n L.vars s) != 0) ZB fl))
    exact Z0 (ZG 9 (Zt false ZB fl))
   refine ac (XR s.op&&((Yc n L.vars s) != 0)) (p:=(XR s.op=true)/\((Yc n L.vars s)≠0)) (YL Iff.rfl Ym) (fun Xo=>?_) (fun Xo=>?_)
   ·refine az (Z2 2 (ic [0,0,0,0,0,0,0] (KI b wa3 wb3 wc3 wd3 we3 wf3 L'1 ln (Yc n L.vars s) 1 (-1) (hlb:=(by rw [hxv];omega)) (hlk:=kx.len)) ?_))
    rintro _ _ ⟨wa4,wb4,wc4,wd4,we4,wf4,rfl⟩
    exact ie (ar (Zr (r1 [0,0,0,0,0,0,0] (.inl ⟨wa4,wb4,wc4,wd4,we4,wf4,(L'1.grow (Yc n L.vars s) 1 (-1)),rfl,rfl,(by rw [Uw,hP];first|rfl|exact Tu (by assumption)|exact Tv (by assumption) (by assumption)|exact Tc (by assumption))⟩))))
   refine Zw 2 [7] (Zz [] (Jf s.op) (ie (ac (XR s.op) Iff.rfl (fun U2=>?_) (fun U2=>?_))))
   ·refine az (Z2 1 (ic [0,0,0,0,0,0,0] (KI b wa3 wb3 wc3 wd3 we3 wf3 L'1 ln 0 0 (-1) (hlb:=(by rw [hxv];omega)) (hlk:=kx.len)) ?_))
    rintro _ _ ⟨wa5,wb5,wc5,wd5,we5,wf5,rfl⟩
    exact ie (ar (Zr (r1 [0,0,0,0,0,0,0] (.inl ⟨wa5,wb5,wc5,wd5,we5,wf5,(L'1.grow 0 0 (-1)),rfl,rfl,(by rw [Uw,hP];first|rfl|exact Tu (by assumption)|exact Tv (by assumption) (by assumption)|exact Tc (by assumption))⟩))))
   exact ak (ar (Zr (r1 [0,0,0,0,0,0,0] (.inl ⟨wa3,wb3,wc3,wd3,we3,wf3,L'1,rfl,rfl,(by rw [Uw,hP];first|rfl|exact Tu (by assumption)|exact Tv (by assumption) (by assumption)|exact Tc (by assumption))⟩))))
  have hP:=(Gz (n:=n) (ln:=ln) (L:=L) Xf hgx).trans (YR)
  exact Z0 (Yi (Wc (ar (Zr (r1 [] (.inr ⟨rfl,rfl,(by rw [Uw,hP];first|rfl|exact Tu (by assumption)|exact Tv (by assumption) (by assumption)|exact Tc (by assumption))⟩))))))
 refine Yi (XW (fun fz gz F h=>F=sF [0,4,5,7,17] fz [(58,.b ((s.op==16)||(s.op==17)))]/\h=gz) ?_ ?_)
 ·refine ac (s.op==16) Zq (fun VR=>?_) (fun VR=>?_)
  ·exact ak (ZP ⟨rfl,rfl⟩ (ZG 9 (fc (x:=.b (s.op==16)) (lb (by first|rfl|(rw [Zd VR])|(rw [Z8 VR])|(simp [VR];done)|(rw [Xx];simp [VR];done)|omega)) fl)))
  exact Td (ZP ⟨rfl,rfl⟩ (ZG 9 (fc (x:=.b (s.op==17)) (lb (by first|rfl|(rw [Zd VR])|(rw [Z8 VR])|(simp [VR];done)|(rw [Xx];simp [VR];done)|omega)) fl)))
 rintro F h ⟨rfl,rfl⟩
 refine ac ((s.op==16)||(s.op==17)) (p:=(s.op=16)∨(s.op=17)) (Yr Zq Zq) (fun VS=>?_) (fun VS=>?_)
 ·obtain ⟨x,hxa⟩:=hf.one om
  have ha:s.args[0]? = some x:=by rw [hxa];rfl
  have hx:=hf.args x (by rw [hxa];simp)
  have hgx:=JB ha
  have hal:=(Xq.1 ha).1
  refine az (ZO 3 [2,1] (ic [3,0,2,2,2,2,2] (Zbn b ga gb gc gd ge gf n s L ln q x) ?_))
  rintro _ _ (⟨wa6,wb6,wc6,wd6,we6,wf6,L'2,rfl,rfl,WG⟩|⟨rfl,rfl,V3⟩)
  ·have hP:=(LK (n:=n) (ln:=ln) (L:=L) VS hgx).trans (WG)
   obtain ⟨kx,hxv⟩:=Br hn hk hq.1 hf hP
   refine Z0 (Yi (Wr (ak (Yl 2 [7] (Zz [] (Jf s.op) (Xv [0,5,7] [(80,.b (XR s.op&&((Yc n L.vars s) != 0)))] (fun gz=>gz) ?_ ?_))))))
   ·refine Z2 1 (ib (b:=XR s.op) 77 (fun YE=>?_) (fun YE=>?_))
    ·exact Z0 (ZG 9 (Zt ((Yc n L.vars s) != 0) YE fl))
    exact Z0 (ZG 9 (Zt false YE fl))
   refine ac (XR s.op&&((Yc n L.vars s) != 0)) (p:=(XR s.op=true)/\((Yc n L.vars s)≠0)) (YL Iff.rfl Ym) (fun TG=>?_) (fun TG=>?_)
   ·refine az (Z2 2 (ic [0,0,0,0,0,0,0] (KI b wa6 wb6 wc6 wd6 we6 wf6 L'2 ln (Yc n L.vars s) 1 (-1) (hlb:=(by rw [hxv];omega)) (hlk:=kx.len)) ?_))
    rintro _ _ ⟨wa7,wb7,wc7,wd7,we7,wf7,rfl⟩
    exact ie (ar (Zr (r1 [0,0,0,0,0,0,0] (.inl ⟨wa7,wb7,wc7,wd7,we7,wf7,(L'2.grow (Yc n L.vars s) 1 (-1)),rfl,rfl,(by rw [Uw,hP];first|rfl|exact Tu (by assumption)|exact Tv (by assumption) (by assumption)|exact Tc (by assumption))⟩))))
   refine Zw 2 [7] (Zz [] (Jf s.op) (ie (ac (XR s.op) Iff.rfl (fun JC=>?_) (fun JC=>?_))))
   ·refine az (Z2 1 (ic [0,0,0,0,0,0,0] (KI b wa6 wb6 wc6 wd6 we6 wf6 L'2 ln 0 0 (-1) (hlb:=(by rw [hxv];omega)) (hlk:=kx.len)) ?_))
    rintro _ _ ⟨wa8,wb8,wc8,wd8,we8,wf8,rfl⟩
    exact ie (ar (Zr (r1 [0,0,0,0,0,0,0] (.inl ⟨wa8,wb8,wc8,wd8,we8,wf8,(L'2.grow 0 0 (-1)),rfl,rfl,(by rw [Uw,hP];first|rfl|exact Tu (by assumption)|exact Tv (by assumption) (by assumption)|exact Tc (by assumption))⟩))))
   exact ak (ar (Zr (r1 [0,0,0,0,0,0,0] (.inl ⟨wa6,wb6,wc6,wd6,we6,wf6,L'2,rfl,rfl,(by rw [Uw,hP];first|rfl|exact Tu (by assumption)|exact Tv (by assumption) (by assumption)|exact Tc (by assumption))⟩))))
  have hP:=(LK (n:=n) (ln:=ln) (L:=L) VS hgx).trans (V3)
  exact Z0 (Yi (Wc (ar (Zr (r1 [] (.inr ⟨rfl,rfl,(by rw [Uw,hP];first|rfl|exact Tu (by assumption)|exact Tv (by assumption) (by assumption)|exact Tc (by assumption))⟩))))))
 refine Yi (XW (fun fz gz F h=>F=sF [0,4,5,7] fz [(65,.b ((s.op==7)||(s.op==8)))]/\h=gz) ?_ ?_)
 ·refine ac (s.op==7) Zq (fun Q8=>?_) (fun Q8=>?_)
  ·exact ak (ZP ⟨rfl,rfl⟩ (ZG 9 (fc (x:=.b (s.op==7)) (lb (by first|rfl|(rw [Zd Q8])|(rw [Z8 Q8])|(simp [Q8];done)|(rw [Xx];simp [Q8];done)|omega)) fl)))
  exact Td (ZP ⟨rfl,rfl⟩ (ZG 9 (fc (x:=.b (s.op==8)) (lb (by first|rfl|(rw [Zd Q8])|(rw [Z8 Q8])|(simp [Q8];done)|(rw [Xx];simp [Q8];done)|omega)) fl)))
 rintro F h ⟨rfl,rfl⟩
 refine ac ((s.op==7)||(s.op==8)) (p:=(s.op=7)∨(s.op=8)) (Yr Zq Zq) (fun J5=>?_) (fun J5=>?_)
 ·refine az (ZO 3 [2,1] (ic [3,0,2,2,2,2,2] (Zbk b ga gb gc gd ge gf n s L ln q (ih:=ob)) ?_))
  rintro _ _ (⟨wa9,wb9,wc9,wd9,we9,wf9,L'3,rfl,rfl,Te⟩|⟨rfl,rfl,Tf⟩)
  ·have hP:=(GC (n:=n) (ln:=ln) (L:=L) J5).trans (Te)
   obtain ⟨kx,hxv⟩:=Br hn hk hq.1 hf hP
   refine Z0 (Yi (Wr (ak (Yl 2 [7] (Zz [] (Jf s.op) (Xv [0,5,7] [(80,.b (XR s.op&&((Yc n L.vars s) != 0)))] (fun gz=>gz) ?_ ?_))))))
   ·refine Z2 1 (ib (b:=XR s.op) 77 (fun Xw=>?_) (fun Xw=>?_))
    ·exact Z0 (ZG 9 (Zt ((Yc n L.vars s) != 0) Xw fl))
    exact Z0 (ZG 9 (Zt false Xw fl))
   refine ac (XR s.op&&((Yc n L.vars s) != 0)) (p:=(XR s.op=true)/\((Yc n L.vars s)≠0)) (YL Iff.rfl Ym) (fun C5=>?_) (fun C5=>?_)
   ·refine az (Z2 2 (ic [0,0,0,0,0,0,0] (KI b wa9 wb9 wc9 wd9 we9 wf9 L'3 ln (Yc n L.vars s) 1 (-1) (hlb:=(by rw [hxv];omega)) (hlk:=kx.len)) ?_))
    rintro _ _ ⟨wa10,wb10,wc10,wd10,we10,wf10,rfl⟩
    exact ie (ar (Zr (r1 [0,0,0,0,0,0,0] (.inl ⟨wa10,wb10,wc10,wd10,we10,wf10,(L'3.grow (Yc n L.vars s) 1 (-1)),rfl,rfl,(by rw [Uw,hP];first|rfl|exact Tu (by assumption)|exact Tv (by assumption) (by assumption)|exact Tc (by assumption))⟩))))
   refine Zw 2 [7] (Zz [] (Jf s.op) (ie (ac (XR s.op) Iff.rfl (fun IQ=>?_) (fun IQ=>?_))))
   ·refine az (Z2 1 (ic [0,0,0,0,0,0,0] (KI b wa9 wb9 wc9 wd9 we9 wf9 L'3 ln 0 0 (-1) (hlb:=(by rw [hxv];omega)) (hlk:=kx.len)) ?_))
    rintro _ _ ⟨wa11,wb11,wc11,wd11,we11,wf11,rfl⟩
    exact ie (ar (Zr (r1 [0,0,0,0,0,0,0] (.inl ⟨wa11,wb11,wc11,wd11,we11,wf11,(L'3.grow 0 0 (-1)),rfl,rfl,(by rw [Uw,hP];first|rfl|exact Tu (by assumption)|exact Tv (by assumption) (by assumption)|exact Tc (by assumption))⟩))))
   exact ak (ar (Zr (r1 [0,0,0,0,0,0,0] (.inl ⟨wa9,wb9,wc9,wd9,we9,wf9,L'3,rfl,rfl,(by rw [Uw,hP];first|rfl|exact Tu (by assumption)|exact Tv (by assumption) (by assumption)|exact Tc (by assumption))⟩))))
  have hP:=(GC (n:=n) (ln:=ln) (L:=L) J5).trans (Tf)
  exact Z0 (Yi (Wc (ar (Zr (r1 [] (.inr ⟨rfl,rfl,(by rw [Uw,hP];first|rfl|exact Tu (by assumption)|exact Tv (by assumption) (by assumption)|exact Tc (by assumption))⟩))))))
 refine az (ZO 3 [2,1] (ic [3,0,2,2,2,2,2] (Zbm b ga gb gc gd ge gf n s L ln q (hnum:=hf.num) (hargs:=hf.args) (hinto:=(fun q=>(hf.into om).2))) ?_))
 rintro _ _ (⟨wa12,wb12,wc12,wd12,we12,wf12,L'4,rfl,rfl,J6⟩|⟨rfl,rfl,KG⟩)
 ·have hP:=(RP (n:=n) (ln:=ln) (L:=L) Za Xf VS J5).trans (J6)
  obtain ⟨kx,hxv⟩:=Br hn hk hq.1 hf hP
  refine Z0 (Yi (Wr (ak (Yl 2 [7] (Zz [] (Jf s.op) (Xv [0,5,7] [(80,.b (XR s.op&&((Yc n L.vars s) != 0)))] (fun gz=>gz) ?_ ?_))))))
  ·refine Z2 1 (ib (b:=XR s.op) 77 (fun WM=>?_) (fun WM=>?_))
   ·exact Z0 (ZG 9 (Zt ((Yc n L.vars s) != 0) WM fl))
   exact Z0 (ZG 9 (Zt false WM fl))
  refine ac (XR s.op&&((Yc n L.vars s) != 0)) (p:=(XR s.op=true)/\((Yc n L.vars s)≠0)) (YL Iff.rfl Ym) (fun IR=>?_) (fun IR=>?_)
  ·refine az (Z2 2 (ic [0,0,0,0,0,0,0] (KI b wa12 wb12 wc12 wd12 we12 wf12 L'4 ln (Yc n L.vars s) 1 (-1) (hlb:=(by rw [hxv];omega)) (hlk:=kx.len)) ?_))
   rintro _ _ ⟨wa13,wb13,wc13,wd13,we13,wf13,rfl⟩
   exact ie (ar (Zr (r1 [0,0,0,0,0,0,0] (.inl ⟨wa13,wb13,wc13,wd13,we13,wf13,(L'4.grow (Yc n L.vars s) 1 (-1)),rfl,rfl,(by rw [Uw,hP];first|rfl|exact Tu (by assumption)|exact Tv (by assumption) (by assumption)|exact Tc (by assumption))⟩))))
  refine Zw 2 [7] (Zz [] (Jf s.op) (ie (ac (XR s.op) Iff.rfl (fun JD=>?_) (fun JD=>?_))))
  ·refine az (Z2 1 (ic [0,0,0,0,0,0,0] (KI b wa12 wb12 wc12 wd12 we12 wf12 L'4 ln 0 0 (-1) (hlb:=(by rw [hxv];omega)) (hlk:=kx.len)) ?_))
   rintro _ _ ⟨wa14,wb14,wc14,wd14,we14,wf14,rfl⟩
   exact ie (ar (Zr (r1 [0,0,0,0,0,0,0] (.inl ⟨wa14,wb14,wc14,wd14,we14,wf14,(L'4.grow 0 0 (-1)),rfl,rfl,(by rw [Uw,hP];first|rfl|exact Tu (by assumption)|exact Tv (by assumption) (by assumption)|exact Tc (by assumption))⟩))))
  exact ak (ar (Zr (r1 [0,0,0,0,0,0,0] (.inl ⟨wa12,wb12,wc12,wd12,we12,wf12,L'4,rfl,rfl,(by rw [Uw,hP];first|rfl|exact Tu (by assumption)|exact Tv (by assumption) (by assumption)|exact Tc (by assumption))⟩))))
 have hP:=(RP (n:=n) (ln:=ln) (L:=L) Za Xf VS J5).trans (KG)
 exact Z0 (Yi (Wc (ar (Zr (r1 [] (.inr ⟨rfl,rfl,(by rw [Uw,hP];first|rfl|exact Tu (by assumption)|exact Tv (by assumption) (by assumption)|exact Tc (by assumption))⟩))))))
theorem Zbj (c:Nat) (ga:Hd) (gb:Hd) (gc:Hd) (gd:Hd) (ge:Hd) (gf:Hd) (n:Zi) (b:Z6) (L:Zh) (ln:LI) (q:Int) (mm:Nat) (hn:X6 n) (hk:Xb n.decls L q) (ht:0<=Xh n L.vars b) (hm:mm<=L.vars.length) (hb:L.vars.length+4*b.sz<=1000000000) (hq:0<=q/\q+4*b.sz<=999999990) (hln:ln.length<=4294967296) (ih:∀(s2:Z4) (c:Nat) (ra:Hd) (rb:Hd) (rc:Hd) (rd:Hd) (re:Hd) (rf:Hd) (M:Zh) (p:Int),(s2.sz<b.sz)->(Xb n.decls M p)->(0<=Yc n M.vars s2)->(M.vars.length+4*s2.sz<=1000000000)->(0<=p/\p+4*s2.sz<=999999990)->Zk 151 [.p c 0,Yq n,YI s2] [.obj c [.h ra,.h rb,.h rc,.h rd,.h re,.h rf,Z5 ln],rV ra M.vars,rV rb M.own,rV rc M.par,rV rd M.con,rV re M.fst,rV rf M.tok] (fun r h=>(∃(wa:Hd) (wb:Hd) (wc:Hd) (wd:Hd) (we:Hd) (wf:Hd) (M':Zh),r=.b true/\h=[.obj c [.h wa,.h wb,.h wc,.h wd,.h we,.h wf,Z5 ln],rV wa M'.vars,rV wb M'.own,rV wc M'.par,rV wd M'.con,rV we M'.fst,rV wf M'.tok]/\Vb n ln M s2=some M')∨(r=.b false/\h=[]/\Vb n ln M s2=none))):Zk 170 [.p c 0,Yq n,ZZ b,.i mm] [.obj c [.h ga,.h gb,.h gc,.h gd,.h ge,.h gf,Z5 ln],rV ga L.vars,rV gb L.own,rV gc L.par,rV gd L.con,rV ge L.fst,rV gf L.tok] (fun r h=>(∃(wa:Hd) (wb:Hd) (wc:Hd) (wd:Hd) (we:Hd) (wf:Hd) (L':Zh),r=.b true/\h=[.obj c [.h wa,.h wb,.h wc,.h wd,.h we,.h wf,Z5 ln],rV wa L'.vars,rV wb L'.own,rV wc L'.par,rV wd L'.con,rV we L'.fst,rV wf L'.tok]/\Wk n ln L mm b=some L')∨(r=.b false/\h=[]/\Wk n ln L mm b=none)):=by
 have hbz:=b.sz_eq
 obtain ⟨vs,rt,hvs,hres,hrt⟩:=DK ht
 have hri:=J1 hres
 have Xr:=Uk b
 refine ZF 45 Tryz.func170 (ar (iA (YU n) fun b1=>iA (Xm b) fun b2=>?_))
 refine Z0 (Yi (ab 0 (Y6 (fun fz gz m F h=>∃(k:Nat) (q2:Int) (L2:Zh) (ka:Hd) (kb:Hd) (kc:Hd) (kd:Hd) (ke:Hd) (kf:Hd),(k<=b.steps.length)/\(Xb n.decls L2 q2)/\(0<=q2/\q2+4*Yb (b.steps.drop k)<=999999990)/\(L2.vars.length+4*Yb (b.steps.drop k)<=1000000000)/\(XC n (b.steps.drop k) L2.vars=some vs)/\(XK n ln L2 (b.steps.drop k)=XK n ln L b.steps)/\(L.vars.length<=L2.vars.length)/\F=sF [0,3,5,6] fz [(9,.i k)]/\h=[Zc gz 0,Zc gz 1,.obj c [.h ka,.h kb,.h kc,.h kd,.h ke,.h kf,Z5 ln],rV ka L2.vars,rV kb L2.own,rV kc L2.par,rV kd L2.con,rV ke L2.fst,rV kf L2.tok]/\m=b.steps.length-k) _ _ _ ⟨0,q,L,ga,gb,gc,gd,ge,gf,ob,hk,(by rw [TZ];omega),(by rw [TZ];omega),hvs,rfl,om,rfl,rfl,rfl⟩ (ZG 9 (Yd fl)) ?_)))
 rintro m F h ⟨k,q2,L2,ka,kb,kc,kd,ke,kf,Yj,Zl,Zy,Yv,XY,K3,HQ,rfl,rfl,rfl⟩
 refine Yl 3 [0] (iw (VO b.steps) (Y5 ((k:Int)<(b.steps.length:Int)) (fun Za=>?_) (fun Za=>?_)))
 ·obtain ⟨s1,hs1⟩:=Zs b.steps k om
  have hss:=A5 hs1
  have hdr:=Y9 hs1
  have hz:Yb (b.steps.drop k)=s1.sz+Yb (b.steps.drop (k+1)):=by rw [hdr,Yb]
  rw [hdr] at XY K3
  obtain ⟨g1,g2⟩:=EG XY
  refine ak (aq (ab 1 (aD 9 (ZH 4 9 [0,1,2,3,4] [1,0] (dx 5 (Zj none (k:Int) 5 (V2 hs1)) (Zm 2 3 [6] (Z9 7 (dc 7 [2,2,2,2,2,2,2] [] [] (ih s1 c ka kb kc kd ke kf L2 q2 ob Zl g1 om om) ?_))))))))
  rintro _ _ (⟨wa1,wb1,wc1,wd1,we1,wf1,M'1,rfl,rfl,ZX⟩|⟨rfl,rfl,Yk⟩)
  ·have hP:=ZX
   have kx:=EE hn Zl Zy.1 g1 hP
   exact Zm 0 1 [8] (de (Wr (ak (az (Z2 1 (ZJ k (Z0 (ZK ⟨k+1,(q2+4*s1.sz),M'1,wa1,wb1,wc1,wd1,we1,wf1,ob,kx.1,om,(by rw [kx.2];have:=GT n L2.vars s1;omega),(by rw [kx.2];exact g2),(by rw [<-K3,XK,hP];rfl),(by rw [kx.2];have:=GT n L2.vars s1;omega),rfl,rfl,rfl⟩ (wk [7,7,0,0,0,0,0,0,0] (ZM k fl))))))))))
  have hP:=Yk
  exact Zm 0 1 [8] (de (Wc (ar (Zr (r1 [] (.inr ⟨rfl,rfl,(by rw [QB,<-K3,XK,hP];rfl)⟩))))))
 rw [Xn om] at XY K3
 have hvv:L2.vars=vs:=by rw [XC] at XY;exact Qh XY
 have hB:Wk n ln L mm b=U0 mm b.result L2:=by rw [QB,<-K3,XK];rfl
 obtain ⟨xr,hxr⟩:=Zs L2.vars b.result.toNat (by rw [hvv];omega)
 have hgr:=VH hxr
 have hrl:0<=b.result/\b.result<L2.vars.length:=by rw [hvv];omega
 rw [XC] at XY
 refine ax 0 (aq (aD 16 (ZH 10 16 [0,1,2,3,4,5] [2,0] (dx 6 (Wo 3 ka L2.vars b.result b.result.toNat (hq:=rfl)) (Uq 7 (VU 3 ka L2.vars b.result.toNat xr hxr) (Zm 6 8 [8,9] (db (b:=(xr != 0)) 35 (fun Zb=>?_) (fun Zb=>?_))))))))
 ·have YG:xr≠0:=(Ym).1 Zb
  refine ZH 3 6 [10,11,12] [0] (Z9 13 (dc 13 [2,2,2,2,2,2,2] [] [] (Gj c ka kb kc kd ke kf L2 ln b.result (hlk:=Zl.len) (hq:=(fun y hy=>⟨Zl.nn y hy,by have:=Zl.bd y hy;omega⟩))) ?_))
  rintro _ _ (⟨wa2,wb2,wc2,wd2,we2,wf2,L'1,rfl,rfl,YR⟩|⟨rfl,rfl,Xl⟩)
  ·have hE:=hB.trans (Z6h hgr (by assumption) YR)
   have kx:=Zl.take YR
   have hxv:L'1.vars.length=L2.vars.length:=by rw [(QP YR).2.1]
   refine Zm 0 2 [14,15] (de (Wr (ak (Ya 2 (ic [0,0,0,0,0,0,0] (Lk c wa2 wb2 wc2 wd2 we2 wf2 L'1 ln mm (hlk:=(by first|exact kx.len|exact Zl.len)) (hlb:=om) (hm:=om)) ?_)))))
   rintro _ _ (⟨wa3,wb3,wc3,wd3,we3,wf3,L'2,rfl,rfl,W2⟩|⟨rfl,rfl,WG⟩)
   ·exact Zr (r1 [0,0,0,0,0,0,0] (.inl ⟨wa3,wb3,wc3,wd3,we3,wf3,L'2,rfl,rfl,(by first|exact hE|(rw [hE];exact W2)|(rw [hB,DU hgr (by assumption)];exact W2))⟩))
   exact Zr (r1 [] (.inr ⟨rfl,rfl,(by first|exact hE|(rw [hE];exact WG)|(rw [hB,DU hgr (by assumption)];exact WG))⟩))
  have hE:=hB.trans (Z6g hgr (by assumption) Xl)
  exact Zm 0 2 [14,15] (de (Wc (ar (Zr (r1 [] (.inr ⟨rfl,rfl,(by first|exact hE|(rw [hE];exact Xl)|(rw [hB,DU hgr (by assumption)];exact Xl))⟩))))))
 have V3:¬(xr≠0):=Yh Ym Zb
 refine Zm 0 6 [10,11,12,13,14,15] (de (Wr (ak (Ya 2 (ic [2,2,2,2,2,2,2] (Lk c ka kb kc kd ke kf L2 ln mm (hlk:=(by first|exact kx.len|exact Zl.len)) (hlb:=om) (hm:=om)) ?_)))))
 rintro _ _ (⟨wa4,wb4,wc4,wd4,we4,wf4,L'3,rfl,rfl,Vr⟩|⟨rfl,rfl,UK⟩)
 ·exact Zr (r1 [0,0,0,0,0,0,0] (.inl ⟨wa4,wb4,wc4,wd4,we4,wf4,L'3,rfl,rfl,(by first|exact hE|(rw [hE];exact Vr)|(rw [hB,DU hgr (by assumption)];exact Vr))⟩))
 exact Zr (r1 [] (.inr ⟨rfl,rfl,(by first|exact hE|(rw [hE];exact UK)|(rw [hB,DU hgr (by assumption)];exact UK))⟩))
end Go.Abs
