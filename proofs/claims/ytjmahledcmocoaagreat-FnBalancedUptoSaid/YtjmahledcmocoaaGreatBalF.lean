/-
  FnBalancedUptoSaid: the law FnBalanced returns true at every argument of bulk at most 1048576, and the argument reads behind the call as it read before.
-/
import Derived.Test.YtjmahledcmocoaaGreatBalE
import Derived.Test.YtjmahledcmocoaaGreatRows
import Derived.WalkKit
import Derived.ProofKit
import Derived.OpenShut
import Derived.JoinedCond
import Derived.ReadAgain
set_option linter.all false
set_option linter.unusedVariables false
set_option linter.unusedSimpArgs false
set_option linter.unusedSectionVars false
set_option maxRecDepth 10000
set_option maxHeartbeats 4000000
namespace Go.Abs
open Go.Proofs
theorem Z58 (rd:Nat) (bs:LI) (p:Nat) (mx:Int) (ZK:∀z∈bs,0<=z/\z<=255) (hp:p+1<=1000000000):Zi 79 [.p rd 0,.i mx] [Yv rd bs p] (fun r h=>∃(k:Int),r=.i k/\h=[.obj rd [U8 bs,.i (p+1:Nat)]]/\Pk mx k/\k=Ak bs p mx):=by
 refine ZF 99 Tryz.func79 (ZE (Zv 5 [0] (ZJ p (Z2 2 (ZH 0 rd [U8 bs,.i (p+1:Nat)] (ie (X2 (Xo [0,1] [(24,.b ((decide (mx<1))||((bs.length:Int)==0)))] (fun gz=>gz) ?_ ?_))))))))
 ·refine Z2 3 (ib (b:=(decide (mx<1))) 17 (fun Zb=>?_) (fun Zb=>?_))
  ·exact Z0 (wk [0] (Zs true Zb fl))
  exact ZM 4 [0] (iw (Ky bs) (Z0 (wk [0] (Zs ((bs.length:Int)==0) Zb fl))))
 refine ac ((decide (mx<1))||((bs.length:Int)==0)) (p:=(mx<1)∨((bs.length:Int)=0)) (Yx dq Zo) (fun Za=>?_) (fun Za=>?_)
 ·exact ar (Zq (r1 [0] ⟨0,rfl,rfl,⟨Pk.zero,by rw [Ak,Ze om]⟩⟩))
 refine ak (Zv 4 [0] (ia ((p:Int)) ((((p+1:Nat):Int))-(1)) (Z0 (Yi 5 [0] (iw (Ky bs) (Y1 ((p:Int)<(bs.length:Int)) (fun Zg=>?_) (fun Zg=>?_)))))))
 ·refine Zv 5 [0] ?_
  obtain ⟨x1,Z3⟩:=Zr bs p om
  have hz:=ZK _ (Y4 Z3)
  exact Zm (Zj none (p:Int) 1 (Cf Z3)) (Z2 1 (Zm (CD x1 om) (Z2 1 (Zm (DE x1 mx om om) (Zq (r1 [0] ⟨(x1 % mx),rfl,rfl,⟨Pk.rem om om,by rw [Ak,Z7 om,Ze om,Z3];rfl⟩⟩))))))
 have hq1:p / bs.length<=p:=Nat.div_le_self _ _
 have hq0:(0:Int)<=((p / bs.length:Nat):Int):=Int.natCast_nonneg _
 refine ak (aD 46 (ZI 37 46 [0,1,2,3,4,5,6,7,8] [0,0] (dw 9 (Ky bs) (dx 10 (Fl p bs.length om om) ?_))))
 obtain ⟨x2,Zu⟩:=Zr bs (p % bs.length) (Nat.mod_lt _ om)
 have hz:=ZK _ (Y4 Zu)
 have hy2:=Zu
 refine dx 11 (Zj none ((p % bs.length:Nat):Int) 1 (Cf Zu)) (Zk 33 34 [12] (dx 13 (CD x2 om) (da 14 ((x2*131)) ((x2)*(131)) (ZI 26 31 [15,16,17,18,19] [0] (da 20 (((p*7:Nat):Int)) (((p:Int))*(7)) (da 21 (((p*7+3:Nat):Int)) ((((p*7:Nat):Int))+(3)) (ZI 20 24 [22,23,24,25] [0] (dw 26 (Ky bs) (dx 27 (Fl (p*7+3) bs.length om om) ?_)))))))))
 obtain ⟨x3,YN⟩:=Zr bs ((p*7+3) % bs.length) (Nat.mod_lt _ om)
 have hz3:=ZK _ (Y4 YN)
 have hy3:=YN
 exact dx 28 (Zj none (((p*7+3) % bs.length:Nat):Int) 1 (Cf YN)) (Zk 16 17 [29] (dx 30 (CD x3 om) (da 31 ((x3*1117)) ((x3)*(1117)) (da 32 (((x2*131)+(x3*1117))) (((x2*131))+((x3*1117))) (Zk 12 13 [33] (da 34 (((p*29:Nat):Int)) (((p:Int))*(29)) (da 35 ((((x2*131)+(x3*1117))+((p*29:Nat):Int))) ((((x2*131)+(x3*1117)))+(((p*29:Nat):Int))) (ZI 5 10 [36,37,38,39,40] [0] (dw 41 (Ky bs) (dx 42 (BR p bs.length om om) (da 43 ((((p / bs.length:Nat):Int)*53)) ((((p / bs.length:Nat):Int))*(53)) (da 44 (((((x2*131)+(x3*1117))+((p*29:Nat):Int))+(((p / bs.length:Nat):Int)*53))) (((((x2*131)+(x3*1117))+((p*29:Nat):Int)))+((((p / bs.length:Nat):Int)*53))) (Zk 0 1 [45] (de (Y6 2 (Zm (Ic ((((x2*131)+(x3*1117))+((p*29:Nat):Int))+(((p / bs.length:Nat):Int)*53)) 64 om om) (Zm (Oj ((((x2*131)+(x3*1117))+((p*29:Nat):Int))+(((p / bs.length:Nat):Int)*53)) (((((x2*131)+(x3*1117))+((p*29:Nat):Int))+(((p / bs.length:Nat):Int)*53)) / 64)) (Z0 (Y6 2 (Zm (DE (Ar ((((x2*131)+(x3*1117))+((p*29:Nat):Int))+(((p / bs.length:Nat):Int)*53)) (((((x2*131)+(x3*1117))+((p*29:Nat):Int))+(((p / bs.length:Nat):Int)*53)) / 64)) mx om (Gn ⟨by omega,by omega⟩ ⟨by omega,by omega⟩).1) (Zq (r1 [0] ⟨((Ar ((((x2*131)+(x3*1117))+((p*29:Nat):Int))+(((p / bs.length:Nat):Int)*53)) (((((x2*131)+(x3*1117))+((p*29:Nat):Int))+(((p / bs.length:Nat):Int)*53)) / 64)) % mx),rfl,rfl,⟨Pk.rem (Gn ⟨by omega,by omega⟩ ⟨by omega,by omega⟩).1 om,by rw [Ak,Z7 om,Z7 om,hy2,hy3];rfl⟩⟩))))))))))))))))))))))
theorem Z59 (rd:Nat) (bs:LI) (p:Nat) (mx:Nat) (ZK:∀z∈bs,0<=z/\z<=255) (hp:p+1<=1000000000:=by exact ob) (hmx:0<mx:=by exact ob):Zi 79 [.p rd 0,.i mx] [Yv rd bs p] (fun r h=>∃(kn:Nat),r=.i kn/\h=[.obj rd [U8 bs,.i (p+1:Nat)]]/\kn<mx/\kn=(Ak bs p mx).toNat):=(Z58 rd bs p mx ZK hp).mono fun r h ⟨z,hr,hh,hz,he⟩=>by
  have h0:=hz.lt om
  exact ⟨z.toNat,by rw [hr,Int.toNat_of_nonneg h0.1],hh,by omega,by rw [he]⟩
theorem Z1q (s:Z5) (hz:s.sz<=1000000000):Zi 139 [YF s] [] (fun r h=>∃(v:Hd),r=.agg [.i s.op,.i s.num,.i s.into,Z4 s.args,.h v]/\h=[rK v 2 (Zl (YJ s.kids))]):=by
 have hkz:=Tv s
 have haz:=Qe s
 refine ZF 33 Tryz.func139 (ar (iA (Xw s) fun b1=>iA [.i 0,.i 0,.i 0,nl,nl] fun b2=>ie (ar (DB 2 fun g1=>?_))))
 refine Z0 (Yb (ab 0 (Y3 (fun fz gz m F h=>∃(k:Nat) (v:Hd),(k<=s.kids.length)/\F=sF [1,2] fz [(3,.h v),(4,.i k)]/\h=[Zc gz 1,Zc gz 2,rK v 2 (Zl (YJ (s.kids.take k)))]/\m=s.kids.length-k) _ _ _ ⟨0,(⟨some ⟨g1,0,none⟩,0,0⟩:Hd),ob,rfl,rfl,rfl⟩ (wk [1,1,0] (fr (Y9 fl)) (e:=(rc (rc (rr (ls:=[]) ob rz))))) ?_)))
 rintro m F h ⟨k,v,Yf,rfl,rfl,rfl⟩
 refine Yi 3 [1] (iw (Ub s.kids) (Y1 ((k:Int)<(s.kids.length:Int)) (fun Za=>?_) (fun Za=>?_)))
 ·refine ak (aq (ab 1 (az (ZM 4 [1] ?_))))
  obtain ⟨x1,Z3⟩:=Zr s.kids k om
  have hks:=Tt Z3
  exact Zm (Zj none (k:Int) 2 (UN Z3)) (Z2 1 (Zz [] (G5 x1) (iL [ZZ x1] 1 2 fun v1=>ZQ 0 [(20,.sl [ZZ x1] none)] (Fc 3 k v 2 (Zl (YJ (s.kids.take k))) [ZZ x1] none (by rw [Dt,WB,VG om]) (Qj rfl) rfl (List.cons_ne_nil _ _) (by simp<;>omega) fun v2=>Z0 (az (Z2 1 (ZJ k (Z0 (ZL ⟨k+1,v2,ob,rfl,rfl,rfl⟩ (wk [2,2,0] (fr (ZP k fl)) (e:=(rc (rc (rr (ls:=Zl (YJ (s.kids.take k))++Zl [ZZ x1]) (Z3f Z3) rz))))))))))))))
 refine ax 0 (aD 12 (ZI 3 12 [0,1,2,3,4,5,6,7,9] [1,1,1,1] (Z9 8 (dc 8 [] [1,1,1] [b1,b1,b1] (Ui s.args) ?_))))
 rintro _ _ ⟨v3,rfl,rfl⟩
 exact Zk 1 2 [10] (Z9 11 (YI 11 1 [] [] b2 [.i s.op,.i s.num,.i s.into,ZV s.args v3,.h v] (de (ZD (r3 [3] [.agg [.i s.op,.i s.num,.i s.into,ZV s.args v3,.h v]] [0] [(b2,b2)] ⟨v,rfl,rfl⟩ (Zd.agg (.cons (lr _) (.cons (lr _) (.cons (lr _) (.cons (Zd.forget _ _) (.cons (lr _) .nil)))))) (eq:=(rr (ls:=Zl (YJ (s.kids.take k))) (by rw [Vi om]) rz)))))))
theorem Z1p (s:Z5) (fl:Bool) (hz:s.sz<=1000000000:=by exact ob):Zi 139 [YF s] [] (fun r h=>(∃(v:Hd),r=.agg [.i s.op,.i s.num,.i s.into,Z4 s.args,.h v]/\h=[rK v 2 (Zl (YJ s.kids))]/\fl=true)∨(r=YF s/\h=[]/\fl=false)):=by
 cases fl with
 | true=>exact (Z1q s hz).mono fun r h ⟨v,hr,hh⟩=>.inl ⟨v,hr,hh,rfl⟩
 | false=>exact (Rg s hz).mono fun r h ⟨hr,hh⟩=>.inr ⟨hr,hh,rfl⟩
theorem Z1m (b:Z8) (kk:Nat) (hz:b.sz<=1000000000:=by exact ob) (hkk:kk<b.steps.length:=by exact ob):Zi 97 [ZZ b] [] (fun r h=>∃(v:Hd) (u:Hd),r=.agg [.h v,.i b.result]/\h=[rK v 5 (WU b kk u.v b.steps.length),rK u 2 (Te b kk b.steps.length)]):=by
 have hbz:=U0 b
 refine ZF 28 Tryz.func97 (ar (iA (Xg b) fun b1=>iA [nl,.i 0] fun b2=>ie (ar (DB 5 fun g1=>ZM 3 [2] (iA [nl,.i 0] fun b3=>?_)))))
 refine ZH 0 b3 [.ms g1 0 0 0,.i b.result] (ie (X2 (XS (RR (k:=2)) (Z0 (ab 0 (Y3 (fun fz gz m F h=>∃(k:Nat) (v:Hd) (u:Hd),(k<=b.steps.length)/\F=sF [1,2,3] fz [(4,.i k)]/\h=[.obj b3 [.h v,.i b.result],Zc gz 3,Zc gz 4,rK v 5 (WU b kk u.v k),rK u 2 (Te b kk k)]/\m=b.steps.length-k) _ _ _ ⟨0,(⟨some ⟨g1,0,none⟩,0,0⟩:Hd),hN,ob,rfl,rfl,rfl⟩ (wk [1,2,2,1,0] (Y9 fl) (e:=(rc (rc (rc (rr (ls:=[]) (by first|exact Om.symm|exact Oq.symm) (rr (ls:=[]) (by first|exact Om.symm|exact Oq.symm) rz))))))) ?_))))))
 rintro m F h ⟨k,v,u,Yf,rfl,rfl,rfl⟩
 refine Yi 3 [2] (iw (VT b.steps) (Y1 ((k:Int)<(b.steps.length:Int)) (fun Za=>?_) (fun Za=>?_)))
 ·refine ak (aq (ab 1 (aE 12 (ZI 7 12 [0,1,2,3,4] [0,2] ?_))))
  obtain ⟨x1,Z3⟩:=Zr b.steps k om
  have hss:=JJ Z3
  refine dx 5 (Zj none (k:Int) 5 (WL Z3)) (Zk 5 6 [6] (Z9 7 (dc 7 [] [0] [b3] (Z1p x1 (decide (k=kk))) ?_)))
  rintro _ _ (⟨v1,rfl,rfl,ZX⟩|⟨rfl,rfl,Yh⟩)
  ·have hke:k=kk:=of_decide_eq_true ZX
   exact BC (RP [1,1,1,0,0,0] (h':=[.obj b3 [.h v,.i b.result],.obj b2 [nl,.i 0],.obj b1 (Xg b),rK v1 2 (Zl (YJ x1.kids)),rK v 5 (WU b kk u.v k),rK u 2 (Te b kk k)]) (d:=[]) kr) (Z9 8 (dL 8 [0] [b3] [.agg [.i x1.op,.i x1.num,.i x1.into,Z4 x1.args,.h v1]] 1 5 fun v2=>Yt 3 3 [] [(24,.sl [.agg [.i x1.op,.i x1.num,.i x1.into,Z4 x1.args,.h v1]] none)] (Z9 9 (H9 9 5 k [] [] v 5 (WU b kk u.v k) [.agg [.i x1.op,.i x1.num,.i x1.into,Z4 x1.args,.h v1]] none (Ig om) (Qj rfl) rfl (List.cons_ne_nil _ _) (by simp<;>omega) fun v3=>Zk 1 2 [10] (Z9 11 (YI 11 2 [] [] b3 [.h v3,.i b.result] (de (az (Z2 1 (ZJ k (Z0 (ZL ⟨k+1,v3,v1,ob,rfl,rfl,rfl⟩ (wk [0,2,2,0,1] (ZP k fl) (e:=(rc (rc (rc (rr (ls:=WU b kk u.v k++Zl [.agg [.i x1.op,.i x1.num,.i x1.into,Z4 x1.args,.h v1]]) (by first|(subst hke;exact Ol Z3)|(subst hke;exact Oo Z3)) (rr (ls:=Zl (YJ x1.kids)) (by first|(subst hke;exact Ol Z3)|(subst hke;exact Oo Z3)) rz)))))))))))))))))))
  have hke:¬k=kk:=of_decide_eq_false Yh
  exact Z9 8 (dL 8 [0] [b3] [YF x1] 1 5 fun v4=>Yt 3 3 [] [(24,.sl [YF x1] none)] (Z9 9 (H9 9 4 k [] [] v 5 (WU b kk u.v k) [YF x1] none (Ig om) (Qj rfl) rfl (List.cons_ne_nil _ _) (by simp<;>omega) fun v5=>Zk 1 2 [10] (Z9 11 (YI 11 2 [] [] b3 [.h v5,.i b.result] (de (az (Z2 1 (ZJ k (Z0 (ZL ⟨k+1,v5,u,ob,rfl,rfl,rfl⟩ (wk [0,2,2,0,1] (ZP k fl) (e:=(rc (rc (rc (rr (ls:=WU b kk u.v k++Zl [YF x1]) (by first|exact Ok Z3 hke|exact On hke) (rr (ls:=Te b kk k) (by first|exact Ok Z3 hke|exact On hke) rz))))))))))))))))))
 exact ax 0 (Zv 1 [0] (ZH 1 b2 [.h v,.i b.result] (ie (ZD (r3 [3,3] [.agg [.h v,.i b.result]] [0] [(b2,b2)] ⟨v,u,rfl,rfl⟩ (lr _) (eq:=(rr (ls:=WU b kk u.v k) (by rw [show k=b.steps.length by omega]) (rr (ls:=Te b kk k) (by rw [show k=b.steps.length by omega]) rz))))))))
theorem Z5h (rd:Nat) (bs:LI) (p:Nat) (b:Z8) (ZK:∀z∈bs,0<=z/\z<=255) (hp:p+(10*b.sz)<=1000000000) (hz:b.sz<=20000000) (hg:b.rng) (h0:b.steps.length=0):Zi 114 [.p rd 0,ZZ b] [Yv rd bs p] (fun r h=>∃(y:Z8) (p2:Nat),r=ZZ y/\h=[Yv rd bs p2]/\XC b y/\p<=p2/\p2<=p+(10*b.sz)):=by
 have hbp:=b.sz_pos
 refine ZF 109 Tryz.func114 (ar (iA (Xg b) fun b1=>iA [nl,.i 0] fun b2=>ie (Zv 1 [1] (Zz [] (G5 b) (iA [nl,.i 0] fun b3=>ZH 0 b3 (Xg b) (ie (Yi 2 [0] (iw (VT b.steps) (Z2 2 (ib (b:=((b.steps.length:Int)==0)) 14 (fun Zb=>?_) (fun Zb=>?_)))))))))))
 ·refine Z0 (W9 (Y6 1 (iL (Z6 [0,1,2,3,-1,99]) 6 1 fun v1=>ZQ 0 [(20,Z4 [0,1,2,3,-1,99])] (ic [4] (VW rd bs p [0,1,2,3,-1,99] (ZK:=ob)) ?_))))
  rintro _ _ ⟨z1,rfl,rfl,Yh⟩
  exact Z2 1 (ZH 2 b3 [Wv b.steps,.i z1] (ie (Zv 1 [0] (ZH 3 b2 [Wv b.steps,.i z1] (ie (ZD (r3 [2] [.agg [Wv b.steps,.i z1]] [0] [(b2,b2)] ⟨(Z8.mk b.steps z1),p+1,rfl,rfl,⟨XC.result hg _,by have:=b.sz_pos;omega,by have:=b.sz_pos;omega⟩⟩ (lr _))))))))
 have YH:¬((b.steps.length:Int)=0):=Yc Zo Zb
 exact absurd (show (b.steps.length:Int)=0 by omega) YH
theorem Z5i (rd:Nat) (bs:LI) (p:Nat) (b:Z8) (ZK:∀z∈bs,0<=z/\z<=255) (hp:p+(10*b.sz)<=1000000000) (hz:b.sz<=20000000) (hg:b.rng) (h0:0<b.steps.length) (ih:∀(rd:Nat) (bs:LI) (p:Nat) (b2:Z8),(∀z∈bs,0<=z/\z<=255)->(p+(10*b2.sz)<=1000000000)->(b2.sz<=20000000)->(b2.rng)->(b2.sz<b.sz)->Zi 114 [.p rd 0,ZZ b2] [Yv rd bs p] (fun r h=>∃(y:Z8) (p2:Nat),r=ZZ y/\h=[Yv rd bs p2]/\XC b2 y/\p<=p2/\p2<=p+(10*b2.sz))):Zi 114 [.p rd 0,ZZ b] [Yv rd bs p] (fun r h=>∃(y:Z8) (p2:Nat),r=ZZ y/\h=[Yv rd bs p2]/\XC b y/\p<=p2/\p2<=p+(10*b.sz)):=by
 have hbp:=b.sz_pos
 obtain ⟨kk,hkk⟩:∃kk,kk=(Ak bs (p+1) (b.steps.length:Int)).toNat:=⟨_,rfl⟩
 have hkl:kk<b.steps.length:=by have:=Z9u (bs:=bs) (p:=p+1) (mx:=(b.steps.length:Int)) om;omega
 obtain ⟨sk,hsk⟩:=Zr b.steps kk hkl
 have hsb:=JJ hsk
 have hsg:=Zab hg hsk
 have hst:=U0 b
 refine ZF 109 Tryz.func114 (ar (iA (Xg b) fun b1=>iA [nl,.i 0] fun b2=>ie (Zv 1 [1] (ic [] (Z1m b kk) ?_))))
 rintro _ _ ⟨v1,u1,rfl,rfl⟩
 refine Fb 0 b.steps.length (v:=v1) (Ig (kk:=kk) (u:=u1.v) (X4 b.steps.length)) om (fun g1 c1 he1=>?_)
 subst he1
 refine XS (RP [0,1,1,1,0] (h':=[.row (.slice (some ⟨g1,0,none⟩) b.steps.length c1) 5 (WU b kk u1.v b.steps.length),.obj b2 [nl,.i 0],.obj b1 (Xg b),Yv rd bs p,rK u1 2 (Te b kk b.steps.length)]) (d:=[]) kr) (iA [nl,.i 0] fun b3=>ZH 0 b3 [.ms g1 0 b.steps.length c1,.i b.result] (ie (Yi 2 [0] (io (.i b.steps.length) (.i b.steps.length) (lr _) (Z2 2 (ib (b:=((b.steps.length:Int)==0)) 14 (fun Zb=>?_) (fun Zb=>?_)))))))
 ·have ZX:(b.steps.length:Int)=0:=(Zo).1 Zb
  exact absurd ZX om
 have Yh:¬((b.steps.length:Int)=0):=Yc Zo Zb
 refine Z2 1 (ic [4] (Wb rd bs p 5 (ZK:=ob)) ?_)
 rintro _ _ ⟨k1,rfl,rfl,YH⟩
 refine YC (k1==0) Zo (fun Za=>?_) (fun Za=>?_)
 ·refine ar (XS (Lv 5 2 b kk sk u1.v (.slice (some ⟨g1,0,none⟩) b.steps.length c1) hsk) (XS (Tk 0 2 0 (.slice (some ⟨g1,0,none⟩) b.steps.length c1) 5 b3 (Zy b.steps) [.ms g1 0 b.steps.length c1,.i b.result] (Xk _) rfl) (Z2 1 (iL (Z6 [0,1,2,3,-1,99]) 6 1 fun v2=>ZQ 0 [(20,Z4 [0,1,2,3,-1,99])] (ic [4] (VW rd bs (p+1) [0,1,2,3,-1,99] (ZK:=ob)) ?_)))))
  rintro _ _ ⟨z1,rfl,rfl,YQ⟩
  exact Z2 1 (ZH 2 b3 [YY b.steps (.slice (some ⟨g1,0,none⟩) b.steps.length c1),.i z1] (ie (Zv 1 [0] (ZH 5 b2 [YY b.steps (.slice (some ⟨g1,0,none⟩) b.steps.length c1),.i z1] (ie (ZD (r3 [2] [.agg [YY b.steps (.slice (some ⟨g1,0,none⟩) b.steps.length c1),.i z1]] [0] [(b2,b2)] ⟨(Z8.mk b.steps z1),(p+1)+1,rfl,rfl,(by first|exact ⟨XC.result hg _,by omega,by omega⟩|exact ⟨XC.kid hg hsk hck hyb.1,by omega,by omega⟩|exact ⟨XC.del hg,by omega,by omega⟩|exact ⟨XC.put hg,by omega,by omega⟩|exact ⟨XC.set hg hsk ⟨by have:=hys.1.1;omega,hys.1.2⟩,by omega,by omega⟩)⟩ (Zd.agg (.cons (Zd.forget _ _) (.cons (lr _) .nil))))))))))
 refine ak (Zv 3 [1] (io (.i b.steps.length) (.i b.steps.length) (lr _) (ic [0] (Z59 rd bs (p+1) b.steps.length (ZK:=ob)) ?_)))
 rintro _ _ ⟨YE,rfl,rfl,Xa⟩
 have hkn:YE=kk:=by have:=Xa.2;omega
 refine Z0 (Yi 3 [1] (Zm (Wj g1 b.steps.length c1 YE 5 (YE:Int)) (Z2 1 (V2 (Vl 2 g1 b.steps.length c1 5 (YE*5+4) (WU b kk u1.v b.steps.length) [.h u1] 50 (.h u1) (by rw [hkn];exact Fo hsk)) (Zm (Z7q 5 sk.kids.length u1 2 (Te b kk b.steps.length) (by rw [Ih hsk];exact Dt _)) (Z2 2 (ib (b:=(decide ((sk.kids.length:Int)>0))) 37 (fun ZB=>?_) (fun ZB=>?_))))))))
 ·have XP:(sk.kids.length:Int)>0:=(dq).1 ZB
  refine Z2 1 (ic [0] (Wb rd bs ((p+1)+1) 3 (ZK:=ob)) ?_)
  rintro _ _ ⟨k2,rfl,rfl,Wr⟩
  refine Y1 (k2>0) (fun Zg=>?_) (fun Zg=>?_)
  ·refine ar (XS (Lw 5 u1.v 2 (Te b kk b.steps.length) (Zl (YJ sk.kids)) (Ih hsk)) (Fb 0 sk.kids.length (v:=u1) (Dt _) om (fun g2 c2 he2=>?_)))
   subst he2
   refine ZM 4 [2] (Zm (Wj g1 b.steps.length c1 YE 5 (YE:Int)) (Z2 1 (V2 (Vl 3 g1 b.steps.length c1 5 (YE*5+4) (WU b kk (.slice (some ⟨g2,0,none⟩) sk.kids.length c2) b.steps.length) [.ms g2 0 sk.kids.length c2] 50 (.ms g2 0 sk.kids.length c2) (by rw [hkn];exact Fo hsk)) (io (.i sk.kids.length) (.i sk.kids.length) (lr _) (ic [1] (JC rd bs (((p+1)+1)+1) sk.kids.length (ZK:=ob)) ?_)))))
   rintro _ _ ⟨X3,rfl,rfl,WT⟩
   obtain ⟨ck,hck⟩:=Zr sk.kids X3 om
   have hckz:=Tt hck
   have hckb:=JJ hsk
   have hckg:=Za8 hg hsk hck
   refine Z0 (aD 20 (ZI 17 20 [0,1,2] [2] (dx 3 (Wj g1 b.steps.length c1 YE 5 (YE:Int)) (Zk 15 16 [4] (U5 5 (Vl 3 g1 b.steps.length c1 5 (YE*5+4) (WU b kk (.slice (some ⟨g2,0,none⟩) sk.kids.length c2) b.steps.length) [.ms g2 0 sk.kids.length c2] 50 (.ms g2 0 sk.kids.length c2) (by rw [hkn];exact Fo hsk)) (ZI 9 14 [6,7,8,9,10] [2] (dx 11 (Wj g1 b.steps.length c1 YE 5 (YE:Int)) (Zk 7 8 [12] (U5 13 (Vl 3 g1 b.steps.length c1 5 (YE*5+4) (WU b kk (.slice (some ⟨g2,0,none⟩) sk.kids.length c2) b.steps.length) [.ms g2 0 sk.kids.length c2] 50 (.ms g2 0 sk.kids.length c2) (by rw [hkn];exact Fo hsk)) (Zk 5 6 [14] (dx 15 (Wj g2 sk.kids.length c2 X3 2 (X3:Int)) (U5 16 (Vl 1 g2 sk.kids.length c2 2 (X3*2) (Zl (YJ sk.kids)) (Xg ck) 34 (ZZ ck) (Z3e hck)) (Z9 17 (dc 17 [0] [2,1] [g1,b3] (ih rd bs ((((p+1)+1)+1)+1) ck ob ob ob ob ob) ?_))))))))))))))
   rintro _ _ ⟨y1,p21,rfl,rfl,Ve⟩
   have hyb:=Ve
   exact dx 18 (Wj g2 sk.kids.length c2 X3 2 (X3:Int)) (Z9 19 (BB 19 1 [] [] g2 sk.kids.length c2 2 (X3*2) (Xg y1) (Zl (YJ sk.kids)) (Zl (YJ (sk.kids.set X3 y1))) (by rw [Dt];simp only [YS,Xt];omega) (Z3g y1 om) (de (ar (XS (RK 0 2 b kk sk (sk.kids.set X3 y1) (.slice (some ⟨g2,0,none⟩) sk.kids.length c2) (.slice (some ⟨g1,0,none⟩) b.steps.length c1) hsk) (XS (Tk 0 2 0 (.slice (some ⟨g1,0,none⟩) b.steps.length c1) 5 b3 (Zy (b.steps.set kk (Z5.mk sk.op sk.num sk.into sk.args (sk.kids.set X3 y1)))) [.ms g1 0 b.steps.length c1,.i b.result] (Xk _) rfl) (ZM 1 [0] (ZH 4 b2 [YY (b.steps.set kk (Z5.mk sk.op sk.num sk.into sk.args (sk.kids.set X3 y1))) (.slice (some ⟨g1,0,none⟩) b.steps.length c1),.i b.result] (ie (ZD (r3 [4] [.agg [YY (b.steps.set kk (Z5.mk sk.op sk.num sk.into sk.args (sk.kids.set X3 y1))) (.slice (some ⟨g1,0,none⟩) b.steps.length c1),.i b.result]] [0] [(b2,b2)] ⟨(Z8.mk (b.steps.set kk (Z5.mk sk.op sk.num sk.into sk.args (sk.kids.set X3 y1))) b.result),p21,rfl,rfl,(by first|exact ⟨XC.result hg _,by omega,by omega⟩|exact ⟨XC.kid hg hsk hck hyb.1,by omega,by omega⟩|exact ⟨XC.del hg,by omega,by omega⟩|exact ⟨XC.put hg,by omega,by omega⟩|exact ⟨XC.set hg hsk ⟨by have:=hys.1.1;omega,hys.1.2⟩,by omega,by omega⟩)⟩ (Zd.agg (.cons (Zd.forget _ _) (.cons (lr _) .nil))))))))))))))
  refine ak (X2 (XS (Lv 5 2 b kk sk u1.v (.slice (some ⟨g1,0,none⟩) b.steps.length c1) hsk) (Z2 1 (ic [2] (Wb rd bs (((p+1)+1)+1) 4 (ZK:=ob)) ?_))))
  rintro _ _ ⟨k3,rfl,rfl,UD⟩
  refine ie (ab 0 (ar (YC (k3==0) Zo (fun ZC=>?_) (fun ZC=>?_))))
  ·exact aE 12 (ZI 9 12 [0,1,2] [3] (dx 3 (Ib 1 g1 b.steps.length c1 YE 5 (Zl (Zy b.steps))) (ZI 5 8 [4,5,6] [3] (da 7 (((YE+1:Nat):Int)) (((YE:Int))+(1)) (dx 8 (Oh 1 g1 b.steps.length c1 (YE+1) 5 (Zl (Zy b.steps))) (Z9 9 (MO 9 1 [] [] g1 b.steps.length c1 YE (YE+1) 5 (Zl (Zy b.steps)) (VU _) (Zk 1 2 [10] (Z9 11 (YI 11 3 [] [] b3 [.ms g1 0 (YE+(b.steps.length-(YE+1))) c1,.i b.result] (de (ar (XS (Lw 1 (.slice (some ⟨g1,0,none⟩) (YE+(b.steps.length-(YE+1))) c1) 5 (((Zl (Zy b.steps)).take (YE*5))++((Zl (Zy b.steps)).drop ((YE+1)*5))) (Zl (Zy (b.steps.take kk++b.steps.drop (kk+1)))) (by rw [hkn];exact Nh hkl)) (XS (Tk 0 0 0 (.slice (some ⟨g1,0,none⟩) (YE+(b.steps.length-(YE+1))) c1) 5 b3 (Zy (b.steps.take kk++b.steps.drop (kk+1))) [.ms g1 0 (YE+(b.steps.length-(YE+1))) c1,.i b.result] (Xk _) rfl) (ZM 1 [0] (ZH 4 b2 [YY (b.steps.take kk++b.steps.drop (kk+1)) (.slice (some ⟨g1,0,none⟩) (YE+(b.steps.length-(YE+1))) c1),.i b.result] (ie (ZD (r3 [3] [.agg [YY (b.steps.take kk++b.steps.drop (kk+1)) (.slice (some ⟨g1,0,none⟩) (YE+(b.steps.length-(YE+1))) c1),.i b.result]] [0] [(b2,b2)] ⟨(Z8.mk (b.steps.take kk++b.steps.drop (kk+1)) b.result),(((p+1)+1)+1)+1,rfl,rfl,(by first|exact ⟨XC.result hg _,by omega,by omega⟩|exact ⟨XC.kid hg hsk hck hyb.1,by omega,by omega⟩|exact ⟨XC.del hg,by omega,by omega⟩|exact ⟨XC.put hg,by omega,by omega⟩|exact ⟨XC.set hg hsk ⟨by have:=hys.1.1;omega,hys.1.2⟩,by omega,by omega⟩)⟩ (Zd.agg (.cons (Zd.forget _ _) (.cons (lr _) .nil))))))))))))))))))))))
  refine ar (YC (k3==1) Zo (fun Yd=>?_) (fun Yd=>?_))
  ·refine aD 10 (BC (Tk 1 2 0 (.slice (some ⟨g1,0,none⟩) b.steps.length c1) 5 b3 (Zy b.steps) [.ms g1 0 b.steps.length c1,.i b.result] (Xk _) rfl) (ZI 6 10 [0,1,2,5] [0] (Z9 3 (dL 3 [0] [b3] (Z6 [14,15,15,16,17]) 5 1 fun v3=>Yt 5 5 [] [(102,Z4 [14,15,15,16,17])] (Z9 4 (dc 4 [3] [0] [b3] (VW rd bs ((((p+1)+1)+1)+1) [14,15,15,16,17] (ZK:=ob)) ?_))))))
   rintro _ _ ⟨z2,rfl,rfl,Td⟩
   refine Z9 6 (dc 6 [0] [0] [b3] (Wb rd bs (((((p+1)+1)+1)+1)+1) 4 (ZK:=ob)) ?_)
   rintro _ _ ⟨k4,rfl,rfl,US⟩
   exact Z9 7 (Yo 7 [] [1] [b3] (JI z2 k4) (Yt 2 2 [] [(99,ZZ b)] (Z9 8 (Yo 8 [] [] [] (F4 b YE (Zx z2 k4)) (Z9 9 (YI 9 5 [] [] b2 (Xg (Z8.mk (Ww b.steps YE (Zx z2 k4)) b.result)) (de (ZD (r3 [1] [ZZ (Z8.mk (Ww b.steps YE (Zx z2 k4)) b.result)] [0] [(b2,b2)] ⟨(Z8.mk (Ww b.steps YE (Zx z2 k4)) b.result),(((((p+1)+1)+1)+1)+1)+1,rfl,rfl,(by first|exact ⟨XC.result hg _,by omega,by omega⟩|exact ⟨XC.kid hg hsk hck hyb.1,by omega,by omega⟩|exact ⟨XC.del hg,by omega,by omega⟩|exact ⟨XC.put hg,by omega,by omega⟩|exact ⟨XC.set hg hsk ⟨by have:=hys.1.1;omega,hys.1.2⟩,by omega,by omega⟩)⟩ (lr _))))))))))
  refine aE 12 (ZI 5 12 [0,1,2,3,4,5,6] [3,3] (dx 7 (Wj g1 b.steps.length c1 YE 5 (YE:Int)) (U5 8 (Vl 1 g1 b.steps.length c1 5 (YE*5) (Zl (Zy b.steps)) (Xw sk) 52 (YF sk) (by rw [hkn];exact HG hsk)) (Z9 9 (dc 9 [0] [1] [b3] (NE rd bs ((((p+1)+1)+1)+1) sk (ZK:=ob)) ?_)))))
  rintro _ _ ⟨y2,p22,rfl,rfl,Qi⟩
  have hys:=Qi
  exact dx 10 (Wj g1 b.steps.length c1 YE 5 (YE:Int)) (Z9 11 (BB 11 1 [] [] g1 b.steps.length c1 5 (YE*5) (Xw y2) (Zl (Zy b.steps)) (Zl (Zy (b.steps.set kk y2))) (by rw [QD];simp only [YS,Xt];omega) (by rw [hkn];exact EU hsk) (de (ar (XS (Tk 0 2 0 (.slice (some ⟨g1,0,none⟩) b.steps.length c1) 5 b3 (Zy (b.steps.set kk y2)) [.ms g1 0 b.steps.length c1,.i b.result] (Xk _) rfl) (ZM 1 [0] (ZH 4 b2 [YY (b.steps.set kk y2) (.slice (some ⟨g1,0,none⟩) b.steps.length c1),.i b.result] (ie (ZD (r3 [3] [.agg [YY (b.steps.set kk y2) (.slice (some ⟨g1,0,none⟩) b.steps.length c1),.i b.result]] [0] [(b2,b2)] ⟨(Z8.mk (b.steps.set kk y2) b.result),p22,rfl,rfl,(by first|exact ⟨XC.result hg _,by omega,by omega⟩|exact ⟨XC.kid hg hsk hck hyb.1,by omega,by omega⟩|exact ⟨XC.del hg,by omega,by omega⟩|exact ⟨XC.put hg,by omega,by omega⟩|exact ⟨XC.set hg hsk ⟨by have:=hys.1.1;omega,hys.1.2⟩,by omega,by omega⟩)⟩ (Zd.agg (.cons (Zd.forget _ _) (.cons (lr _) .nil)))))))))))))
 have Q3:¬((sk.kids.length:Int)>0):=Yc dq ZB
 refine Z0 (Wn (ak (X2 (XS (Lv 5 2 b kk sk u1.v (.slice (some ⟨g1,0,none⟩) b.steps.length c1) hsk) (Z2 1 (ic [2] (Wb rd bs ((p+1)+1) 4 (ZK:=ob)) ?_))))))
 rintro _ _ ⟨k5,rfl,rfl,KH⟩
 refine ie (ab 0 (ar (YC (k5==0) Zo (fun Xf=>?_) (fun Xf=>?_))))
 ·exact aE 12 (ZI 9 12 [0,1,2] [3] (dx 3 (Ib 1 g1 b.steps.length c1 YE 5 (Zl (Zy b.steps))) (ZI 5 8 [4,5,6] [3] (da 7 (((YE+1:Nat):Int)) (((YE:Int))+(1)) (dx 8 (Oh 1 g1 b.steps.length c1 (YE+1) 5 (Zl (Zy b.steps))) (Z9 9 (MO 9 1 [] [] g1 b.steps.length c1 YE (YE+1) 5 (Zl (Zy b.steps)) (VU _) (Zk 1 2 [10] (Z9 11 (YI 11 3 [] [] b3 [.ms g1 0 (YE+(b.steps.length-(YE+1))) c1,.i b.result] (de (ar (XS (Lw 1 (.slice (some ⟨g1,0,none⟩) (YE+(b.steps.length-(YE+1))) c1) 5 (((Zl (Zy b.steps)).take (YE*5))++((Zl (Zy b.steps)).drop ((YE+1)*5))) (Zl (Zy (b.steps.take kk++b.steps.drop (kk+1)))) (by rw [hkn];exact Nh hkl)) (XS (Tk 0 0 0 (.slice (some ⟨g1,0,none⟩) (YE+(b.steps.length-(YE+1))) c1) 5 b3 (Zy (b.steps.take kk++b.steps.drop (kk+1))) [.ms g1 0 (YE+(b.steps.length-(YE+1))) c1,.i b.result] (Xk _) rfl) (ZM 1 [0] (ZH 4 b2 [YY (b.steps.take kk++b.steps.drop (kk+1)) (.slice (some ⟨g1,0,none⟩) (YE+(b.steps.length-(YE+1))) c1),.i b.result] (ie (ZD (r3 [3] [.agg [YY (b.steps.take kk++b.steps.drop (kk+1)) (.slice (some ⟨g1,0,none⟩) (YE+(b.steps.length-(YE+1))) c1),.i b.result]] [0] [(b2,b2)] ⟨(Z8.mk (b.steps.take kk++b.steps.drop (kk+1)) b.result),((p+1)+1)+1,rfl,rfl,(by first|exact ⟨XC.result hg _,by omega,by omega⟩|exact ⟨XC.kid hg hsk hck hyb.1,by omega,by omega⟩|exact ⟨XC.del hg,by omega,by omega⟩|exact ⟨XC.put hg,by omega,by omega⟩|exact ⟨XC.set hg hsk ⟨by have:=hys.1.1;omega,hys.1.2⟩,by omega,by omega⟩)⟩ (Zd.agg (.cons (Zd.forget _ _) (.cons (lr _) .nil))))))))))))))))))))))
 refine ar (YC (k5==1) Zo (fun Xb=>?_) (fun Xb=>?_))
 ·refine aD 10 (BC (Tk 1 2 0 (.slice (some ⟨g1,0,none⟩) b.steps.length c1) 5 b3 (Zy b.steps) [.ms g1 0 b.steps.length c1,.i b.result] (Xk _) rfl) (ZI 6 10 [0,1,2,5] [0] (Z9 3 (dL 3 [0] [b3] (Z6 [14,15,15,16,17]) 5 1 fun v4=>Yt 5 5 [] [(102,Z4 [14,15,15,16,17])] (Z9 4 (dc 4 [3] [0] [b3] (VW rd bs (((p+1)+1)+1) [14,15,15,16,17] (ZK:=ob)) ?_))))))
  rintro _ _ ⟨z3,rfl,rfl,KI⟩
  refine Z9 6 (dc 6 [0] [0] [b3] (Wb rd bs ((((p+1)+1)+1)+1) 4 (ZK:=ob)) ?_)
  rintro _ _ ⟨k6,rfl,rfl,AR⟩
  exact Z9 7 (Yo 7 [] [1] [b3] (JI z3 k6) (Yt 2 2 [] [(99,ZZ b)] (Z9 8 (Yo 8 [] [] [] (F4 b YE (Zx z3 k6)) (Z9 9 (YI 9 5 [] [] b2 (Xg (Z8.mk (Ww b.steps YE (Zx z3 k6)) b.result)) (de (ZD (r3 [1] [ZZ (Z8.mk (Ww b.steps YE (Zx z3 k6)) b.result)] [0] [(b2,b2)] ⟨(Z8.mk (Ww b.steps YE (Zx z3 k6)) b.result),((((p+1)+1)+1)+1)+1,rfl,rfl,(by first|exact ⟨XC.result hg _,by omega,by omega⟩|exact ⟨XC.kid hg hsk hck hyb.1,by omega,by omega⟩|exact ⟨XC.del hg,by omega,by omega⟩|exact ⟨XC.put hg,by omega,by omega⟩|exact ⟨XC.set hg hsk ⟨by have:=hys.1.1;omega,hys.1.2⟩,by omega,by omega⟩)⟩ (lr _))))))))))
 refine aE 12 (ZI 5 12 [0,1,2,3,4,5,6] [3,3] (dx 7 (Wj g1 b.steps.length c1 YE 5 (YE:Int)) (U5 8 (Vl 1 g1 b.steps.length c1 5 (YE*5) (Zl (Zy b.steps)) (Xw sk) 52 (YF sk) (by rw [hkn];exact HG hsk)) (Z9 9 (dc 9 [0] [1] [b3] (NE rd bs (((p+1)+1)+1) sk (ZK:=ob)) ?_)))))
 rintro _ _ ⟨y3,p23,rfl,rfl,Jf⟩
 have hys:=Jf
 exact dx 10 (Wj g1 b.steps.length c1 YE 5 (YE:Int)) (Z9 11 (BB 11 1 [] [] g1 b.steps.length c1 5 (YE*5) (Xw y3) (Zl (Zy b.steps)) (Zl (Zy (b.steps.set kk y3))) (by rw [QD];simp only [YS,Xt];omega) (by rw [hkn];exact EU hsk) (de (ar (XS (Tk 0 2 0 (.slice (some ⟨g1,0,none⟩) b.steps.length c1) 5 b3 (Zy (b.steps.set kk y3)) [.ms g1 0 b.steps.length c1,.i b.result] (Xk _) rfl) (ZM 1 [0] (ZH 4 b2 [YY (b.steps.set kk y3) (.slice (some ⟨g1,0,none⟩) b.steps.length c1),.i b.result] (ie (ZD (r3 [3] [.agg [YY (b.steps.set kk y3) (.slice (some ⟨g1,0,none⟩) b.steps.length c1),.i b.result]] [0] [(b2,b2)] ⟨(Z8.mk (b.steps.set kk y3) b.result),p23,rfl,rfl,(by first|exact ⟨XC.result hg _,by omega,by omega⟩|exact ⟨XC.kid hg hsk hck hyb.1,by omega,by omega⟩|exact ⟨XC.del hg,by omega,by omega⟩|exact ⟨XC.put hg,by omega,by omega⟩|exact ⟨XC.set hg hsk ⟨by have:=hys.1.1;omega,hys.1.2⟩,by omega,by omega⟩)⟩ (Zd.agg (.cons (Zd.forget _ _) (.cons (lr _) .nil)))))))))))))
theorem Z5g (rd:Nat) (bs:LI) (p:Nat) (b:Z8) (ZK:∀z∈bs,0<=z/\z<=255) (hp:p+10*b.sz<=1000000000:=by exact ob) (hz:b.sz<=20000000:=by exact ob) (hg:b.rng:=by exact ob):Zi 114 [.p rd 0,ZZ b] [Yv rd bs p] (fun r h=>∃(y:Z8) (p2:Nat),r=ZZ y/\h=[Yv rd bs p2]/\XC b y/\p<=p2/\p2<=p+(10*b.sz)):=by
 have key:∀k:Nat,∀(rd:Nat) (bs:LI) (p:Nat) (b2:Z8),(∀z∈bs,0<=z/\z<=255)->(p+(10*b2.sz)<=1000000000)->(b2.sz<=20000000)->(b2.rng)->(b2.sz<k)->Zi 114 [.p rd 0,ZZ b2] [Yv rd bs p] (fun r h=>∃(y:Z8) (p2:Nat),r=ZZ y/\h=[Yv rd bs p2]/\XC b2 y/\p<=p2/\p2<=p+(10*b2.sz)):=by
  intro k
  induction k with
  | zero=>intro rd bs p b2 h1 h2 h3 h4 h5;omega
  | succ k ih=>
   intro rd bs p b2 h1 h2 h3 h4 h5
   by_cases h0:b2.steps.length=0
   ·exact Z5h rd bs p b2 h1 h2 h3 h4 h0
   ·exact Z5i rd bs p b2 h1 h2 h3 h4 om fun rd bs p b3 q1 q2 q3 q4 q5=>ih rd bs p b3 q1 q2 q3 q4 om
 exact key (b.sz+1) rd bs p b ZK hp hz hg om
theorem Z5j (rd:Nat) (bs:LI) (p:Nat) (n:Zp) (often:Nat) (q:Nat) (l:Nat) (ZK:∀z∈bs,0<=z/\z<=255) (hp:p+(10*q+20)<=1000000000:=by exact ob) (hzn:ZS n q l:=by exact ob) (hq:q<=9999000:=by exact ob) (hl:l<=100:=by exact ob) (ho:0<often:=by exact ob):Zi 72 [.p rd 0,Yl n,.i often] [Yv rd bs p] (fun r h=>∃(n2:Zp) (p2:Nat),r=Yl n2/\h=[Yv rd bs p2]/\ZS n2 (q+2) (l+1)/\p<=p2/\p2<=p+(10*q+20)):=by
 have hnl:=hzn.len
 refine ZF 64 Tryz.func72 (ar (iA (YR n) fun b1=>iA [nl,nl] fun b2=>ie (YM 2 (ic [2] (JC rd bs p often (ZK:=ob)) ?_))))
 rintro _ _ ⟨YE,rfl,rfl,ZX⟩
 refine Y1 ((YE:Int)>0) (fun Za=>?_) (fun Za=>?_)
 ·exact Zv 1 [2] (ZH 1 b2 (YR n) (ie (ZD (r3 [1] [Yl n] [0] [(b2,b2)] ⟨n,p+1,rfl,rfl,(by first|exact ⟨hzn.le om om,by omega,by omega⟩|exact ⟨hzn.set hx1k om om om om hz1.2.2.2,by omega,by omega⟩|exact ⟨(hzn.le om om).ds had.1,by omega,by omega⟩|exact ⟨hzn.set hx2k om om om (by have:=hsb.1.1;omega) hsb.1.2,by omega,by omega⟩)⟩ (lr _)))))
 refine ak (Zv 3 [2] (iw (Uc n.routines) (ic [0] (JC rd bs (p+1) n.routines.length (ZK:=ob)) ?_)))
 rintro _ _ ⟨X3,rfl,rfl,Yh⟩
 refine Z0 (YM 1 (ic [0] (Wb rd bs ((p+1)+1) 8 (ZK:=ob)) ?_))
 rintro _ _ ⟨k1,rfl,rfl,YH⟩
 refine ie (ab 0 (ar (YC (k1==0) Zo (fun Zg=>?_) (fun Zg=>?_))))
 ·refine aD 11 (ZI 6 11 [0,1,2,3,4] [2,2] ?_)
  obtain ⟨x1,Z3⟩:=Zr n.routines X3 om
  have hx1k:=Z3
  have hz1:=hzn.rt _ (Y4 Z3)
  refine dx 5 (Zj none (X3:Int) 5 (WR Z3)) (Zk 3 5 [6,7] (Kx (fun fz gz F h=>∃(g1:Nat) (c1:Nat) (b3:Nat),F=sF [0,6,7] fz [(8,.p b3 0)]/\h=[.obj b3 [ZT n.decls,.ms g1 0 n.routines.length c1],.row (.slice (some ⟨g1,0,none⟩) n.routines.length c1) 5 (Zl (YO (n.routines.set X3 (Yg.mk x1.params x1.lent x1.result x1.body)))),Zc gz 0,Zc gz 1,Zc gz 2]) ?_ ?_))
  ·refine VA 8 9 ?_ ?_
   ·refine dc 8 [] [] [] (HS n X3 x1.body x1 (hr:=Z3)) ?_
    rintro _ _ ⟨g1,c1,rfl,rfl⟩
    exact Z9 9 (dA 9 [] [] [nl,nl] fun b3=>Z9 10 (YI 10 0 [] [] b3 [ZT n.decls,.ms g1 0 n.routines.length c1] (de (ZO ⟨g1,c1,b3,rfl,rfl⟩ (ZG 5 fl)))))
   refine dA 9 [2,2] [b1,b1] [nl,nl] fun b4=>Z9 8 (dc 8 [] [] [] (HS n X3 x1.body x1 (hr:=Z3)) ?_)
   rintro _ _ ⟨g2,c2,rfl,rfl⟩
   exact Z9 10 (YI 10 1 [] [] b4 [ZT n.decls,.ms g2 0 n.routines.length c2] (de (ZO ⟨g2,c2,b4,rfl,rfl⟩ (ZG 5 fl))))
  rintro F h ⟨g1,c1,b3,rfl,rfl⟩
  refine aD 14 (ZI 7 14 [0,1,2,3,4,5,6] [0,0] (dx 7 (Wj g1 n.routines.length c1 X3 5 (X3:Int)) (Zk 5 6 [8] (U5 9 (Vl 1 g1 n.routines.length c1 5 (X3*5+1) (Zl (YO (n.routines.set X3 (Yg.mk x1.params x1.lent x1.result x1.body)))) [Z4 x1.lent] 31 (Z4 x1.lent) (Z3i om _)) (Z9 10 (dc 10 [2] [0] [b3] (Z5k rd bs (((p+1)+1)+1) x1.lent (ZK:=ob)) ?_))))))
  rintro _ _ ⟨zs1,p21,rfl,rfl,YQ⟩
  have hsi:=YQ
  exact dx 11 (Wj g1 n.routines.length c1 X3 5 (X3:Int)) (Zk 1 2 [12] (Z9 13 (BB 13 2 [] [] g1 n.routines.length c1 5 (X3*5+1) [Z4 zs1] (Zl (YO (n.routines.set X3 (Yg.mk x1.params x1.lent x1.result x1.body)))) (Zl (YO (n.routines.set X3 (Yg.mk x1.params zs1 x1.result x1.body)))) (by rw [ES,Uw];simp only [YS,Xt];omega) (Z3k om _ _) (de (ar (XS (Tk 0 1 1 (.slice (some ⟨g1,0,none⟩) n.routines.length c1) 5 b3 (YO (n.routines.set X3 (Yg.mk x1.params zs1 x1.result x1.body))) [ZT n.decls,.ms g1 0 n.routines.length c1] (UP _) rfl) (ZM 1 [0] (ZH 3 b2 [ZT n.decls,Wz (n.routines.set X3 (Yg.mk x1.params zs1 x1.result x1.body)) (.slice (some ⟨g1,0,none⟩) n.routines.length c1)] (ie (ZD (r3 [3] [.agg [ZT n.decls,Wz (n.routines.set X3 (Yg.mk x1.params zs1 x1.result x1.body)) (.slice (some ⟨g1,0,none⟩) n.routines.length c1)]] [0] [(b2,b2)] ⟨(Zp.mk n.decls (n.routines.set X3 (Yg.mk x1.params zs1 x1.result x1.body))),p21,rfl,rfl,(by first|exact ⟨hzn.le om om,by omega,by omega⟩|exact ⟨hzn.set hx1k om om om om hz1.2.2.2,by omega,by omega⟩|exact ⟨(hzn.le om om).ds had.1,by omega,by omega⟩|exact ⟨hzn.set hx2k om om om (by have:=hsb.1.1;omega) hsb.1.2,by omega,by omega⟩)⟩ (Zd.agg (.cons (lr _) (.cons (Zd.forget _ _) .nil))))))))))))))
 refine ar (YC (k1==1) Zo (fun ZC=>?_) (fun ZC=>?_))
 ·refine aD 6 (ZI 3 6 [0,2,3] [2] (Z9 1 (dc 1 [0] [1] [b1] (Z3s rd bs (((p+1)+1)+1) (ZK:=ob)) ?_)))
  rintro _ _ ⟨dz1,p22,rfl,rfl,Xa⟩
  have had:=Xa
  exact Zk 1 2 [4] (Z9 5 (YI 5 1 [] [] b2 [ZT dz1,Kf n.routines] (de (ZD (r3 [1] [.agg [ZT dz1,Kf n.routines]] [0] [(b2,b2)] ⟨(Zp.mk dz1 n.routines),p22,rfl,rfl,(by first|exact ⟨hzn.le om om,by omega,by omega⟩|exact ⟨hzn.set hx1k om om om om hz1.2.2.2,by omega,by omega⟩|exact ⟨(hzn.le om om).ds had.1,by omega,by omega⟩|exact ⟨hzn.set hx2k om om om (by have:=hsb.1.1;omega) hsb.1.2,by omega,by omega⟩)⟩ (lr _))))))
 refine ak (aD 12 (ZI 6 12 [0,1,2,3,4,5] [2,2] ?_))
 obtain ⟨x2,Zu⟩:=Zr n.routines X3 om
 have hx2k:=Zu
 have hz2:=hzn.rt _ (Y4 Zu)
 refine dx 6 (Zj none (X3:Int) 5 (WR Zu)) (Zk 3 5 [7,8] (Z9 9 (dc 9 [0] [1] [b1] (Z5g rd bs (((p+1)+1)+1) x2.body (ZK:=ob) (hg:=hz2.2.2.2)) ?_)))
 rintro _ _ ⟨y1,p23,rfl,rfl,XP⟩
 have hsb:=XP
 exact Z9 10 (Yo 10 [] [] [] (NF n X3 y1 x2 (hr:=Zu)) (Z9 11 (YI 11 1 [] [] b2 (YR (withR n X3 x2 y1)) (de (ZD (r3 [1] [Yl (withR n X3 x2 y1)] [0] [(b2,b2)] ⟨(withR n X3 x2 y1),p23,rfl,rfl,(by first|exact ⟨hzn.le om om,by omega,by omega⟩|exact ⟨hzn.set hx1k om om om om hz1.2.2.2,by omega,by omega⟩|exact ⟨(hzn.le om om).ds had.1,by omega,by omega⟩|exact ⟨hzn.set hx2k om om om (by have:=hsb.1.1;omega) hsb.1.2,by omega,by omega⟩)⟩ (lr _)))))))
theorem R9 (n:Zp) (hz:Tl n:=by exact ob):Zi 31 [Yl n] [] (Yk (.b (Vj n))):=by
 exact ZF 5 Tryz.func31 (ar (iA (YR n) fun b1=>Z0 (Zv 1 [0] (Zz [] (Zbx n) (Zq (E8))))))
theorem Z6p (n:Zp) (f:Int) (hz:Tl n:=by exact ob) (hV:XU n=true:=by exact ob) (hf:0<=f/\f<n.routines.length:=by exact ob) (hr:∀r∈n.routines,r.body.rng):Zi 74 [Yl n,.i f] [] (Yk (.b (K8 n f))):=by
 obtain ⟨f0,rfl⟩:∃f0:Nat,f=(f0:Int):=⟨f.toNat,by omega⟩
 obtain ⟨rt,hrt⟩:=Zr n.routines f0 om
 have hrm:=Y4 hrt
 obtain ⟨hok,hall⟩:=Gi hz hV
 rw [GV hV om (by simpa using hrt)]
 have hsg:VL n=true:=by rw [XU,W2] at hV;exact hV.1
 exact NW n f0 rt (hn:=hok) (hty:=Iy hsg) (hlt:=OT hsg) (hz:=hz) (hs:=hsg) (hr:=hrt) (ht:=hall rt hrm) (hrr:=hr rt hrm)
theorem Z6j (n:Zp) (f:Int) (hz:Tl n:=by exact ob) (hr:∀r∈n.routines,r.body.rng):Zi 33 [Yl n,.i f] [] (Yk (.b (K8 n f))):=by
 have hzl:=hz.len
 refine ZF 23 Tryz.func33 (ar (iA (YR n) fun b1=>Z0 (Zv 1 [0] (Zz [] (I2 n (hr:=hr)) (XH 6 [1,2] [(10,.b (XU n&&(decide (f>=0))))] (fun gz=>gz) ?_ (fun hj1=>?_))))))
 ·refine XH 13 [1,2] [(17,.b ((XU n&&(decide (f>=0)))&&(decide (f<(n.routines.length:Int)))))] (fun gz=>gz) ?_ (fun hj2=>?_)
  ·refine XH 18 [] [(22,.b (((XU n&&(decide (f>=0)))&&(decide (f<(n.routines.length:Int))))&&(K8 n f)))] (fun gz=>gz) ?_ (fun hj3=>?_)
   ·exact Zq (ZY (.b (((XU n&&(decide (f>=0)))&&(decide (f<(n.routines.length:Int))))&&(K8 n f))) (lb (by cases hb:K8 n f with|false=>simp|true=>(obtain ⟨h1,h2,r,h3,_⟩:=Z05 hb;have h4:=(Xn.1 h3).1;simp [h1];omega))))
   refine Z2 1 (ib (b:=((XU n&&(decide (f>=0)))&&(decide (f<(n.routines.length:Int))))) 18 (fun Zb=>?_) (fun Zb=>?_))
   ·have ZX:((XU n=true)/\(f>=0))/\(f<(n.routines.length:Int)):=((YB (YB Iff.rfl dq) dq)).1 Zb
    exact ZM 2 [0] (Zz [] (Z6p n f (hV:=(by first|exact ZX.1|exact ZX.1.1)) (hr:=hr)) (Z2 1 (Yu (wk [0] (Zs (K8 n f) Zb fl)) hj3)))
   have Yh:¬(((XU n=true)/\(f>=0))/\(f<(n.routines.length:Int))):=Yc (YB (YB Iff.rfl dq) dq) Zb
   exact Z2 4 (Yu (wk [0] (Zs false Zb fl)) hj3)
  refine Z2 1 (ib (b:=(XU n&&(decide (f>=0)))) 11 (fun ZB=>?_) (fun ZB=>?_))
  ·have YH:(XU n=true)/\(f>=0):=((YB Iff.rfl dq)).1 ZB
   exact ZM 3 [0] (iw (Uc n.routines) (Z2 2 (Yu (wk [0] (Zs (decide (f<(n.routines.length:Int))) ZB fl)) hj2)))
  have YQ:¬((XU n=true)/\(f>=0)):=Yc (YB Iff.rfl dq) ZB
  exact Z2 6 (Yu (wk [0] (Zs false ZB fl)) hj2)
 refine Z2 1 (ib (b:=XU n) 7 (fun Yz=>?_) (fun Yz=>?_))
 ·have Xa:XU n=true:=(Iff.rfl).1 Yz
  exact Z2 3 (Yu (wk [0] (Zs (decide (f>=0)) Yz fl)) hj1)
 have XP:¬(XU n=true):=Yc Iff.rfl Yz
 exact Z2 3 (Yu (wk [0] (Zs false Yz fl)) hj1)
theorem Z3r (code:LI) (hcl:code.length<=1048576:=by exact ob) (hcb:∀z∈code,0<=z/\z<=255):Zi 29 [U8 code] [] (fun r h=>∃(n2:Zp),r=Yl n2/\h=[]/\ZS n2 7330632 11):=by
 refine ZF 10 Tryz.func29 (ar (iA [nl,nl] fun b1=>ie (Y6 1 (ic [] (Z50 code (hc:=hcb)) ?_))))
 rintro _ _ ⟨rd1,bs1,rfl,rfl,ZX⟩
 have hnr:=ZX
 refine Z0 (Y6 2 (ic [0] (Z3u rd1 bs1 0 (ZK:=hnr)) ?_))
 rintro _ _ ⟨n1,p21,rfl,rfl,Yh⟩
 have hbf:=Yh.1.zs
 refine ic [0] (Z5j rd1 bs1 p21 n1 3 7330630 10 (ZK:=hnr) (hzn:=hbf)) ?_
 rintro _ _ ⟨n21,p22,rfl,rfl,YH⟩
 have hsf:=YH
 exact ZH 1 b1 (YR n21) (ie (ZD (r3 [] [Yl n21] [0] [(b1,b1)] ⟨n21,rfl,rfl,hsf.1⟩ (lr _))))
theorem Z82 (code:LI) (hcb:∀z∈code,0<=z/\z<=255):Zi 6 [U8 code] [] (Yk (.b true)):=by
 refine ZF 43 Tryz.func6 (ZE (YM 1 (iw (Ky code) (Y1 ((code.length:Int)>1048576) (fun Za=>?_) (fun Za=>?_)))))
 ·exact ar (Zq (E8))
 have hcl:code.length<=1048576:=by omega
 refine ak (Y6 1 (ic [] (Z3r code (hcl:=hcl) (hcb:=hcb)) ?_))
 rintro _ _ ⟨n21,rfl,rfl,ZX⟩
 have hzs:=ZX
 have hzn:=hzs.sz om om
 have hln:=hzs.len
 have hrg:∀r∈n21.routines,r.body.rng:=fun r hr=>(hzs.rt r hr).2.2.2
 refine iA [nl,nl] fun b1=>ZH 0 b1 (YR n21) (ie (Zv 1 [0] (Zz [] (Z6k n21 (hr:=ob)) (Z0 (Yi 2 [0] (Zz [] (R9 n21) (Zm (Z7o (Vj n21) (Vj n21)) (Xo [3,4] [(22,.b (((Vj n21) != (Vj n21))||(!XU n21)))] (fun gz=>gz) ?_ ?_))))))))
 ·refine Z2 1 (ib (b:=((Vj n21) != (Vj n21))) 18 (fun Zb=>?_) (fun Zb=>?_))
  ·have Yh:(Vj n21)≠(Vj n21):=(Yn).1 Zb
   exact Z0 (wk [0] (fc (x:=.b true) (lb (by rw [Zb];rfl)) fl))
  have YH:¬((Vj n21)≠(Vj n21)):=Yc Yn Zb
  exact ZM 1 [0] (Zz [] (I2 n21 (hr:=ob)) (Z0 (wk [0] (fc (x:=.b (!XU n21)) (lb (by rw [Zb];rfl)) fl))))
 refine ac (((Vj n21) != (Vj n21))||(!XU n21)) (p:=((Vj n21)≠(Vj n21))∨(¬(XU n21=true))) (Yx Yn (YD Iff.rfl)) (fun Zg=>?_) (fun Zg=>?_)
 ·exact Zv 2 [0] (Zz [] (R9 n21) (Zm (Oe (Vj n21) (Vj n21)) (Zq (ZY (.b ((Vj n21)==(Vj n21))) (lb (by first|(simp;done)|(rw [Mk hV om];simp)))))))
 have hV:XU n21=true:=Gs fun z=>Zg (.inr z)
 refine ak (ZE (Yb (ab 0 (Y3 (fun fz gz m F h=>∃(k:Nat),(k<=n21.routines.length)/\F=sF [3,4] fz [(5,.b (Vp n21 (n21.routines.take k))),(6,.i k)]/\h=gz/\m=n21.routines.length-k) _ _ _ ⟨0,ob,rfl,rfl,rfl⟩ (wk [0] (fc (x:=.b true) lb (Y9 fl))) ?_))))
 rintro m F h ⟨k,Yf,rfl,rfl,rfl⟩
 refine Yi 3 [0] (iw (Uc n21.routines) (Y1 ((k:Int)<(n21.routines.length:Int)) (fun ZC=>?_) (fun ZC=>?_)))
 ·refine ak (aq (ab 1 (az (XH 6 [3,4,6] [(39,.b ((Vp n21 (n21.routines.take k))&&(K8 n21 (k:Int))))] (fun gz=>gz) ?_ (fun hj1=>?_)))))
  ·exact Z0 (az (Z2 1 (ZJ k (Z0 (ZL ⟨k+1,ob,rfl,rfl,rfl⟩ (wk [0] (fc (x:=.b ((Vp n21 (n21.routines.take k))&&(K8 n21 (k:Int)))) (lb (by first|rfl|(obtain ⟨r,hr⟩:=Zr n21.routines k om;rw [Mm hr,GV hV om (by simpa using hr)]))) (fc (x:=.i (k+1:Nat)) (li (by first|rfl|(obtain ⟨r,hr⟩:=Zr n21.routines k om;rw [Mm hr,GV hV om (by simpa using hr)]))) fl))))))))
  refine Z2 2 (ib (b:=(Vp n21 (n21.routines.take k))) 35 (fun ZB=>?_) (fun ZB=>?_))
  ·have YQ:(Vp n21 (n21.routines.take k))=true:=(Iff.rfl).1 ZB
   exact ZM 2 [0] (Zz [] (Z6j n21 (k:Int) (hr:=ob)) (Z2 1 (Yu (wk [0] (fc (x:=.b (K8 n21 (k:Int))) (lb (by rw [ZB];rfl)) fl)) hj1)))
  have Xa:¬((Vp n21 (n21.routines.take k))=true):=Yc Iff.rfl ZB
  exact Z2 4 (Yu (wk [0] (fc (x:=.b false) (lb (by rw [ZB];rfl)) fl)) hj1)
 exact ax 0 (Y6 2 (Zm (Oe (Vp n21 (n21.routines.take k)) (Vj n21)) (Zq (ZY (.b ((Vp n21 (n21.routines.take k))==(Vj n21))) (lb (by first|(simp;done)|(rw [Mk hV om];simp)))))))
end Go.Abs
section
namespace Go.Proofs.YtjmahledcmocoaaGreat.fnBalanced
open Go.ChangeShapes Go.WideShapes Go.ChangeAt Go.RowKit Go.Abs
theorem own:ownKnob Tryz.prog.godebug=none:=by kernel_rfl
theorem kids:Kids Tryz.prog (·<Tryz.prog.types.size):=kids_rows kr kr
theorem Z3q:∀t e,t<Tryz.prog.types.size->Tryz.prog.underlying t=some (.slice e)->0<Tryz.prog.cellsOf e:=slices_full_of Tryz.prog kr
theorem PQ {w w':World} {G G':Y7} {h':List Res} (hx:YU w G [] w' G' h'):∀b,b<w.heap.size->w'.heap[b]? = w.heap[b]?:=
 fun b hb=>(hx.same b hb).eq fun o ⟨r,hr,_⟩=>by cases hr
theorem Z0u {w w':World} {b o:Nat} (h:w'.heap[b]? = w.heap[b]?):w'.cell? ⟨b,o,none⟩=w.cell? ⟨b,o,none⟩:=by simp [World.cell?,h]
theorem Z8p {t:Nat} (h:Nat.blt t Tryz.prog.types.size=true):t<Tryz.prog.types.size:=Nat.le_of_ble_eq_true h
set_option maxRecDepth 100000 in
theorem Z1l (H:Type) (enc:TypeId × Value->H) (W:World) (base:Nat) (args:Array Value) (ds gs:List (DataW H)) (before:List MemPlace) (hval:∀(j:Nat) t v,Tryz.f6.params[j]? = some t->args[j]? = some v->Value.okWide Tryz.prog W .any base t v)
  (hW:DataW.Whole enc Tryz.prog Tryz.f6.params.toList Rows.fnBalancedSpec.vars false W args.toList ds gs before) :
  Calls Tryz.prog 6 args W fun e W'=>∃v,e=.returned v/\Rows.fnBalancedSpec.post enc Tryz.prog Tryz.f6 false true false false W args v W':=by
 have hW':=hW
 obtain ⟨p,q,hA0,hV,rfl,hfz,hnd⟩:=hW
 have hA:DataW.TrodAll enc Tryz.prog W 0 (fun _=>true) true Tryz.f6.params.toList args.toList ds p:=hA0
 rw [Tryz.params6] at hA
 obtain ⟨v0,vs0,d0,ds0,p0,q0,hargs,rfl,rfl,h0,r0⟩:=trodAll_cons hA
 obtain ⟨rfl,rfl,rfl⟩:=trodAll_nil r0
 obtain rfl:args=#[v0]:=by cases args;simp_all
 obtain ⟨rfl,rfl⟩:=trodVars_none hV
 obtain ⟨fuel,htr⟩:=h0
 obtain ⟨qa,ql,qc,rfl⟩:=okWide_slice Tryz.underlying22 (hval 0 22 v0 kr rfl)
 obtain ⟨v1,code,hv1,hrv,hcb⟩:=Z9z htr
 have hv1:[Value.slice qa ql qc]=[v1]:=hv1
 cases hv1
 have hh:Yr W (GA W) []:=⟨(fun r hr=>by cases hr),List.Pairwise.nil,(fun r hr=>by cases hr),fun b o hg=>hg⟩
 refine (Z82 code hcb W (GA W) [.slice qa ql qc] (.cons hrv .nil) hh).mono ?_
 rintro e W' ⟨v,r,h',G',rfl,⟨rfl,rfl⟩,hv,hh',hx⟩
 have hvb:=hv.val_inv
 subst hvb
 refine ⟨_,rfl,[d0],[],p0++[]++[],[],p0++[],[],hW',?_,?_,rfl,?_,(fun h=>by cases h)⟩
 ·exact trodAll_cons_mk (shut_bool Tryz.underlying4 _) trodAll_mk0
 ·have QG:∀b,b<W.heap.size->W'.heap[b]? = W.heap[b]?:=PQ hx
  have hlt:=hW'.lt
  have hcar:DataW.TrodAll enc Tryz.prog W' 0 (fun _=>true) true Tryz.f6.params.toList [.slice qa ql qc] [d0] (p0++[]):=by
   rw [Tryz.params6]
   refine ⟨p0,[],⟨fuel,DataW.trod_carry fuel 22 _ _ htr fun y hy=>?_⟩,rfl,rfl⟩
   have hyl:=hlt y (by simpa using hy)
   cases y with
   | cell b o=>exact Z0u (QG b hyl)
   | map b=>exact QG b hyl
  exact DataW.TrodAll.respare kids Z3q (by rw [Tryz.params6];intro t ht;rw [List.mem_singleton.1 ht];exact Z8p kr) hcar (fun y hy=>by have:=hlt y (by simpa using hy);simpa using this)
 ·refine ⟨hx.os,hx.output,fun i hi=>?_⟩
  rw [PQ hx i hi]
  cases W.heap[i]? with
  | none=>rfl
  | some o=>cases o<;>first | rfl | exact ⟨rfl,rfl,rfl,fun _ _=>rfl⟩ | exact .inr ⟨rfl,rfl⟩
set_option maxRecDepth 100000 in
theorem Z8n (os:Os) (started:os.Started) (H:Type) (enc:TypeId × Value->H) (F:Stop.Interp) :
  ReturnsInHanded {} Tryz.checked os 6 .any ((Rows.OpenSpec.upto Rows.fnBalancedSpec).pre6 enc Tryz.prog Tryz.f6 Rows.fnBalancedUptoRow.domain false) (((Rows.OpenSpec.upto Rows.fnBalancedSpec).at F).post enc Tryz.prog Tryz.f6 false true false false):=by
 refine returnsInHanded_of_cond (C:=Tryz.checked) (s:=Rows.OpenSpec.upto Rows.fnBalancedSpec) (k:=Rows.uptoSmall) rfl own started kr Tryz.func6
  (OpenSpec.witness (enc:=enc) (C:=Tryz.checked) (s:=Rows.OpenSpec.upto Rows.fnBalancedSpec) (k:=Rows.uptoSmall) rfl false ⟨#[],#[.slice none 0 0],[]⟩ 8 kr kr kr
   (x:=([.nil],[],[])) kr rfl kr) ?_
 intro W base args ds gs before hval hW _ hk _
 exact Z1l H enc W base args ds gs before hval hW
theorem SA {a b:Bool} (ha:a=true) (hb:b=true):(a&&b)=true:=by rw [ha,hb];rfl
set_option maxHeartbeats 4000000 in
theorem Z0y:joinedFacts Tryz.pinned.checked.prog 6 Tryz.f6 (Rows.OpenSpec.upto Rows.fnBalancedSpec).bare Rows.fnBalancedUptoRow=true:=by
 unfold joinedFacts
 iterate 31 refine SA ?_ (by as_aux_lemma=>kernel_rfl)
 as_aux_lemma=>kernel_rfl
theorem Z9r:Rows.fnBalancedUptoRow.holds Tryz.pinned (Rows.OpenSpec.upto Rows.fnBalancedSpec):=
 OpenClaim.holds_of_cond 6 Tryz.f6 rfl rfl rfl rfl rfl rfl rfl ⟨rfl,rfl,rfl,rfl,rfl⟩ rfl rfl rfl rfl rfl (by as_aux_lemma=>kernel_rfl) Tryz.func6 Z0y
  (of_decide_eq_true kr) (by unfold Func.isWrapper;first|(rw [if_pos (by decide +kernel)];kernel_rfl)|(rw [if_neg (by decide +kernel)];exact ⟨rfl,rfl⟩))
  (fun os started H enc _ F=>Z8n os started H enc F)
theorem proved:Rows.FnBalancedUptoSaid:=
 Z9r
#print axioms proved
end Go.Proofs.YtjmahledcmocoaaGreat.fnBalanced
end
