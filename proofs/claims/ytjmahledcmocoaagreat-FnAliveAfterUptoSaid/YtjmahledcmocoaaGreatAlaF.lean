/-
  FnAliveAfterUptoSaid: the law FnAliveAfter returns true at every argument of bulk at most 1048576, and the argument reads behind the call as it read before.
-/
import Derived.Test.YtjmahledcmocoaaGreatAlaE
import Derived.Test.YtjmahledcmocoaaGreatRows
import Derived.WalkKit
import Derived.ProofKit
import Derived.OpenShut
import Derived.JoinedCond
import Derived.ReadAgain
set_option linter.all false
set_option linter.unusedVariables false
set_option linter.unusedSimpArgs false
set_option linter.unusedSectionVars false
set_option maxRecDepth 10000
set_option maxHeartbeats 4000000
namespace Go.Abs
open Go.Proofs
theorem Z6u (rd:Nat) (bs:LI) (p:Nat) (mx:Int) (ZH:∀z∈bs,0<=z/\z<=255) (hp:p+1<=1000000000):Zl 79 [.p rd 0,.i mx] [Yw rd bs p] (fun r h=>∃(k:Int),r=.i k/\h=[.obj rd [U3 bs,.i (p+1:Nat)]]/\Pk mx k/\k=AA bs p mx):=by
 refine ZG 99 Tryz.func79 (ZE (Zw 5 [0] (ZJ p (Z1 2 (ZI 0 rd [U3 bs,.i (p+1:Nat)] (ie (X1 (Xp [0,1] [(24,.b ((decide (mx<1))||((bs.length:Int)==0)))] (fun gz=>gz) ?_ ?_))))))))
 ·refine Z1 3 (ib (b:=(decide (mx<1))) 17 (fun Zb=>?_) (fun Zb=>?_))
  ·exact Z0 (wk [0] (Zu true Zb fl))
  exact ZP 4 [0] (iw (KL bs) (Z0 (wk [0] (Zu ((bs.length:Int)==0) Zb fl))))
 refine ac ((decide (mx<1))||((bs.length:Int)==0)) (p:=(mx<1)∨((bs.length:Int)=0)) (Yl dq Zq) (fun Za=>?_) (fun Za=>?_)
 ·exact ar (Zr (r1 [0] ⟨0,rfl,rfl,⟨Pk.zero,by rw [AA,Zf om]⟩⟩))
 refine ak (Zw 4 [0] (ia ((p:Int)) ((((p+1:Nat):Int))-(1)) (Z0 (Yi 5 [0] (iw (KL bs) (Y1 ((p:Int)<(bs.length:Int)) (fun Ze=>?_) (fun Ze=>?_)))))))
 ·refine Zw 5 [0] ?_
  obtain ⟨x1,Z3⟩:=Zs bs p om
  have hz:=ZH _ (ZX Z3)
  exact Zm (Zi none (p:Int) 1 (CF Z3)) (Z1 1 (Zm (D7 x1 om) (Z1 1 (Zm (E5 x1 mx om om) (Zr (r1 [0] ⟨(x1 % mx),rfl,rfl,⟨Pk.rem om om,by rw [AA,Z8 om,Zf om,Z3];rfl⟩⟩))))))
 have hq1:p / bs.length<=p:=Nat.div_le_self _ _
 have hq0:(0:Int)<=((p / bs.length:Nat):Int):=Int.natCast_nonneg _
 refine ak (aD 46 (ZK 37 46 [0,1,2,3,4,5,6,7,8] [0,0] (dw 9 (KL bs) (dx 10 (G3 p bs.length om om) ?_))))
 obtain ⟨x2,Zt⟩:=Zs bs (p % bs.length) (Nat.mod_lt _ om)
 have hz:=ZH _ (ZX Zt)
 have hy2:=Zt
 refine dx 11 (Zi none ((p % bs.length:Nat):Int) 1 (CF Zt)) (Zj 33 34 [12] (dx 13 (D7 x2 om) (da 14 ((x2*131)) ((x2)*(131)) (ZK 26 31 [15,16,17,18,19] [0] (da 20 (((p*7:Nat):Int)) (((p:Int))*(7)) (da 21 (((p*7+3:Nat):Int)) ((((p*7:Nat):Int))+(3)) (ZK 20 24 [22,23,24,25] [0] (dw 26 (KL bs) (dx 27 (G3 (p*7+3) bs.length om om) ?_)))))))))
 obtain ⟨x3,YO⟩:=Zs bs ((p*7+3) % bs.length) (Nat.mod_lt _ om)
 have hz3:=ZH _ (ZX YO)
 have hy3:=YO
 exact dx 28 (Zi none (((p*7+3) % bs.length:Nat):Int) 1 (CF YO)) (Zj 16 17 [29] (dx 30 (D7 x3 om) (da 31 ((x3*1117)) ((x3)*(1117)) (da 32 (((x2*131)+(x3*1117))) (((x2*131))+((x3*1117))) (Zj 12 13 [33] (da 34 (((p*29:Nat):Int)) (((p:Int))*(29)) (da 35 ((((x2*131)+(x3*1117))+((p*29:Nat):Int))) ((((x2*131)+(x3*1117)))+(((p*29:Nat):Int))) (ZK 5 10 [36,37,38,39,40] [0] (dw 41 (KL bs) (dx 42 (C6 p bs.length om om) (da 43 ((((p / bs.length:Nat):Int)*53)) ((((p / bs.length:Nat):Int))*(53)) (da 44 (((((x2*131)+(x3*1117))+((p*29:Nat):Int))+(((p / bs.length:Nat):Int)*53))) (((((x2*131)+(x3*1117))+((p*29:Nat):Int)))+((((p / bs.length:Nat):Int)*53))) (Zj 0 1 [45] (de (Y5 2 (Zm (IL ((((x2*131)+(x3*1117))+((p*29:Nat):Int))+(((p / bs.length:Nat):Int)*53)) 64 om om) (Zm (OY ((((x2*131)+(x3*1117))+((p*29:Nat):Int))+(((p / bs.length:Nat):Int)*53)) (((((x2*131)+(x3*1117))+((p*29:Nat):Int))+(((p / bs.length:Nat):Int)*53)) / 64)) (Z0 (Y5 2 (Zm (E5 (AJ ((((x2*131)+(x3*1117))+((p*29:Nat):Int))+(((p / bs.length:Nat):Int)*53)) (((((x2*131)+(x3*1117))+((p*29:Nat):Int))+(((p / bs.length:Nat):Int)*53)) / 64)) mx om (H6 ⟨by omega,by omega⟩ ⟨by omega,by omega⟩).1) (Zr (r1 [0] ⟨((AJ ((((x2*131)+(x3*1117))+((p*29:Nat):Int))+(((p / bs.length:Nat):Int)*53)) (((((x2*131)+(x3*1117))+((p*29:Nat):Int))+(((p / bs.length:Nat):Int)*53)) / 64)) % mx),rfl,rfl,⟨Pk.rem (H6 ⟨by omega,by omega⟩ ⟨by omega,by omega⟩).1 om,by rw [AA,Z8 om,Z8 om,hy2,hy3];rfl⟩⟩))))))))))))))))))))))
theorem Z6v (rd:Nat) (bs:LI) (p:Nat) (mx:Nat) (ZH:∀z∈bs,0<=z/\z<=255) (hp:p+1<=1000000000:=by exact ob) (hmx:0<mx:=by exact ob):Zl 79 [.p rd 0,.i mx] [Yw rd bs p] (fun r h=>∃(kn:Nat),r=.i kn/\h=[.obj rd [U3 bs,.i (p+1:Nat)]]/\kn<mx/\kn=(AA bs p mx).toNat):=(Z6u rd bs p mx ZH hp).mono fun r h ⟨z,hr,hh,hz,he⟩=>by
  have h0:=hz.lt om
  exact ⟨z.toNat,by rw [hr,Int.toNat_of_nonneg h0.1],hh,by omega,by rw [he]⟩
theorem Z3b (s:Z5) (hz:s.sz<=1000000000):Zl 139 [YI s] [] (fun r h=>∃(v:Hd),r=.agg [.i s.op,.i s.num,.i s.into,Z4 s.args,.h v]/\h=[rK v 2 (Zo (YL s.kids))]):=by
 have hkz:=Tz s
 have haz:=Qm s
 refine ZG 33 Tryz.func139 (ar (iA (Xz s) fun b1=>iA [.i 0,.i 0,.i 0,nl,nl] fun b2=>ie (ar (E2 2 fun g1=>?_))))
 refine Z0 (Y9 (ab 0 (Y2 (fun fz gz m F h=>∃(k:Nat) (v:Hd),(k<=s.kids.length)/\F=sF [1,2] fz [(3,.h v),(4,.i k)]/\h=[Zc gz 1,Zc gz 2,rK v 2 (Zo (YL (s.kids.take k)))]/\m=s.kids.length-k) _ _ _ ⟨0,(⟨some ⟨g1,0,none⟩,0,0⟩:Hd),ob,rfl,rfl,rfl⟩ (wk [1,1,0] (fr (Ya fl)) (e:=(rc (rc (rr (ls:=[]) ob rz))))) ?_)))
 rintro m F h ⟨k,v,Yf,rfl,rfl,rfl⟩
 refine Yi 3 [1] (iw (Uf s.kids) (Y1 ((k:Int)<(s.kids.length:Int)) (fun Za=>?_) (fun Za=>?_)))
 ·refine ak (aq (ab 1 (az (ZP 4 [1] ?_))))
  obtain ⟨x1,Z3⟩:=Zs s.kids k om
  have hks:=Tm Z3
  exact Zm (Zi none (k:Int) 2 (UV Z3)) (Z1 1 (Zz [] (GQ x1) (iL [Y0 x1] 1 2 fun v1=>ZT 0 [(20,.sl [Y0 x1] none)] (FQ 3 k v 2 (Zo (YL (s.kids.take k))) [Y0 x1] none (by rw [DV,WC,VA om]) (Qr rfl) rfl (List.cons_ne_nil _ _) (by simp<;>omega) fun v2=>Z0 (az (Z1 1 (ZJ k (Z0 (ZL ⟨k+1,v2,ob,rfl,rfl,rfl⟩ (wk [2,2,0] (fr (ZO k fl)) (e:=(rc (rc (rr (ls:=Zo (YL (s.kids.take k))++Zo [Y0 x1]) (Z4y Z3) rz))))))))))))))
 refine ax 0 (aD 12 (ZK 3 12 [0,1,2,3,4,5,6,7,9] [1,1,1,1] (Z9 8 (dc 8 [] [1,1,1] [b1,b1,b1] (Uk s.args) ?_))))
 rintro _ _ ⟨v3,rfl,rfl⟩
 exact Zj 1 2 [10] (Z9 11 (YJ 11 1 [] [] b2 [.i s.op,.i s.num,.i s.into,ZM s.args v3,.h v] (de (ZD (r3 [3] [.agg [.i s.op,.i s.num,.i s.into,ZM s.args v3,.h v]] [0] [(b2,b2)] ⟨v,rfl,rfl⟩ (Zd.agg (.cons (lr _) (.cons (lr _) (.cons (lr _) (.cons (Zd.forget _ _) (.cons (lr _) .nil)))))) (eq:=(rr (ls:=Zo (YL (s.kids.take k))) (by rw [Vi om]) rz)))))))
theorem Z3a (s:Z5) (fl:Bool) (hz:s.sz<=1000000000:=by exact ob):Zl 139 [YI s] [] (fun r h=>(∃(v:Hd),r=.agg [.i s.op,.i s.num,.i s.into,Z4 s.args,.h v]/\h=[rK v 2 (Zo (YL s.kids))]/\fl=true)∨(r=YI s/\h=[]/\fl=false)):=by
 cases fl with
 | true=>exact (Z3b s hz).mono fun r h ⟨v,hr,hh⟩=>.inl ⟨v,hr,hh,rfl⟩
 | false=>exact (S5 s hz).mono fun r h ⟨hr,hh⟩=>.inr ⟨hr,hh,rfl⟩
theorem Z37 (b:Z7) (kk:Nat) (hz:b.sz<=1000000000:=by exact ob) (hkk:kk<b.steps.length:=by exact ob):Zl 97 [Y0 b] [] (fun r h=>∃(v:Hd) (u:Hd),r=.agg [.h v,.i b.result]/\h=[rK v 5 (WX b kk u.v b.steps.length),rK u 2 (Tl b kk b.steps.length)]):=by
 have hbz:=VW b
 refine ZG 28 Tryz.func97 (ar (iA (Xk b) fun b1=>iA [nl,.i 0] fun b2=>ie (ar (E2 5 fun g1=>ZP 3 [2] (iA [nl,.i 0] fun b3=>?_)))))
 refine ZI 0 b3 [.ms g1 0 0 0,.i b.result] (ie (X1 (XW (SG (k:=2)) (Z0 (ab 0 (Y2 (fun fz gz m F h=>∃(k:Nat) (v:Hd) (u:Hd),(k<=b.steps.length)/\F=sF [1,2,3] fz [(4,.i k)]/\h=[.obj b3 [.h v,.i b.result],Zc gz 3,Zc gz 4,rK v 5 (WX b kk u.v k),rK u 2 (Tl b kk k)]/\m=b.steps.length-k) _ _ _ ⟨0,(⟨some ⟨g1,0,none⟩,0,0⟩:Hd),hN,ob,rfl,rfl,rfl⟩ (wk [1,2,2,1,0] (Ya fl) (e:=(rc (rc (rc (rr (ls:=[]) (by first|exact P1.symm|exact P4.symm) (rr (ls:=[]) (by first|exact P1.symm|exact P4.symm) rz))))))) ?_))))))
 rintro m F h ⟨k,v,u,Yf,rfl,rfl,rfl⟩
 refine Yi 3 [2] (iw (VD b.steps) (Y1 ((k:Int)<(b.steps.length:Int)) (fun Za=>?_) (fun Za=>?_)))
 ·refine ak (aq (ab 1 (aE 12 (ZK 7 12 [0,1,2,3,4] [0,2] ?_))))
  obtain ⟨x1,Z3⟩:=Zs b.steps k om
  have hss:=J7 Z3
  refine dx 5 (Zi none (k:Int) 5 (WL Z3)) (Zj 5 6 [6] (Z9 7 (dc 7 [] [0] [b3] (Z3a x1 (decide (k=kk))) ?_)))
  rintro _ _ (⟨v1,rfl,rfl,ZW⟩|⟨rfl,rfl,Yh⟩)
  ·have hke:k=kk:=of_decide_eq_true ZW
   exact BS (SD [1,1,1,0,0,0] (h':=[.obj b3 [.h v,.i b.result],.obj b2 [nl,.i 0],.obj b1 (Xk b),rK v1 2 (Zo (YL x1.kids)),rK v 5 (WX b kk u.v k),rK u 2 (Tl b kk k)]) (d:=[]) kr) (Z9 8 (dL 8 [0] [b3] [.agg [.i x1.op,.i x1.num,.i x1.into,Z4 x1.args,.h v1]] 1 5 fun v2=>Yt 3 3 [] [(24,.sl [.agg [.i x1.op,.i x1.num,.i x1.into,Z4 x1.args,.h v1]] none)] (Z9 9 (HN 9 5 k [] [] v 5 (WX b kk u.v k) [.agg [.i x1.op,.i x1.num,.i x1.into,Z4 x1.args,.h v1]] none (IP om) (Qr rfl) rfl (List.cons_ne_nil _ _) (by simp<;>omega) fun v3=>Zj 1 2 [10] (Z9 11 (YJ 11 2 [] [] b3 [.h v3,.i b.result] (de (az (Z1 1 (ZJ k (Z0 (ZL ⟨k+1,v3,v1,ob,rfl,rfl,rfl⟩ (wk [0,2,2,0,1] (ZO k fl) (e:=(rc (rc (rc (rr (ls:=WX b kk u.v k++Zo [.agg [.i x1.op,.i x1.num,.i x1.into,Z4 x1.args,.h v1]]) (by first|(subst hke;exact P0 Z3)|(subst hke;exact P3 Z3)) (rr (ls:=Zo (YL x1.kids)) (by first|(subst hke;exact P0 Z3)|(subst hke;exact P3 Z3)) rz)))))))))))))))))))
  have hke:¬k=kk:=of_decide_eq_false Yh
  exact Z9 8 (dL 8 [0] [b3] [YI x1] 1 5 fun v4=>Yt 3 3 [] [(24,.sl [YI x1] none)] (Z9 9 (HN 9 4 k [] [] v 5 (WX b kk u.v k) [YI x1] none (IP om) (Qr rfl) rfl (List.cons_ne_nil _ _) (by simp<;>omega) fun v5=>Zj 1 2 [10] (Z9 11 (YJ 11 2 [] [] b3 [.h v5,.i b.result] (de (az (Z1 1 (ZJ k (Z0 (ZL ⟨k+1,v5,u,ob,rfl,rfl,rfl⟩ (wk [0,2,2,0,1] (ZO k fl) (e:=(rc (rc (rc (rr (ls:=WX b kk u.v k++Zo [YI x1]) (by first|exact OZ Z3 hke|exact P2 hke) (rr (ls:=Tl b kk k) (by first|exact OZ Z3 hke|exact P2 hke) rz))))))))))))))))))
 exact ax 0 (Zw 1 [0] (ZI 1 b2 [.h v,.i b.result] (ie (ZD (r3 [3,3] [.agg [.h v,.i b.result]] [0] [(b2,b2)] ⟨v,u,rfl,rfl⟩ (lr _) (eq:=(rr (ls:=WX b kk u.v k) (by rw [show k=b.steps.length by omega]) (rr (ls:=Tl b kk k) (by rw [show k=b.steps.length by omega]) rz))))))))
theorem Z73 (rd:Nat) (bs:LI) (p:Nat) (b:Z7) (ZH:∀z∈bs,0<=z/\z<=255) (hp:p+(10*b.sz)<=1000000000) (hz:b.sz<=20000000) (hg:b.rgb) (h0:b.steps.length=0):Zl 114 [.p rd 0,Y0 b] [Yw rd bs p] (fun r h=>∃(y:Z7) (p2:Nat),r=Y0 y/\h=[Yw rd bs p2]/\XE b y/\p<=p2/\p2<=p+(10*b.sz)):=by
 have hbp:=b.sz_pos
 refine ZG 109 Tryz.func114 (ar (iA (Xk b) fun b1=>iA [nl,.i 0] fun b2=>ie (Zw 1 [1] (Zz [] (GQ b) (iA [nl,.i 0] fun b3=>ZI 0 b3 (Xk b) (ie (Yi 2 [0] (iw (VD b.steps) (Z1 2 (ib (b:=((b.steps.length:Int)==0)) 14 (fun Zb=>?_) (fun Zb=>?_)))))))))))
 ·refine Z0 (XO (Y5 1 (iL (Z6 [0,1,2,3,-1,99]) 6 1 fun v1=>ZT 0 [(20,Z4 [0,1,2,3,-1,99])] (ic [4] (VN rd bs p [0,1,2,3,-1,99] (ZH:=ob)) ?_))))
  rintro _ _ ⟨z1,rfl,rfl,Yh⟩
  have hon:=Yh
  simp only [YB,List.not_mem_nil,or_false] at hon
  exact Z1 1 (ZI 2 b3 [Wz b.steps,.i z1] (ie (Zw 1 [0] (ZI 3 b2 [Wz b.steps,.i z1] (ie (ZD (r3 [2] [.agg [Wz b.steps,.i z1]] [0] [(b2,b2)] ⟨(Z7.mk b.steps z1),p+1,rfl,rfl,⟨XE.result hg _,by have:=b.sz_pos;omega,by have:=b.sz_pos;omega⟩⟩ (lr _))))))))
 have YE:¬((b.steps.length:Int)=0):=Yd Zq Zb
 exact absurd (show (b.steps.length:Int)=0 by omega) YE
theorem Z74 (rd:Nat) (bs:LI) (p:Nat) (b:Z7) (ZH:∀z∈bs,0<=z/\z<=255) (hp:p+(10*b.sz)<=1000000000) (hz:b.sz<=20000000) (hg:b.rgb) (h0:0<b.steps.length) (ih:∀(rd:Nat) (bs:LI) (p:Nat) (b2:Z7),(∀z∈bs,0<=z/\z<=255)->(p+(10*b2.sz)<=1000000000)->(b2.sz<=20000000)->(b2.rgb)->(b2.sz<b.sz)->Zl 114 [.p rd 0,Y0 b2] [Yw rd bs p] (fun r h=>∃(y:Z7) (p2:Nat),r=Y0 y/\h=[Yw rd bs p2]/\XE b2 y/\p<=p2/\p2<=p+(10*b2.sz))):Zl 114 [.p rd 0,Y0 b] [Yw rd bs p] (fun r h=>∃(y:Z7) (p2:Nat),r=Y0 y/\h=[Yw rd bs p2]/\XE b y/\p<=p2/\p2<=p+(10*b.sz)):=by
 have hbp:=b.sz_pos
 obtain ⟨kk,hkk⟩:∃kk,kk=(AA bs (p+1) (b.steps.length:Int)).toNat:=⟨_,rfl⟩
 have hkl:kk<b.steps.length:=by have:=Zbl (bs:=bs) (p:=p+1) (mx:=(b.steps.length:Int)) om;omega
 obtain ⟨sk,hsk⟩:=Zs b.steps kk hkl
 have hsb:=J7 hsk
 have hsg:=Zc3 hg hsk
 have hst:=VW b
 refine ZG 109 Tryz.func114 (ar (iA (Xk b) fun b1=>iA [nl,.i 0] fun b2=>ie (Zw 1 [1] (ic [] (Z37 b kk) ?_))))
 rintro _ _ ⟨v1,u1,rfl,rfl⟩
 refine FP 0 b.steps.length (v:=v1) (IP (kk:=kk) (u:=u1.v) (X5 b.steps.length)) om (fun g1 c1 he1=>?_)
 subst he1
 refine XW (SD [0,1,1,1,0] (h':=[.row (.slice (some ⟨g1,0,none⟩) b.steps.length c1) 5 (WX b kk u1.v b.steps.length),.obj b2 [nl,.i 0],.obj b1 (Xk b),Yw rd bs p,rK u1 2 (Tl b kk b.steps.length)]) (d:=[]) kr) (iA [nl,.i 0] fun b3=>ZI 0 b3 [.ms g1 0 b.steps.length c1,.i b.result] (ie (Yi 2 [0] (io (.i b.steps.length) (.i b.steps.length) (lr _) (Z1 2 (ib (b:=((b.steps.length:Int)==0)) 14 (fun Zb=>?_) (fun Zb=>?_)))))))
 ·have ZW:(b.steps.length:Int)=0:=(Zq).1 Zb
  exact absurd ZW om
 have Yh:¬((b.steps.length:Int)=0):=Yd Zq Zb
 refine Z1 1 (ic [4] (W8 rd bs p 5 (ZH:=ob)) ?_)
 rintro _ _ ⟨k1,rfl,rfl,YE⟩
 refine YD (k1==0) Zq (fun Za=>?_) (fun Za=>?_)
 ·refine ar (XW (Ma 5 2 b kk sk u1.v (.slice (some ⟨g1,0,none⟩) b.steps.length c1) hsk) (XW (Tp 0 2 0 (.slice (some ⟨g1,0,none⟩) b.steps.length c1) 5 b3 (Zy b.steps) [.ms g1 0 b.steps.length c1,.i b.result] (Xj _) rfl) (Z1 1 (iL (Z6 [0,1,2,3,-1,99]) 6 1 fun v2=>ZT 0 [(20,Z4 [0,1,2,3,-1,99])] (ic [4] (VN rd bs (p+1) [0,1,2,3,-1,99] (ZH:=ob)) ?_)))))
  rintro _ _ ⟨z1,rfl,rfl,YK⟩
  have hon:=YK
  simp only [YB,List.not_mem_nil,or_false] at hon
  exact Z1 1 (ZI 2 b3 [YY b.steps (.slice (some ⟨g1,0,none⟩) b.steps.length c1),.i z1] (ie (Zw 1 [0] (ZI 5 b2 [YY b.steps (.slice (some ⟨g1,0,none⟩) b.steps.length c1),.i z1] (ie (ZD (r3 [2] [.agg [YY b.steps (.slice (some ⟨g1,0,none⟩) b.steps.length c1),.i z1]] [0] [(b2,b2)] ⟨(Z7.mk b.steps z1),(p+1)+1,rfl,rfl,(by first|exact ⟨XE.result hg _,by omega,by omega⟩|exact ⟨XE.kid hg hsk hck hyb.1,by omega,by omega⟩|exact ⟨XE.del hg,by omega,by omega⟩|exact ⟨XE.put hg,by omega,by omega⟩|exact ⟨XE.set hg hsk ⟨by have:=hys.1.1;omega,hys.1.2⟩,by omega,by omega⟩)⟩ (Zd.agg (.cons (Zd.forget _ _) (.cons (lr _) .nil))))))))))
 refine ak (Zw 3 [1] (io (.i b.steps.length) (.i b.steps.length) (lr _) (ic [0] (Z6v rd bs (p+1) b.steps.length (ZH:=ob)) ?_)))
 rintro _ _ ⟨YH,rfl,rfl,X9⟩
 have hkn:YH=kk:=by have:=X9.2;omega
 refine Z0 (Yi 3 [1] (Zm (Wp g1 b.steps.length c1 YH 5 (YH:Int)) (Z1 1 (WS (Vm 2 g1 b.steps.length c1 5 (YH*5+4) (WX b kk u1.v b.steps.length) [.h u1] 50 (.h u1) (by rw [hkn];exact G5 hsk)) (Zm (Z9a 5 sk.kids.length u1 2 (Tl b kk b.steps.length) (by rw [IQ hsk];exact DV _)) (Z1 2 (ib (b:=(decide ((sk.kids.length:Int)>0))) 37 (fun ZA=>?_) (fun ZA=>?_))))))))
 ·have XK:(sk.kids.length:Int)>0:=(dq).1 ZA
  refine Z1 1 (ic [0] (W8 rd bs ((p+1)+1) 3 (ZH:=ob)) ?_)
  rintro _ _ ⟨k2,rfl,rfl,Wo⟩
  refine Y1 (k2>0) (fun Ze=>?_) (fun Ze=>?_)
  ·refine ar (XW (Mb 5 u1.v 2 (Tl b kk b.steps.length) (Zo (YL sk.kids)) (IQ hsk)) (FP 0 sk.kids.length (v:=u1) (DV _) om (fun g2 c2 he2=>?_)))
   subst he2
   refine ZP 4 [2] (Zm (Wp g1 b.steps.length c1 YH 5 (YH:Int)) (Z1 1 (WS (Vm 3 g1 b.steps.length c1 5 (YH*5+4) (WX b kk (.slice (some ⟨g2,0,none⟩) sk.kids.length c2) b.steps.length) [.ms g2 0 sk.kids.length c2] 50 (.ms g2 0 sk.kids.length c2) (by rw [hkn];exact G5 hsk)) (io (.i sk.kids.length) (.i sk.kids.length) (lr _) (ic [1] (JO rd bs (((p+1)+1)+1) sk.kids.length (ZH:=ob)) ?_)))))
   rintro _ _ ⟨X4,rfl,rfl,WR⟩
   obtain ⟨ck,hck⟩:=Zs sk.kids X4 om
   have hckz:=Tm hck
   have hckb:=J7 hsk
   have hckg:=Zc2 hg hsk hck
   refine Z0 (aD 20 (ZK 17 20 [0,1,2] [2] (dx 3 (Wp g1 b.steps.length c1 YH 5 (YH:Int)) (Zj 15 16 [4] (Ua 5 (Vm 3 g1 b.steps.length c1 5 (YH*5+4) (WX b kk (.slice (some ⟨g2,0,none⟩) sk.kids.length c2) b.steps.length) [.ms g2 0 sk.kids.length c2] 50 (.ms g2 0 sk.kids.length c2) (by rw [hkn];exact G5 hsk)) (ZK 9 14 [6,7,8,9,10] [2] (dx 11 (Wp g1 b.steps.length c1 YH 5 (YH:Int)) (Zj 7 8 [12] (Ua 13 (Vm 3 g1 b.steps.length c1 5 (YH*5+4) (WX b kk (.slice (some ⟨g2,0,none⟩) sk.kids.length c2) b.steps.length) [.ms g2 0 sk.kids.length c2] 50 (.ms g2 0 sk.kids.length c2) (by rw [hkn];exact G5 hsk)) (Zj 5 6 [14] (dx 15 (Wp g2 sk.kids.length c2 X4 2 (X4:Int)) (Ua 16 (Vm 1 g2 sk.kids.length c2 2 (X4*2) (Zo (YL sk.kids)) (Xk ck) 34 (Y0 ck) (Z4x hck)) (Z9 17 (dc 17 [0] [2,1] [g1,b3] (ih rd bs ((((p+1)+1)+1)+1) ck ob ob ob ob ob) ?_))))))))))))))
   rintro _ _ ⟨y1,p21,rfl,rfl,Vc⟩
   have hyb:=Vc
   exact dx 18 (Wp g2 sk.kids.length c2 X4 2 (X4:Int)) (Z9 19 (BR 19 1 [] [] g2 sk.kids.length c2 2 (X4*2) (Xk y1) (Zo (YL sk.kids)) (Zo (YL (sk.kids.set X4 y1))) (by rw [DV];simp only [YQ,Xu];omega) (Z4z y1 om) (de (ar (XW (Sz 0 2 b kk sk (sk.kids.set X4 y1) (.slice (some ⟨g2,0,none⟩) sk.kids.length c2) (.slice (some ⟨g1,0,none⟩) b.steps.length c1) hsk) (XW (Tp 0 2 0 (.slice (some ⟨g1,0,none⟩) b.steps.length c1) 5 b3 (Zy (b.steps.set kk (Z5.mk sk.op sk.num sk.into sk.args (sk.kids.set X4 y1)))) [.ms g1 0 b.steps.length c1,.i b.result] (Xj _) rfl) (ZP 1 [0] (ZI 4 b2 [YY (b.steps.set kk (Z5.mk sk.op sk.num sk.into sk.args (sk.kids.set X4 y1))) (.slice (some ⟨g1,0,none⟩) b.steps.length c1),.i b.result] (ie (ZD (r3 [4] [.agg [YY (b.steps.set kk (Z5.mk sk.op sk.num sk.into sk.args (sk.kids.set X4 y1))) (.slice (some ⟨g1,0,none⟩) b.steps.length c1),.i b.result]] [0] [(b2,b2)] ⟨(Z7.mk (b.steps.set kk (Z5.mk sk.op sk.num sk.into sk.args (sk.kids.set X4 y1))) b.result),p21,rfl,rfl,(by first|exact ⟨XE.result hg _,by omega,by omega⟩|exact ⟨XE.kid hg hsk hck hyb.1,by omega,by omega⟩|exact ⟨XE.del hg,by omega,by omega⟩|exact ⟨XE.put hg,by omega,by omega⟩|exact ⟨XE.set hg hsk ⟨by have:=hys.1.1;omega,hys.1.2⟩,by omega,by omega⟩)⟩ (Zd.agg (.cons (Zd.forget _ _) (.cons (lr _) .nil))))))))))))))
  refine ak (X1 (XW (Ma 5 2 b kk sk u1.v (.slice (some ⟨g1,0,none⟩) b.steps.length c1) hsk) (Z1 1 (ic [2] (W8 rd bs (((p+1)+1)+1) 4 (ZH:=ob)) ?_))))
  rintro _ _ ⟨k3,rfl,rfl,Ut⟩
  refine ie (ab 0 (ar (YD (k3==0) Zq (fun ZC=>?_) (fun ZC=>?_))))
  ·exact aE 12 (ZK 9 12 [0,1,2] [3] (dx 3 (IK 1 g1 b.steps.length c1 YH 5 (Zo (Zy b.steps))) (ZK 5 8 [4,5,6] [3] (da 7 (((YH+1:Nat):Int)) (((YH:Int))+(1)) (dx 8 (OW 1 g1 b.steps.length c1 (YH+1) 5 (Zo (Zy b.steps))) (Z9 9 (Nt 9 1 [] [] g1 b.steps.length c1 YH (YH+1) 5 (Zo (Zy b.steps)) (U0 _) (Zj 1 2 [10] (Z9 11 (YJ 11 3 [] [] b3 [.ms g1 0 (YH+(b.steps.length-(YH+1))) c1,.i b.result] (de (ar (XW (Mb 1 (.slice (some ⟨g1,0,none⟩) (YH+(b.steps.length-(YH+1))) c1) 5 (((Zo (Zy b.steps)).take (YH*5))++((Zo (Zy b.steps)).drop ((YH+1)*5))) (Zo (Zy (b.steps.take kk++b.steps.drop (kk+1)))) (by rw [hkn];exact NV hkl)) (XW (Tp 0 0 0 (.slice (some ⟨g1,0,none⟩) (YH+(b.steps.length-(YH+1))) c1) 5 b3 (Zy (b.steps.take kk++b.steps.drop (kk+1))) [.ms g1 0 (YH+(b.steps.length-(YH+1))) c1,.i b.result] (Xj _) rfl) (ZP 1 [0] (ZI 4 b2 [YY (b.steps.take kk++b.steps.drop (kk+1)) (.slice (some ⟨g1,0,none⟩) (YH+(b.steps.length-(YH+1))) c1),.i b.result] (ie (ZD (r3 [3] [.agg [YY (b.steps.take kk++b.steps.drop (kk+1)) (.slice (some ⟨g1,0,none⟩) (YH+(b.steps.length-(YH+1))) c1),.i b.result]] [0] [(b2,b2)] ⟨(Z7.mk (b.steps.take kk++b.steps.drop (kk+1)) b.result),(((p+1)+1)+1)+1,rfl,rfl,(by first|exact ⟨XE.result hg _,by omega,by omega⟩|exact ⟨XE.kid hg hsk hck hyb.1,by omega,by omega⟩|exact ⟨XE.del hg,by omega,by omega⟩|exact ⟨XE.put hg,by omega,by omega⟩|exact ⟨XE.set hg hsk ⟨by have:=hys.1.1;omega,hys.1.2⟩,by omega,by omega⟩)⟩ (Zd.agg (.cons (Zd.forget _ _) (.cons (lr _) .nil))))))))))))))))))))))
  refine ar (YD (k3==1) Zq (fun Ye=>?_) (fun Ye=>?_))
  ·refine aD 10 (BS (Tp 1 2 0 (.slice (some ⟨g1,0,none⟩) b.steps.length c1) 5 b3 (Zy b.steps) [.ms g1 0 b.steps.length c1,.i b.result] (Xj _) rfl) (ZK 6 10 [0,1,2,5] [0] (Z9 3 (dL 3 [0] [b3] (Z6 [14,15,15,16,17]) 5 1 fun v3=>Yt 5 5 [] [(102,Z4 [14,15,15,16,17])] (Z9 4 (dc 4 [3] [0] [b3] (VN rd bs ((((p+1)+1)+1)+1) [14,15,15,16,17] (ZH:=ob)) ?_))))))
   rintro _ _ ⟨z2,rfl,rfl,T0⟩
   have hon:=T0
   simp only [YB,List.not_mem_nil,or_false] at hon
   refine Z9 6 (dc 6 [0] [0] [b3] (W8 rd bs (((((p+1)+1)+1)+1)+1) 4 (ZH:=ob)) ?_)
   rintro _ _ ⟨k4,rfl,rfl,T1⟩
   exact Z9 7 (Yp 7 [] [1] [b3] (JW z2 k4) (Yt 2 2 [] [(99,Y0 b)] (Z9 8 (Yp 8 [] [] [] (FF b YH (Zx z2 k4)) (Z9 9 (YJ 9 5 [] [] b2 (Xk (Z7.mk (WA b.steps YH (Zx z2 k4)) b.result)) (de (ZD (r3 [1] [Y0 (Z7.mk (WA b.steps YH (Zx z2 k4)) b.result)] [0] [(b2,b2)] ⟨(Z7.mk (WA b.steps YH (Zx z2 k4)) b.result),(((((p+1)+1)+1)+1)+1)+1,rfl,rfl,(by first|exact ⟨XE.result hg _,by omega,by omega⟩|exact ⟨XE.kid hg hsk hck hyb.1,by omega,by omega⟩|exact ⟨XE.del hg,by omega,by omega⟩|exact ⟨XE.put hg,by omega,by omega⟩|exact ⟨XE.set hg hsk ⟨by have:=hys.1.1;omega,hys.1.2⟩,by omega,by omega⟩)⟩ (lr _))))))))))
  refine aE 12 (ZK 5 12 [0,1,2,3,4,5,6] [3,3] (dx 7 (Wp g1 b.steps.length c1 YH 5 (YH:Int)) (Ua 8 (Vm 1 g1 b.steps.length c1 5 (YH*5) (Zo (Zy b.steps)) (Xz sk) 52 (YI sk) (by rw [hkn];exact Ih hsk)) (Z9 9 (dc 9 [0] [1] [b3] (Oh rd bs ((((p+1)+1)+1)+1) sk (ZH:=ob)) ?_)))))
  rintro _ _ ⟨y2,p22,rfl,rfl,Qp⟩
  have hys:=Qp
  exact dx 10 (Wp g1 b.steps.length c1 YH 5 (YH:Int)) (Z9 11 (BR 11 1 [] [] g1 b.steps.length c1 5 (YH*5) (Xz y2) (Zo (Zy b.steps)) (Zo (Zy (b.steps.set kk y2))) (by rw [QO];simp only [YQ,Xu];omega) (by rw [hkn];exact Fz hsk) (de (ar (XW (Tp 0 2 0 (.slice (some ⟨g1,0,none⟩) b.steps.length c1) 5 b3 (Zy (b.steps.set kk y2)) [.ms g1 0 b.steps.length c1,.i b.result] (Xj _) rfl) (ZP 1 [0] (ZI 4 b2 [YY (b.steps.set kk y2) (.slice (some ⟨g1,0,none⟩) b.steps.length c1),.i b.result] (ie (ZD (r3 [3] [.agg [YY (b.steps.set kk y2) (.slice (some ⟨g1,0,none⟩) b.steps.length c1),.i b.result]] [0] [(b2,b2)] ⟨(Z7.mk (b.steps.set kk y2) b.result),p22,rfl,rfl,(by first|exact ⟨XE.result hg _,by omega,by omega⟩|exact ⟨XE.kid hg hsk hck hyb.1,by omega,by omega⟩|exact ⟨XE.del hg,by omega,by omega⟩|exact ⟨XE.put hg,by omega,by omega⟩|exact ⟨XE.set hg hsk ⟨by have:=hys.1.1;omega,hys.1.2⟩,by omega,by omega⟩)⟩ (Zd.agg (.cons (Zd.forget _ _) (.cons (lr _) .nil)))))))))))))
 have Qb:¬((sk.kids.length:Int)>0):=Yd dq ZA
 refine Z0 (Wb (ak (X1 (XW (Ma 5 2 b kk sk u1.v (.slice (some ⟨g1,0,none⟩) b.steps.length c1) hsk) (Z1 1 (ic [2] (W8 rd bs ((p+1)+1) 4 (ZH:=ob)) ?_))))))
 rintro _ _ ⟨k5,rfl,rfl,KS⟩
 refine ie (ab 0 (ar (YD (k5==0) Zq (fun Xg=>?_) (fun Xg=>?_))))
 ·exact aE 12 (ZK 9 12 [0,1,2] [3] (dx 3 (IK 1 g1 b.steps.length c1 YH 5 (Zo (Zy b.steps))) (ZK 5 8 [4,5,6] [3] (da 7 (((YH+1:Nat):Int)) (((YH:Int))+(1)) (dx 8 (OW 1 g1 b.steps.length c1 (YH+1) 5 (Zo (Zy b.steps))) (Z9 9 (Nt 9 1 [] [] g1 b.steps.length c1 YH (YH+1) 5 (Zo (Zy b.steps)) (U0 _) (Zj 1 2 [10] (Z9 11 (YJ 11 3 [] [] b3 [.ms g1 0 (YH+(b.steps.length-(YH+1))) c1,.i b.result] (de (ar (XW (Mb 1 (.slice (some ⟨g1,0,none⟩) (YH+(b.steps.length-(YH+1))) c1) 5 (((Zo (Zy b.steps)).take (YH*5))++((Zo (Zy b.steps)).drop ((YH+1)*5))) (Zo (Zy (b.steps.take kk++b.steps.drop (kk+1)))) (by rw [hkn];exact NV hkl)) (XW (Tp 0 0 0 (.slice (some ⟨g1,0,none⟩) (YH+(b.steps.length-(YH+1))) c1) 5 b3 (Zy (b.steps.take kk++b.steps.drop (kk+1))) [.ms g1 0 (YH+(b.steps.length-(YH+1))) c1,.i b.result] (Xj _) rfl) (ZP 1 [0] (ZI 4 b2 [YY (b.steps.take kk++b.steps.drop (kk+1)) (.slice (some ⟨g1,0,none⟩) (YH+(b.steps.length-(YH+1))) c1),.i b.result] (ie (ZD (r3 [3] [.agg [YY (b.steps.take kk++b.steps.drop (kk+1)) (.slice (some ⟨g1,0,none⟩) (YH+(b.steps.length-(YH+1))) c1),.i b.result]] [0] [(b2,b2)] ⟨(Z7.mk (b.steps.take kk++b.steps.drop (kk+1)) b.result),((p+1)+1)+1,rfl,rfl,(by first|exact ⟨XE.result hg _,by omega,by omega⟩|exact ⟨XE.kid hg hsk hck hyb.1,by omega,by omega⟩|exact ⟨XE.del hg,by omega,by omega⟩|exact ⟨XE.put hg,by omega,by omega⟩|exact ⟨XE.set hg hsk ⟨by have:=hys.1.1;omega,hys.1.2⟩,by omega,by omega⟩)⟩ (Zd.agg (.cons (Zd.forget _ _) (.cons (lr _) .nil))))))))))))))))))))))
 refine ar (YD (k5==1) Zq (fun Xd=>?_) (fun Xd=>?_))
 ·refine aD 10 (BS (Tp 1 2 0 (.slice (some ⟨g1,0,none⟩) b.steps.length c1) 5 b3 (Zy b.steps) [.ms g1 0 b.steps.length c1,.i b.result] (Xj _) rfl) (ZK 6 10 [0,1,2,5] [0] (Z9 3 (dL 3 [0] [b3] (Z6 [14,15,15,16,17]) 5 1 fun v4=>Yt 5 5 [] [(102,Z4 [14,15,15,16,17])] (Z9 4 (dc 4 [3] [0] [b3] (VN rd bs (((p+1)+1)+1) [14,15,15,16,17] (ZH:=ob)) ?_))))))
  rintro _ _ ⟨z3,rfl,rfl,Kl⟩
  have hon:=Kl
  simp only [YB,List.not_mem_nil,or_false] at hon
  refine Z9 6 (dc 6 [0] [0] [b3] (W8 rd bs ((((p+1)+1)+1)+1) 4 (ZH:=ob)) ?_)
  rintro _ _ ⟨k6,rfl,rfl,Bb⟩
  exact Z9 7 (Yp 7 [] [1] [b3] (JW z3 k6) (Yt 2 2 [] [(99,Y0 b)] (Z9 8 (Yp 8 [] [] [] (FF b YH (Zx z3 k6)) (Z9 9 (YJ 9 5 [] [] b2 (Xk (Z7.mk (WA b.steps YH (Zx z3 k6)) b.result)) (de (ZD (r3 [1] [Y0 (Z7.mk (WA b.steps YH (Zx z3 k6)) b.result)] [0] [(b2,b2)] ⟨(Z7.mk (WA b.steps YH (Zx z3 k6)) b.result),((((p+1)+1)+1)+1)+1,rfl,rfl,(by first|exact ⟨XE.result hg _,by omega,by omega⟩|exact ⟨XE.kid hg hsk hck hyb.1,by omega,by omega⟩|exact ⟨XE.del hg,by omega,by omega⟩|exact ⟨XE.put hg,by omega,by omega⟩|exact ⟨XE.set hg hsk ⟨by have:=hys.1.1;omega,hys.1.2⟩,by omega,by omega⟩)⟩ (lr _))))))))))
 refine aE 12 (ZK 5 12 [0,1,2,3,4,5,6] [3,3] (dx 7 (Wp g1 b.steps.length c1 YH 5 (YH:Int)) (Ua 8 (Vm 1 g1 b.steps.length c1 5 (YH*5) (Zo (Zy b.steps)) (Xz sk) 52 (YI sk) (by rw [hkn];exact Ih hsk)) (Z9 9 (dc 9 [0] [1] [b3] (Oh rd bs (((p+1)+1)+1) sk (ZH:=ob)) ?_)))))
 rintro _ _ ⟨y3,p23,rfl,rfl,Jr⟩
 have hys:=Jr
 exact dx 10 (Wp g1 b.steps.length c1 YH 5 (YH:Int)) (Z9 11 (BR 11 1 [] [] g1 b.steps.length c1 5 (YH*5) (Xz y3) (Zo (Zy b.steps)) (Zo (Zy (b.steps.set kk y3))) (by rw [QO];simp only [YQ,Xu];omega) (by rw [hkn];exact Fz hsk) (de (ar (XW (Tp 0 2 0 (.slice (some ⟨g1,0,none⟩) b.steps.length c1) 5 b3 (Zy (b.steps.set kk y3)) [.ms g1 0 b.steps.length c1,.i b.result] (Xj _) rfl) (ZP 1 [0] (ZI 4 b2 [YY (b.steps.set kk y3) (.slice (some ⟨g1,0,none⟩) b.steps.length c1),.i b.result] (ie (ZD (r3 [3] [.agg [YY (b.steps.set kk y3) (.slice (some ⟨g1,0,none⟩) b.steps.length c1),.i b.result]] [0] [(b2,b2)] ⟨(Z7.mk (b.steps.set kk y3) b.result),p23,rfl,rfl,(by first|exact ⟨XE.result hg _,by omega,by omega⟩|exact ⟨XE.kid hg hsk hck hyb.1,by omega,by omega⟩|exact ⟨XE.del hg,by omega,by omega⟩|exact ⟨XE.put hg,by omega,by omega⟩|exact ⟨XE.set hg hsk ⟨by have:=hys.1.1;omega,hys.1.2⟩,by omega,by omega⟩)⟩ (Zd.agg (.cons (Zd.forget _ _) (.cons (lr _) .nil)))))))))))))
theorem Z72 (rd:Nat) (bs:LI) (p:Nat) (b:Z7) (ZH:∀z∈bs,0<=z/\z<=255) (hp:p+10*b.sz<=1000000000:=by exact ob) (hz:b.sz<=20000000:=by exact ob) (hg:b.rgb:=by exact ob):Zl 114 [.p rd 0,Y0 b] [Yw rd bs p] (fun r h=>∃(y:Z7) (p2:Nat),r=Y0 y/\h=[Yw rd bs p2]/\XE b y/\p<=p2/\p2<=p+(10*b.sz)):=by
 have key:∀k:Nat,∀(rd:Nat) (bs:LI) (p:Nat) (b2:Z7),(∀z∈bs,0<=z/\z<=255)->(p+(10*b2.sz)<=1000000000)->(b2.sz<=20000000)->(b2.rgb)->(b2.sz<k)->Zl 114 [.p rd 0,Y0 b2] [Yw rd bs p] (fun r h=>∃(y:Z7) (p2:Nat),r=Y0 y/\h=[Yw rd bs p2]/\XE b2 y/\p<=p2/\p2<=p+(10*b2.sz)):=by
  intro k
  induction k with
  | zero=>intro rd bs p b2 h1 h2 h3 h4 h5;omega
  | succ k ih=>
   intro rd bs p b2 h1 h2 h3 h4 h5
   by_cases h0:b2.steps.length=0
   ·exact Z73 rd bs p b2 h1 h2 h3 h4 h0
   ·exact Z74 rd bs p b2 h1 h2 h3 h4 om fun rd bs p b3 q1 q2 q3 q4 q5=>ih rd bs p b3 q1 q2 q3 q4 om
 exact key (b.sz+1) rd bs p b ZH hp hz hg om
theorem Z75 (rd:Nat) (bs:LI) (p:Nat) (n:Zk) (often:Nat) (q:Nat) (l:Nat) (ZH:∀z∈bs,0<=z/\z<=255) (hp:p+(10*q+20)<=1000000000:=by exact ob) (hzn:ZS n q l:=by exact ob) (hq:q<=9999000:=by exact ob) (hl:l<=100:=by exact ob) (ho:0<often:=by exact ob):Zl 72 [.p rd 0,Yn n,.i often] [Yw rd bs p] (fun r h=>∃(n2:Zk) (p2:Nat),r=Yn n2/\h=[Yw rd bs p2]/\ZS n2 (q+2) (l+1)/\p<=p2/\p2<=p+(10*q+20)):=by
 have hnl:=hzn.len
 refine ZG 64 Tryz.func72 (ar (iA (YS n) fun b1=>iA [nl,nl] fun b2=>ie (YF 2 (ic [2] (JO rd bs p often (ZH:=ob)) ?_))))
 rintro _ _ ⟨YH,rfl,rfl,ZW⟩
 refine Y1 ((YH:Int)>0) (fun Za=>?_) (fun Za=>?_)
 ·exact Zw 1 [2] (ZI 1 b2 (YS n) (ie (ZD (r3 [1] [Yn n] [0] [(b2,b2)] ⟨n,p+1,rfl,rfl,(by first|exact ⟨hzn.le om om,by omega,by omega⟩|exact ⟨hzn.set hx1k om om om om ⟨hz1.2.2.2,hzn.rb _ (ZX hx1k)⟩,by omega,by omega⟩|exact ⟨(hzn.le om om).ds had.1,by omega,by omega⟩|exact ⟨hzn.set hx2k om om om (by have:=hsb.1.1;omega) hsb.1.2,by omega,by omega⟩)⟩ (lr _)))))
 refine ak (Zw 3 [2] (iw (Uq n.routines) (ic [0] (JO rd bs (p+1) n.routines.length (ZH:=ob)) ?_)))
 rintro _ _ ⟨X4,rfl,rfl,Yh⟩
 refine Z0 (YF 1 (ic [0] (W8 rd bs ((p+1)+1) 8 (ZH:=ob)) ?_))
 rintro _ _ ⟨k1,rfl,rfl,YE⟩
 refine ie (ab 0 (ar (YD (k1==0) Zq (fun Ze=>?_) (fun Ze=>?_))))
 ·refine aD 11 (ZK 6 11 [0,1,2,3,4] [2,2] ?_)
  obtain ⟨x1,Z3⟩:=Zs n.routines X4 om
  have hx1k:=Z3
  have hz1:=hzn.rt _ (ZX Z3)
  refine dx 5 (Zi none (X4:Int) 5 (Ww Z3)) (Zj 3 5 [6,7] (KJ (fun fz gz F h=>∃(g1:Nat) (c1:Nat) (b3:Nat),F=sF [0,6,7] fz [(8,.p b3 0)]/\h=[.obj b3 [ZU n.decls,.ms g1 0 n.routines.length c1],.row (.slice (some ⟨g1,0,none⟩) n.routines.length c1) 5 (Zo (YP (n.routines.set X4 (Yg.mk x1.params x1.lent x1.result x1.body)))),Zc gz 0,Zc gz 1,Zc gz 2]) ?_ ?_))
  ·refine VC 8 9 ?_ ?_
   ·refine dc 8 [] [] [] (Is n X4 x1.body x1 (hr:=Z3)) ?_
    rintro _ _ ⟨g1,c1,rfl,rfl⟩
    exact Z9 9 (dA 9 [] [] [nl,nl] fun b3=>Z9 10 (YJ 10 0 [] [] b3 [ZU n.decls,.ms g1 0 n.routines.length c1] (de (ZQ ⟨g1,c1,b3,rfl,rfl⟩ (ZF 5 fl)))))
   refine dA 9 [2,2] [b1,b1] [nl,nl] fun b4=>Z9 8 (dc 8 [] [] [] (Is n X4 x1.body x1 (hr:=Z3)) ?_)
   rintro _ _ ⟨g2,c2,rfl,rfl⟩
   exact Z9 10 (YJ 10 1 [] [] b4 [ZU n.decls,.ms g2 0 n.routines.length c2] (de (ZQ ⟨g2,c2,b4,rfl,rfl⟩ (ZF 5 fl))))
  rintro F h ⟨g1,c1,b3,rfl,rfl⟩
  refine aD 14 (ZK 7 14 [0,1,2,3,4,5,6] [0,0] (dx 7 (Wp g1 n.routines.length c1 X4 5 (X4:Int)) (Zj 5 6 [8] (Ua 9 (Vm 1 g1 n.routines.length c1 5 (X4*5+1) (Zo (YP (n.routines.set X4 (Yg.mk x1.params x1.lent x1.result x1.body)))) [Z4 x1.lent] 31 (Z4 x1.lent) (Z51 om _)) (Z9 10 (dc 10 [2] [0] [b3] (Z76 rd bs (((p+1)+1)+1) x1.lent (ZH:=ob)) ?_))))))
  rintro _ _ ⟨zs1,p21,rfl,rfl,YK⟩
  have hsi:=YK
  exact dx 11 (Wp g1 n.routines.length c1 X4 5 (X4:Int)) (Zj 1 2 [12] (Z9 13 (BR 13 2 [] [] g1 n.routines.length c1 5 (X4*5+1) [Z4 zs1] (Zo (YP (n.routines.set X4 (Yg.mk x1.params x1.lent x1.result x1.body)))) (Zo (YP (n.routines.set X4 (Yg.mk x1.params zs1 x1.result x1.body)))) (by rw [Fx,UQ];simp only [YQ,Xu];omega) (Z53 om _ _) (de (ar (XW (Tp 0 1 1 (.slice (some ⟨g1,0,none⟩) n.routines.length c1) 5 b3 (YP (n.routines.set X4 (Yg.mk x1.params zs1 x1.result x1.body))) [ZU n.decls,.ms g1 0 n.routines.length c1] (UX _) rfl) (ZP 1 [0] (ZI 3 b2 [ZU n.decls,WF (n.routines.set X4 (Yg.mk x1.params zs1 x1.result x1.body)) (.slice (some ⟨g1,0,none⟩) n.routines.length c1)] (ie (ZD (r3 [3] [.agg [ZU n.decls,WF (n.routines.set X4 (Yg.mk x1.params zs1 x1.result x1.body)) (.slice (some ⟨g1,0,none⟩) n.routines.length c1)]] [0] [(b2,b2)] ⟨(Zk.mk n.decls (n.routines.set X4 (Yg.mk x1.params zs1 x1.result x1.body))),p21,rfl,rfl,(by first|exact ⟨hzn.le om om,by omega,by omega⟩|exact ⟨hzn.set hx1k om om om om ⟨hz1.2.2.2,hzn.rb _ (ZX hx1k)⟩,by omega,by omega⟩|exact ⟨(hzn.le om om).ds had.1,by omega,by omega⟩|exact ⟨hzn.set hx2k om om om (by have:=hsb.1.1;omega) hsb.1.2,by omega,by omega⟩)⟩ (Zd.agg (.cons (lr _) (.cons (Zd.forget _ _) .nil))))))))))))))
 refine ar (YD (k1==1) Zq (fun ZC=>?_) (fun ZC=>?_))
 ·refine aD 6 (ZK 3 6 [0,2,3] [2] (Z9 1 (dc 1 [0] [1] [b1] (Z5e rd bs (((p+1)+1)+1) (ZH:=ob)) ?_)))
  rintro _ _ ⟨dz1,p22,rfl,rfl,X9⟩
  have had:=X9
  exact Zj 1 2 [4] (Z9 5 (YJ 5 1 [] [] b2 [ZU dz1,Ko n.routines] (de (ZD (r3 [1] [.agg [ZU dz1,Ko n.routines]] [0] [(b2,b2)] ⟨(Zk.mk dz1 n.routines),p22,rfl,rfl,(by first|exact ⟨hzn.le om om,by omega,by omega⟩|exact ⟨hzn.set hx1k om om om om ⟨hz1.2.2.2,hzn.rb _ (ZX hx1k)⟩,by omega,by omega⟩|exact ⟨(hzn.le om om).ds had.1,by omega,by omega⟩|exact ⟨hzn.set hx2k om om om (by have:=hsb.1.1;omega) hsb.1.2,by omega,by omega⟩)⟩ (lr _))))))
 refine ak (aD 12 (ZK 6 12 [0,1,2,3,4,5] [2,2] ?_))
 obtain ⟨x2,Zt⟩:=Zs n.routines X4 om
 have hx2k:=Zt
 have hz2:=hzn.rt _ (ZX Zt)
 refine dx 6 (Zi none (X4:Int) 5 (Ww Zt)) (Zj 3 5 [7,8] (Z9 9 (dc 9 [0] [1] [b1] (Z72 rd bs (((p+1)+1)+1) x2.body (ZH:=ob) (hg:=⟨hz2.2.2.2,hzn.rb _ (ZX hx2k)⟩)) ?_)))
 rintro _ _ ⟨y1,p23,rfl,rfl,XK⟩
 have hsb:=XK
 exact Z9 10 (Yp 10 [] [] [] (Oi n X4 y1 x2 (hr:=Zt)) (Z9 11 (YJ 11 1 [] [] b2 (YS (withR n X4 x2 y1)) (de (ZD (r3 [1] [Yn (withR n X4 x2 y1)] [0] [(b2,b2)] ⟨(withR n X4 x2 y1),p23,rfl,rfl,(by first|exact ⟨hzn.le om om,by omega,by omega⟩|exact ⟨hzn.set hx1k om om om om ⟨hz1.2.2.2,hzn.rb _ (ZX hx1k)⟩,by omega,by omega⟩|exact ⟨(hzn.le om om).ds had.1,by omega,by omega⟩|exact ⟨hzn.set hx2k om om om (by have:=hsb.1.1;omega) hsb.1.2,by omega,by omega⟩)⟩ (lr _)))))))
open Go.Proofs
theorem Za0 (n:Zk) (f:Int) (k:Int) (hz:VU n:=by exact ob):Zl 81 [Yn n,.i f,.i k] [] (fun r h=>(∃(c:Nat) (wa:Hd) (wb:Hd) (wc:Hd) (wd:Hd) (we:Hd) (wf:Hd) (L:Zp) (ln:LI),r=.tup [.p c 0,.b true]/\h=[.obj c [.h wa,.h wb,.h wc,.h wd,.h we,.h wf,Z4 ln],rV wa L.vars,rV wb L.own,rV wc L.par,rV wd L.con,rV we L.fst,rV wf L.tok]/\Vf n f k=some L/\ln=JR n f)∨(r=.tup [.any,.b false]/\h=[]/\Vf n f k=none)):=by
 have hzl:=hz.len
 refine ZG 64 Tryz.func81 (ar (iA (YS n) fun b1=>Z0 (Yi 1 [0] (Zz [] (Sf n) (XL 12 [1,2,3] [(21,.b ((!XH n)||(!(decide (0<=f/\f<=((n.routines.length:Int)-1))))))] (fun gz=>gz) ?_ (fun hj1=>?_))))))
 ·refine Z1 1 (ib (b:=((!XH n)||(!(decide (0<=f/\f<=((n.routines.length:Int)-1)))))) 22 (fun Zb=>?_) (fun Zb=>?_))
  ·have ZW:(¬(XH n=true))∨(¬(0<=f/\f<=((n.routines.length:Int)-1))):=((Yl (Yr Iff.rfl) (Yr dq))).1 Zb
   exact Z0 (XO (ar (ZT 1 [(35,.agg [.sl [] none,.sl [] none,.sl [] none,.sl [] none,.sl [] none,.sl [] none,.sl [] none])] (iA [.sl [] none,.sl [] none,.sl [] none,.sl [] none,.sl [] none,.sl [] none,.sl [] none] fun b2=>Zr (r2 [] [.p b2 0,.b false] (.inr ⟨rfl,rfl,(by first|exact EO ZW|exact AT hrx Za|exact EL hV hfr hrx om om (DE Zt Zh YK)|exact ⟨EN hV hfr hrx om om Zh,(JS hrx).symm⟩)⟩) (Zd.tup (.cons (Zd.any _) (.cons (lr _) .nil))))))))
  have Yh:¬((¬(XH n=true))∨(¬(0<=f/\f<=((n.routines.length:Int)-1)))):=Yd (Yl (Yr Iff.rfl) (Yr dq)) Zb
  refine ZP 4 [0] ?_
  obtain ⟨x1,Z3⟩:=Zs n.routines f.toNat om
  have hq0:¬((¬(XH n=true))∨(¬(0<=f/\f<=(n.routines.length:Int)-1))):=by assumption
  have hV:XH n=true:=EE fun z=>hq0 (.inl z)
  have hfr:0<=f:=by omega
  obtain ⟨hok,hall⟩:=Cl hz hV
  have hrm:=ZX Z3
  have hbz:=hz.body _ hrm
  have ZH:=VW (x1).body
  have hbe:=(x1).body.sz_eq
  have hpl:=hok.params_at Z3
  have hll:=hok.lent_at Z3
  have hrx:=Z3
  refine Zm (Zi none f 5 (Ww Z3)) (Z1 3 (iw (VD x1.body.steps) (Zz [] (UM k 0 (x1.body.steps.length:Int)) (YD (!(decide (0<=k/\k<=(x1.body.steps.length:Int)))) (p:=¬(0<=k/\k<=(x1.body.steps.length:Int))) (Yr dq) (fun Za=>?_) (fun Za=>?_)))))
  ·exact ar (ZT 1 [(35,.agg [.sl [] none,.sl [] none,.sl [] none,.sl [] none,.sl [] none,.sl [] none,.sl [] none])] (iA [.sl [] none,.sl [] none,.sl [] none,.sl [] none,.sl [] none,.sl [] none,.sl [] none] fun b3=>Zr (r2 [] [.p b3 0,.b false] (.inr ⟨rfl,rfl,(by first|exact EO ZW|exact AT hrx Za|exact EL hV hfr hrx om om (DE Zt Zh YK)|exact ⟨EN hV hfr hrx om om Zh,(JS hrx).symm⟩)⟩) (Zd.tup (.cons (Zd.any _) (.cons (lr _) .nil))))))
  refine ak (Zw 3 [0] (Zm (Zi none f 5 (Ww Z3)) (Z1 1 (ic [] (Sa x1) ?_))))
  rintro _ _ ⟨c1,wa1,wb1,wc1,wd1,we1,wf1,rfl,rfl⟩
  refine Z0 (Y9 (ab 0 (Y2 (fun fz gz m F h=>∃(j:Nat) (L2:Zp) (ka:Hd) (kb:Hd) (kc:Hd) (kd:Hd) (ke:Hd) (kf:Hd),((j:Int)<=k)/\(U9 n x1 j=some L2)/\F=sF [1,2,3,8] fz [(9,.i j)]/\h=[.obj c1 [.h ka,.h kb,.h kc,.h kd,.h ke,.h kf,Z4 x1.lent],Zc gz 7,rV ka L2.vars,rV kb L2.own,rV kc L2.par,rV kd L2.con,rV ke L2.fst,rV kf L2.tok]/\m=k.toNat-j) _ _ _ ⟨0,(VV x1),wa1,wb1,wc1,wd1,we1,wf1,ob,(Z0m _ _),rfl,rfl,rfl⟩ (wk [0,6,0,0,0,0,0,0] (Ya fl)) ?_)))
  rintro m F h ⟨j,L2,ka,kb,kc,kd,ke,kf,Yf,Zh,rfl,rfl,rfl⟩
  refine X1 (Y1 ((j:Int)<k) (fun Ze=>?_) (fun Ze=>?_))
  ·refine ak (aq (ab 1 (aD 14 (ZK 9 14 [0,1,2,3,4] [1,1] (dx 5 (Zi none f 5 (Ww Z3)) (Zj 4 8 [6,7,8,9] ?_))))))
   obtain ⟨x2,Zt⟩:=Zs x1.body.steps j om
   refine dx 10 (Zi none (j:Int) 5 (WL Zt)) (Zj 2 3 [11] (Z9 12 (dc 12 [0,1,1,1,1,1,1] [] [] (Ph c1 ka kb kc kd ke kf n x2 L2 x1.lent (1+4*x1.body.sz:Nat) hok ob (BN hz hV hrx Zh).ok ((BN hz hV hrx Zh).ty _ Zt) (by have:=(BN hz hV hrx Zh).len;have:=J7 Zt;omega) (by have:=J7 Zt;omega)) ?_)))
   rintro _ _ (⟨wa2,wb2,wc2,wd2,we2,wf2,M'1,rfl,rfl,YE⟩|⟨rfl,rfl,YK⟩)
   ·exact Zj 0 1 [13] (de (Wb (ak (az (Z1 1 (ZJ j (Z0 (ZL ⟨j+1,M'1,wa2,wb2,wc2,wd2,we2,wf2,ob,(DE Zt Zh YE),rfl,rfl,rfl⟩ (wk [0,6,0,0,0,0,0,0] (ZO j fl))))))))))
   exact Zj 0 1 [13] (de (XO (ar (Zr (r2 [] [.p c1 0,.b false] (.inr ⟨rfl,rfl,(by first|exact EO ZW|exact AT hrx Za|exact EL hV hfr hrx om om (DE Zt Zh YK)|exact ⟨EN hV hfr hrx om om Zh,(JS hrx).symm⟩)⟩) (Zd.tup (.cons (Zd.any _) (.cons (lr _) .nil))))))))
  exact ax 0 (ar (Zr (r2 [0,1,1,1,1,1,1] [.p c1 0,.b true] (.inl ⟨c1,ka,kb,kc,kd,ke,kf,L2,_,rfl,rfl,(by first|exact EO ZW|exact AT hrx Za|exact EL hV hfr hrx om om (DE Zt Zh YK)|exact ⟨EN hV hfr hrx om om Zh,(JS hrx).symm⟩)⟩) (lr _))))
 refine Z1 2 (ib (b:=(!XH n)) 13 (fun ZA=>?_) (fun ZA=>?_))
 ·have X9:¬(XH n=true):=((Yr Iff.rfl)).1 ZA
  exact Z1 8 (Yx (wk [0] (fc (x:=.b true) (lb (by rw [ZA];rfl)) fl)) hj1)
 have XK:¬(¬(XH n=true)):=Yd (Yr Iff.rfl) ZA
 exact ZP 3 [0] (iw (Uq n.routines) (ia (((n.routines.length:Int)-1)) (((n.routines.length:Int))-(1)) (Zz [] (UM f 0 ((n.routines.length:Int)-1)) (Z1 2 (Yx (wk [0] (fc (x:=.b (!(decide (0<=f/\f<=((n.routines.length:Int)-1))))) (lb (by rw [ZA];rfl)) fl)) hj1)))))
theorem Z1u (n:Zk) (f:Int) (rt:Yg) (hz:VU n:=by exact ob) (hV:XH n=true:=by exact ob) (hf:0<=f:=by exact ob) (hr:n.routines[f.toNat]? = some rt:=by exact ob):Zl 120 [Yn n,.i f] [] (fun r h=>∃(c:Nat) (wa:Hd) (wb:Hd) (wc:Hd),r=.p c 0/\h=[.obj c [ZU n.decls,YT n,Z4 rt.lent,Xa [],.h wa,.h wb,.h wc],rV wa ((VV rt).vars),rV wb ((VV rt).own),rV wc ((VV rt).tok)]):=by
 obtain ⟨f0,rfl⟩:∃f0:Nat,f=(f0:Int):=⟨f.toNat,by omega⟩
 exact Z1t n f0 rt (hn:=(Cl hz hV).1) (hz:=hz) (hs:=by rw [XH,W7] at hV;exact hV.1) (hr:=by simpa using hr)
theorem N2 (n:Zk) (f:Int) (k:Int) (hz:VU n:=by exact ob) (hr:∀r∈n.routines,r.body.rng):Zl 80 [Yn n,.i f,.i k] [] (fun r h=>(∃(c:Nat) (wa:Hd) (wb:Hd) (wc:Hd) (L:V0) (ln:LI),r=.p c 0/\h=[.obj c [ZU n.decls,YT n,Z4 ln,Xa [],.h wa,.h wb,.h wc],rV wa L.vars,rV wb L.own,rV wc L.tok]/\Vf n f k=some L/\ln=JR n f)∨(r=.val (.pointer none)/\h=[]/\Vf n f k=none)):=by
 have hzl:=hz.len
 refine ZG 54 Tryz.func80 (ar (iA (YS n) fun b1=>Z0 (Yi 1 [0] (Zz [] (Z87 n (hr:=hr)) (XL 7 [1,2,3] [(14,.b ((!XH n)||(decide (f<0))))] (fun gz=>gz) ?_ (fun hj1=>?_))))))
 ·refine XL 14 [1,2,3] [(21,.b (((!XH n)||(decide (f<0)))||(decide (f>=(n.routines.length:Int)))))] (fun gz=>gz) ?_ (fun hj2=>?_)
  ·refine XL 18 [1,2,3] [(25,.b ((((!XH n)||(decide (f<0)))||(decide (f>=(n.routines.length:Int))))||(decide (k<0))))] (fun gz=>gz) ?_ (fun hj3=>?_)
   ·refine Z1 1 (ib (b:=((((!XH n)||(decide (f<0)))||(decide (f>=(n.routines.length:Int))))||(decide (k<0)))) 26 (fun Zb=>?_) (fun Zb=>?_))
    ·have ZW:(((¬(XH n=true))∨(f<0))∨(f>=(n.routines.length:Int)))∨(k<0):=((Yl (Yl (Yl (Yr Iff.rfl) dq) dq) dq)).1 Zb
     exact Z0 (XO (ar (Zr (r1 [] (.inr ⟨rfl,rfl,(by first|exact EP ZW|exact AT hrx om|exact AW hV hfr hrx om YK|exact ⟨AW hV hfr hrx om YE,(JS hrx).symm⟩)⟩)))))
    have Yh:¬((((¬(XH n=true))∨(f<0))∨(f>=(n.routines.length:Int)))∨(k<0)):=Yd (Yl (Yl (Yl (Yr Iff.rfl) dq) dq) dq) Zb
    refine ZP 4 [0] ?_
    obtain ⟨x1,Z3⟩:=Zs n.routines f.toNat om
    have hV:XH n=true:=EE fun z=>Yh (.inl (.inl (.inl z)))
    have hfr:0<=f:=by omega
    obtain ⟨hok,hall⟩:=Cl hz hV
    have hrm:=ZX Z3
    have hbz:=hz.body _ hrm
    have hbe:=(x1).body.sz_eq
    have hpl:=hok.params_at Z3
    have hll:=hok.lent_at Z3
    have hrx:=Z3
    have hsg:VP n=true:=by rw [XH,W7] at hV;exact hV.1
    have hty:=PA hsg
    have hlt:=Pz hsg
    obtain ⟨hk,hkv⟩:=Gf n.decls x1
    obtain ⟨vs,hvs,_⟩:=Mg (k:=k.toNat) (hall _ hrm)
    have hrr:Uz (x1).body.steps:=by have:=hr _ hrm;rw [(x1).body.rng_eq] at this;exact this
    have hst:=Qy (x1).body.steps k.toNat
    refine Zm (Zi none f 5 (Ww Z3)) (Z1 3 (iw (VD x1.body.steps) (Y1 (k>(x1.body.steps.length:Int)) (fun Za=>?_) (fun Za=>?_))))
    ·exact ar (Zr (r1 [] (.inr ⟨rfl,rfl,(by first|exact EP ZW|exact AT hrx om|exact AW hV hfr hrx om YK|exact ⟨AW hV hfr hrx om YE,(JS hrx).symm⟩)⟩)))
    refine ak (Zw 2 [0] (ic [] (Z1u n f x1 (hV:=hV) (hf:=hfr) (hr:=hrx)) ?_))
    rintro _ _ ⟨c1,wa1,wb1,wc1,rfl,rfl⟩
    refine Z0 (Yi 4 [4] (Zm (Zi none f 5 (Ww Z3)) (Z1 4 (Zm (J4 (es:=Zy x1.body.steps) (hv:=none) (l:=0) (m:=k) (sz:=5) (es':=Zy (x1.body.steps.take k.toNat)) kr om om (by simp<;>omega) (Xj _) (by first|(simp only [VS,Vy,KN,KM];done)|(simp only [VS,Vy,KN,KM];rfl)|(simp [KN,KM];done))) (ic [0,0,0,0] (Z1w c1 wa1 wb1 wc1 n (VV x1) x1.lent [] (x1.body.steps.take k.toNat) 1 vs hok hty hlt ob hk (Px x1) (by rw [hkv];exact hvs) (by rw [hkv];exact hty.params x1 hrm) (by rw [hkv,Xu];omega) om (Zen _ hrr)) ?_)))))
    rintro _ _ (⟨wa2,wb2,wc2,M'1,rfl,rfl,YE⟩|⟨rfl,rfl,YK⟩)
    ·exact Z0 (Wb (ak (ar (Zr (r1 [0,0,0,0] (.inl ⟨c1,wa2,wb2,wc2,M'1,x1.lent,rfl,rfl,(by first|exact EP ZW|exact AT hrx om|exact AW hV hfr hrx om YK|exact ⟨AW hV hfr hrx om YE,(JS hrx).symm⟩)⟩))))))
    exact Z0 (XO (ar (Zr (r1 [] (.inr ⟨rfl,rfl,(by first|exact EP ZW|exact AT hrx om|exact AW hV hfr hrx om YK|exact ⟨AW hV hfr hrx om YE,(JS hrx).symm⟩)⟩)))))
   refine Z1 1 (ib (b:=(((!XH n)||(decide (f<0)))||(decide (f>=(n.routines.length:Int))))) 22 (fun ZA=>?_) (fun ZA=>?_))
   ·have X9:((¬(XH n=true))∨(f<0))∨(f>=(n.routines.length:Int)):=((Yl (Yl (Yr Iff.rfl) dq) dq)).1 ZA
    exact Z1 3 (Yx (wk [0] (fc (x:=.b true) (lb (by rw [ZA];rfl)) fl)) hj3)
   have XK:¬(((¬(XH n=true))∨(f<0))∨(f>=(n.routines.length:Int))):=Yd (Yl (Yl (Yr Iff.rfl) dq) dq) ZA
   exact Z1 3 (Yx (wk [0] (fc (x:=.b (decide (k<0))) (lb (by rw [ZA];rfl)) fl)) hj3)
  refine Z1 1 (ib (b:=((!XH n)||(decide (f<0)))) 15 (fun YA=>?_) (fun YA=>?_))
  ·have Wo:(¬(XH n=true))∨(f<0):=((Yl (Yr Iff.rfl) dq)).1 YA
   exact Z1 6 (Yx (wk [0] (fc (x:=.b true) (lb (by rw [YA];rfl)) fl)) hj2)
  have WR:¬((¬(XH n=true))∨(f<0)):=Yd (Yl (Yr Iff.rfl) dq) YA
  exact ZP 3 [0] (iw (Uq n.routines) (Z1 2 (Yx (wk [0] (fc (x:=.b (decide (f>=(n.routines.length:Int)))) (lb (by rw [YA];rfl)) fl)) hj2)))
 refine Z1 2 (ib (b:=(!XH n)) 11 (fun Xq=>?_) (fun Xq=>?_))
 ·have Vc:¬(XH n=true):=((Yr Iff.rfl)).1 Xq
  exact Z1 3 (Yx (wk [0] (fc (x:=.b true) (lb (by rw [Xq];rfl)) fl)) hj1)
 have Ut:¬(¬(XH n=true)):=Yd (Yr Iff.rfl) Xq
 exact Z1 3 (Yx (wk [0] (fc (x:=.b (decide (f<0))) (lb (by rw [Xq];rfl)) fl)) hj1)
theorem OA (n:Zk) (f:Int) (k:Int) (hz:VU n:=by exact ob) (hr:∀r∈n.routines,r.body.rng):Zl 35 [Yn n,.i f,.i k] [] (fun r h=>∃(v:Value),r=ZM (TB n f k) v/\h=[.tail v 1]):=by
 refine ZG 18 Tryz.func35 (ar (iA (YS n) fun b1=>Z0 (Zw 3 [0] (ic [] (N2 n f k (hr:=hr)) ?_))))
 rintro _ _ (⟨c1,wa1,wb1,wc1,L1,ln1,rfl,rfl,ZW⟩|⟨rfl,rfl,Yh⟩)
 ·obtain ⟨ha,hln⟩:=ZW
  obtain ⟨⟨e1,e2,e3,e4,e5⟩,hlv⟩:=EM hz ha
  exact Z0 (YF 1 (iQ false (ie (Wb (ak (Al [0] (DD 6 2 (v:=wb1) (xs:=L1.own) (ZD (r2 [0] [ZM L1.own wb1.v] ⟨wb1.v,rfl,rfl⟩ (Zd.slh _ (Yj Z6 (by first|rw [Gp ha]|(rw [Em ha];rfl)))))))))))))
 have ha:=Yh
 exact Z0 (YF 1 (iQ true (ie (XO (ZE (QG 1 (ZD (r2 [0] [nl] ⟨(.slice none 0 0),rfl,rfl⟩ (Zd.slh _ (by first|rw [Gp ha]|(rw [Em ha];rfl)))))))))))
theorem IS (xs:LI) (ys:LI) (hxl:xs.length<=1000000000:=by exact ob) (hyl:ys.length<=1000000000:=by exact ob):Zl 36 [Z4 xs,Z4 ys] [] (Yo (.b (decide (xs=ys)))):=by
 refine ZG 26 Tryz.func36 (ZE (YF 1 (iw (Y8 xs) (Z1 1 (iw (Y8 ys) (YD ((xs.length:Int) != (ys.length:Int)) Ym (fun Za=>?_) (fun Za=>?_)))))))
 ·exact ar (Zr (Y3 (.b false) (lb (decide_eq_false (fun z=>Za (by rw [z]))).symm)))
 refine ak (Y9 (ab 0 (Y2 (fun fz gz m F h=>∃(k:Nat),(k<=xs.length)/\(∀i,i<k->xs[i]? = ys[i]?)/\F=sF [0,1] fz [(5,.i k)]/\h=gz/\m=xs.length-k) _ _ _ ⟨0,ob,(fun i h=>absurd h om),rfl,rfl,rfl⟩ (wk [] (Ya fl)) ?_)))
 rintro m F h ⟨k,Yf,Zh,rfl,rfl,rfl⟩
 refine YF 2 (iw (Y8 xs) (Y1 ((k:Int)<(xs.length:Int)) (fun Ze=>?_) (fun Ze=>?_)))
 ·refine ak (aq (ab 1 (aD 9 (Zj 7 9 [0,1] ?_))))
  obtain ⟨x1,Z3⟩:=Zs xs k om
  refine dx 2 (Zi none (k:Int) 1 (ZZ Z3)) (Zj 3 6 [3,4,5] ?_)
  obtain ⟨x2,Zt⟩:=Zs ys k om
  refine dx 6 (Zi none (k:Int) 1 (ZZ Zt)) (Zj 0 2 [7,8] (de (ac (x1 != x2) Ym (fun ZC=>?_) (fun ZC=>?_))))
  ·exact ar (Zr (Y3 (.b false) (lb (decide_eq_false (fun z=>ZC (by rw [z,Zt] at Z3;cases Z3;rfl))).symm)))
  exact ak (az (Z1 1 (ZJ k (Z0 (ZL ⟨k+1,ob,(fun i h=>(Nat.lt_succ_iff_lt_or_eq.1 h).elim (Zh i) (fun z=>by rw [z,Z3,Zt,Vp.1 ZC])),rfl,rfl,rfl⟩ (wk [] (ZO k fl)))))))
 exact ax 0 (ar (Zr (Y3 (.b true) (lb (decide_eq_true (Z4o om (fun i hi=>Zh i om))).symm))))
theorem Pe (xs:LI) (n:Int) (hl:xs.length<=1000000000:=by exact ob):Zl 23 [Z4 xs,.i n] [] (Yo (.b (decide (n∈xs)))):=by
 refine ZG 18 Tryz.func23 (ZE (Y9 (ab 0 (Y2 (fun fz gz m F h=>∃(k:Nat),(k<=xs.length)/\(n∉xs.take k)/\F=sF [0,1] fz [(5,.i k)]/\h=gz/\m=xs.length-k) _ _ _ ⟨0,ob,(by simp),rfl,rfl,rfl⟩ (wk [] (Ya fl)) ?_))))
 rintro m F h ⟨k,Yf,Zh,rfl,rfl,rfl⟩
 refine YF 2 (iw (Y8 xs) (Y1 ((k:Int)<(xs.length:Int)) (fun Za=>?_) (fun Za=>?_)))
 ·refine ak (aq (ab 1 (Y5 2 ?_)))
  obtain ⟨x1,Z3⟩:=Zs xs k om
  refine Zm (Zi none (k:Int) 1 (ZZ Z3)) (YD (x1==n) Zq (fun Ze=>?_) (fun Ze=>?_))
  ·exact ar (Zr (Y3 (.b true) (lb (by rw [eq_comm,dq];have:=Ze;subst this;exact ZX Z3))))
  exact ak (az (Z1 1 (ZJ k (Z0 (ZL ⟨k+1,ob,(Zan Z3 Zh Ze),rfl,rfl,rfl⟩ (wk [] (ZO k fl)))))))
 exact ax 0 (ar (Zr (Y3 (.b false) (lb (by rw [eq_comm,decide_eq_false_iff_not];rwa [Vi om] at Zh)))))
theorem Z9n (xs:LI) (hxl:xs.length<=1000000000:=by exact ob) (hasc:∀(k:Nat) (x y:Int),xs[k]? = some x->xs[k+1]? = some y->x<y):Zl 49 [Z4 xs] [] (Yo (.b true)):=by
 refine ZG 20 Tryz.func49 (ZE (Y9 (ab 0 (Y2 (fun fz gz m F h=>∃(k:Nat),(1<=k)/\F=sF [0] fz [(3,.i k)]/\h=gz/\m=xs.length-k) _ _ _ ⟨1,ob,rfl,rfl,rfl⟩ (wk [] (fc (x:=.i 1) li fl)) ?_))))
 rintro m F h ⟨k,Yf,rfl,rfl,rfl⟩
 refine YF 2 (iw (Y8 xs) (Y1 ((k:Int)<(xs.length:Int)) (fun Za=>?_) (fun Za=>?_)))
 ·refine ak (aq (ab 1 (aD 10 (Zj 8 10 [0,1] ?_))))
  obtain ⟨x1,Z3⟩:=Zs xs k om
  refine dx 2 (Zi none (k:Int) 1 (ZZ Z3)) (Zj 4 7 [3,4,5] (da 6 (((k:Int)-1)) (((k:Int))-(1)) ?_))
  obtain ⟨x2,Zt⟩:=Zs xs (((k:Int)-1).toNat) om
  refine dx 7 (Zi none ((k:Int)-1) 1 (ZZ Zt)) (Zj 0 2 [8,9] (de (XZ (x1<=x2) (fun Ze=>?_) (fun Ze=>?_))))
  ·exact ar (Zr (Y3 (.b false) (lb (absurd (hasc (k-1) x2 x1 (by have h:=Zt;rwa [show ((k:Int)-1).toNat=k-1 by omega] at h) (by rw [show k-1+1=k by omega];exact Z3)) om))))
  exact ak (az (Z1 1 (ZJ k (Z0 (ZL ⟨k+1,ob,rfl,rfl,rfl⟩ (wk [] (ZO k fl)))))))
 exact ax 0 (ar (Zr (Ck)))
theorem Z9o (xs:LI) (ys:LI) (hxl:xs.length<=1000000000:=by exact ob) (hyl:ys.length<=1000000000:=by exact ob) (hin:∀z∈xs,z∈ys):Zl 50 [Z4 xs,Z4 ys] [] (Yo (.b true)):=by
 refine ZG 19 Tryz.func50 (ZE (Y9 (ab 0 (Y2 (fun fz gz m F h=>∃(k:Nat),(k<=xs.length)/\F=sF [0,1] fz [(5,.i k)]/\h=gz/\m=xs.length-k) _ _ _ ⟨0,ob,rfl,rfl,rfl⟩ (wk [] (Ya fl)) ?_))))
 rintro m F h ⟨k,Yf,rfl,rfl,rfl⟩
 refine YF 2 (iw (Y8 xs) (Y1 ((k:Int)<(xs.length:Int)) (fun Za=>?_) (fun Za=>?_)))
 ·refine ak (aq (ab 1 (Y5 3 ?_)))
  obtain ⟨x1,Z3⟩:=Zs xs k om
  refine Zm (Zi none (k:Int) 1 (ZZ Z3)) (Z1 1 (Zz [] (Pe ys x1) (YD (!(decide (x1∈ys))) (p:=¬(x1∈ys)) (Yr dq) (fun Ze=>?_) (fun Ze=>?_))))
  ·exact ar (Zr (Y3 (.b false) (lb (absurd (hin _ (ZX Z3)) Ze))))
  exact ak (az (Z1 1 (ZJ k (Z0 (ZL ⟨k+1,ob,rfl,rfl,rfl⟩ (wk [] (ZO k fl)))))))
 exact ax 0 (ar (Zr (Ck)))
theorem Z5d (rd:Nat) (bs:LI) (p:Nat) (ZH:∀z∈bs,0<=z/\z<=255) (hp:p+147500000<=1000000000:=by exact ob):Zl 78 [.p rd 0] [Yw rd bs p] (fun r h=>∃(n2:Zk) (p2:Nat),r=Yn n2/\h=[Yw rd bs p2]/\ZS n2 7330632 11/\p<=p2/\p2<=p+147500000):=by
 refine ZG 7 Tryz.func78 (ar (iA [nl,nl] fun b1=>ie (Y5 2 (ic [1] (Z5g rd bs p (ZH:=ob)) ?_))))
 rintro _ _ ⟨n1,p21,rfl,rfl,ZW⟩
 have hbf:=ZW.1.zs
 refine ic [0] (Z75 rd bs p21 n1 14 7330630 10 (ZH:=ob) (hzn:=hbf)) ?_
 rintro _ _ ⟨n21,p22,rfl,rfl,Yh⟩
 have hsf:=Yh
 exact ZI 1 b1 (YS n21) (ie (ZD (r3 [1] [Yn n21] [0] [(b1,b1)] ⟨n21,p22,rfl,rfl,⟨hsf.1,by omega,by omega⟩⟩ (lr _))))
theorem Z5c (code:LI) (hcl:code.length<=1048576:=by exact ob) (hcb:∀z∈code,0<=z/\z<=255):Zl 34 [U3 code] [] (fun r h=>∃(n2:Zk) (zf:Int) (zk:Int),r=.tup [Yn n2,.i zf,.i zk]/\h=[]/\ZS n2 7330632 11/\(-1<=zf/\zf<=1000000000)/\(-1<=zk/\zk<=1000000000)):=by
 refine ZG 48 Tryz.func34 (ar (iA [nl,nl] fun b1=>Z0 (Y5 1 (ic [] (Z6m code (hc:=hcb)) ?_))))
 rintro _ _ ⟨rd1,bs1,rfl,rfl,ZW⟩
 have hnr:=ZW
 refine Z0 (Y5 1 (ic [0] (Z5d rd1 bs1 0 (ZH:=hnr)) ?_))
 rintro _ _ ⟨n21,p21,rfl,rfl,Yh⟩
 have hab:=Yh
 have hal:=hab.1.len
 refine iA [nl,nl] fun b2=>ZI 0 b2 (YS n21) (ie (Zw 3 [0] (iw (Uq n21.routines) (ic [1] (W8 rd1 bs1 p21 (n21.routines.length:Int) (ZH:=hnr)) ?_))))
 rintro _ _ ⟨k1,rfl,rfl,YE⟩
 have hk:=YE.lt om
 refine Z0 (Zw 3 [1] ?_)
 obtain ⟨x1,Z3⟩:=Zs n21.routines k1.toNat om
 have hz1:=hab.1.rt _ (ZX Z3)
 have hzl:=Za1 (x1).body
 have hze:=(x1).body.sz_eq
 refine Zm (Zi none k1 5 (Ww Z3)) (Z1 3 (iw (VD x1.body.steps) (Z0 (aD 25 (ZK 16 25 [0,1,2,3,4,5,8,9,10] [1] (da 11 (((x1.body.steps.length+1:Nat):Int)) (((x1.body.steps.length:Int))+(1)) (Zj 13 15 [13,14] (da 15 (((x1.body.steps.length+1:Nat):Int)) (((x1.body.steps.length:Int))+(1)) (Zj 10 12 [17,18] (da 19 (((x1.body.steps.length+1:Nat):Int)) (((x1.body.steps.length:Int))+(1)) (Z9 6 (dL 6 [1] [b2] (Z6 [k1,k1,k1,k1,-1,4]) 6 1 fun v1=>Yt 8 8 [] [(32,Z4 [k1,k1,k1,k1,-1,4])] (Z9 7 (dc 7 [1] [0] [b2] (VN rd1 bs1 (p21+1) [k1,k1,k1,k1,-1,4] (ZH:=hnr)) ?_))))))))))))))
 rintro _ _ ⟨z1,rfl,rfl,YK⟩
 have hon:=YK
 simp only [YB,List.not_mem_nil,or_false] at hon
 refine Z9 12 (dc 12 [0] [0] [b2] (W8 rd1 bs1 ((p21+1)+1) ((x1.body.steps.length+1:Nat):Int) (ZH:=hnr)) ?_)
 rintro _ _ ⟨k2,rfl,rfl,X9⟩
 have hk:=X9.lt om
 refine Z9 16 (dc 16 [0] [0] [b2] (W8 rd1 bs1 (((p21+1)+1)+1) ((x1.body.steps.length+1:Nat):Int) (ZH:=hnr)) ?_)
 rintro _ _ ⟨k3,rfl,rfl,XK⟩
 have hk:=XK.lt om
 refine Z9 20 (dL 20 [1] [b2] (Z6 [k2,k3,(x1.body.steps.length:Int),0,((x1.body.steps.length+1:Nat):Int),-1]) 6 1 fun v2=>Yt 4 4 [] [(46,Z4 [k2,k3,(x1.body.steps.length:Int),0,((x1.body.steps.length+1:Nat):Int),-1])] (Z9 21 (dc 21 [1] [0] [b2] (VN rd1 bs1 ((((p21+1)+1)+1)+1) [k2,k3,(x1.body.steps.length:Int),0,((x1.body.steps.length+1:Nat):Int),-1] (ZH:=hnr)) ?_)))
 rintro _ _ ⟨z2,rfl,rfl,Wo⟩
 have hon:=Wo
 simp only [YB,List.not_mem_nil,or_false] at hon
 exact Z9 22 (YJ 22 4 [] [] b1 (YS n21) (Zj 0 2 [23,24] (de (ZD (r3 [] [Yn n21,.i z1,.i z2] [0] [(b1,b1)] ⟨n21,z1,z2,rfl,rfl,⟨hab.1,by omega,by omega⟩⟩ (lr _))))))
theorem Z5b (code:LI) (hcl:code.length<=1048576:=by exact ob) (hcb:∀z∈code,0<=z/\z<=255):Zl 46 [U3 code] [] (fun r h=>∃(n2:Zk) (zf:Int) (zk:Int),r=.tup [Yn n2,.i zf,.i zk]/\h=[]/\ZS n2 7330632 11/\(-1<=zf/\zf<=1000000000)/\(-1<=zk/\zk<=1000000000)):=by
 refine ZG 10 Tryz.func46 (ar (iA [nl,nl] fun b1=>Z0 (Y5 1 (ic [] (Z5c code (hcl:=hcl) (hcb:=hcb)) ?_))))
 rintro _ _ ⟨n21,zf1,zk1,rfl,rfl,ZW⟩
 exact Z1 3 (ZI 0 b1 (YS n21) (Zr (r3 [] [Yn n21,.i zf1,.i zk1] [0] [(b1,b1)] ⟨n21,zf1,zk1,rfl,rfl,ob⟩ (lr _))))
open Go.Proofs
theorem LV (n:Zk) (f:Int) (k0:Int) (hz:VU n:=by exact ob):Zl 48 [Yn n,.i f,.i k0] [] (fun r h=>∃(v:Value),r=ZM (Wt n f k0) v/\h=[.tail v 1]):=by
 refine ZG 48 Tryz.func48 (ar (iA (YS n) fun b1=>Z0 (Zw 3 [0] (ic [] (Za0 n f k0) ?_))))
 rintro _ _ (⟨c1,wa1,wb1,wc1,wd1,we1,wf1,L1,ln1,rfl,rfl,ZW⟩|⟨rfl,rfl,Yh⟩)
 ·obtain ⟨ha,hln⟩:=ZW
  have hqx:=MA hz ha
  rw [<-hln] at hqx
  obtain ⟨harm,hdn,hlk,hlv,hll⟩:=hqx
  have hlk0:=hlk
  obtain ⟨e1,e2,e3,e4,e5⟩:=hlk0
  refine Z0 (Y9 (Wb (ak (ar (iL (Z6 []) 0 1 fun v1=>?_)))))
  refine Z0 (Y9 (ab 0 (Y2 (fun fz gz m F h=>∃(k:Nat) (acc:LI) (u:Value),(k<=L1.vars.length)/\(acc.length<=k)/\(acc++UE L1 ln1 (L1.vars.drop k) k=UE L1 ln1 L1.vars 0)/\F=sF [7] fz [(9,ZM acc u),(10,.i k)]/\h=[Zc gz 1,Zc gz 2,Zc gz 3,Zc gz 4,Zc gz 5,Zc gz 6,Zc gz 7,.tail u 1]/\m=L1.vars.length-k) _ _ _ ⟨0,[],v1,ob,ob,rfl,rfl,rfl,rfl⟩ (wk [1,1,1,1,1,1,1,0] (fr (Ya fl))) ?_)))
  rintro m F h ⟨k,acc,u,Yf,Zh,Zv,rfl,rfl,rfl⟩
  refine Yi 5 [0] (Zm (K7 1 wa1 L1.vars) (Y1 ((k:Int)<(L1.vars.length:Int)) (fun Za=>?_) (fun Za=>?_)))
  ·refine ak (aq (ab 1 (Zw 5 [0] (Zm (Wf 1 wa1 L1.vars (k:Int) k) ?_))))
   obtain ⟨x1,Z3⟩:=Zs L1.vars k om
   refine WS (Vx 1 wa1 L1.vars k x1 Z3) (Xp [7,9,10] [(42,.b ((x1 != 0)&&Xr L1 ln1 (k:Int)))] (fun gz=>gz) ?_ ?_)
   ·refine Z1 2 (ib (b:=(x1 != 0)) 38 (fun Zb=>?_) (fun Zb=>?_))
    ·have YE:x1≠0:=(Ym).1 Zb
     exact Z1 2 (Zz [0,0,0,0,0,0,0] (Ea c1 wa1 wb1 wc1 wd1 we1 wf1 L1 ln1 (k:Int) (hd:=ob)) (Z0 (ZF 8 (fc (x:=.b (Xr L1 ln1 (k:Int))) (lb (by rw [Zb];rfl)) fl))))
    have YK:¬(x1≠0):=Yd Ym Zb
    exact Z0 (ZF 8 (fc (x:=.b false) (lb (by rw [Zb];rfl)) fl))
   refine KI (fun fz gz F h=>∃(w:Value),F=sF [7,10] fz [(9,ZM (if x1≠0/\Xr L1 ln1 (k:Int)=true then acc++[(k:Int)] else acc) w)]/\h=[Zc gz 0,Zc gz 1,Zc gz 2,Zc gz 3,Zc gz 4,Zc gz 5,Zc gz 6,.tail w 1]) (fun _ _=>rfl) ?_ ?_
   ·refine ac ((x1 != 0)&&Xr L1 ln1 (k:Int)) (p:=(x1≠0)/\(Xr L1 ln1 (k:Int)=true)) (YG Ym Iff.rfl) (fun Ze=>?_) (fun Ze=>?_)
    ·exact az (Z1 2 (iL (Z6 [(k:Int)]) 1 1 fun v2=>ZT 0 [(45,Z4 [(k:Int)])] (ip 8 (Z6 (acc++[(k:Int)])) (Z6 acc) (Z6 [(k:Int)]) u none 1 (Yy _) (Yy _) (W5 _) (by simp<;>omega) (by simp [W4,Z6]) fun v3=>Z0 (ZQ ⟨v3,rfl,rfl⟩ (wk [2,2,2,2,2,2,2,0] (fc (x:=ZM (acc++[(k:Int)]) v3) (Zd.slh _ (Yj Z6 (by first|rfl|(rw [Zf Ze])|(rw [Z8 Ze])|(simp [Ze];done)|(rw [Xl];simp [Ze];done)|omega))) fl))))))
    exact ak (ZQ ⟨u,rfl,rfl⟩ (ZF 8 (fc (x:=ZM acc u) (Zd.slh _ (Yj Z6 (by first|rfl|(rw [Zf Ze])|(rw [Z8 Ze])|(simp [Ze];done)|(rw [Xl];simp [Ze];done)|omega))) fl)))
   rintro F h ⟨w,rfl,rfl⟩
   exact az (Z1 1 (ZJ k (Z0 (ZL ⟨k+1,(if x1≠0/\Xr L1 ln1 (k:Int)=true then acc++[(k:Int)] else acc),w,ob,(by split<;>(try simp)<;>omega),(MG Z3 Zv),rfl,rfl,rfl⟩ (ZF 8 (fr (ZO k fl)))))))
  exact ax 0 (ar (Zr (r2 [7] [ZM acc u] ⟨u,rfl,rfl⟩ (Zd.slh _ (Yj Z6 (by first|(rw [AY ha,<-hln];exact EQ om Zv)|(rw [Ct ha];rfl)))))))
 have ha:=Yh
 exact Z0 (Y9 (XO (ZE (QG 1 (ZD (r2 [0] [nl] ⟨(.slice none 0 0),rfl,rfl⟩ (Zd.slh _ (by first|(rw [AY ha,<-hln];exact EQ om Zv)|(rw [Ct ha];rfl)))))))))
theorem Z85 (n:Zk) (f:Int) (k0:Int) (hz:VU n:=by exact ob) (hr:∀r∈n.routines,r.body.rng):Zl 47 [Yn n,.i f,.i k0] [] (fun r h=>∃(v:Value),r=ZM (Wt n f k0) v/\h=[.tail v 1]):=by
 refine ZG 40 Tryz.func47 (ar (iA (YS n) fun b1=>Z0 (Zw 3 [0] (ic [] (N2 n f k0 (hr:=hr)) ?_))))
 rintro _ _ (⟨c1,wa1,wb1,wc1,L1,ln1,rfl,rfl,ZW⟩|⟨rfl,rfl,Yh⟩)
 ·obtain ⟨ha,hln⟩:=ZW
  have hqx:=MA hz ha
  rw [<-hln] at hqx
  obtain ⟨harm,hdn,hlk,hlv,hll⟩:=hqx
  have hlk0:=hlk
  obtain ⟨e1,e2,e3,e4,e5⟩:=hlk0
  refine Z0 (YF 1 (iQ false (ie (Wb (ak (ZE (Yi 4 [0] (Zm (K7 1 wa1 L1.vars) (Z0 (ab 0 (QG 1 (Y2 (fun fz gz m F h=>∃(k:Nat) (acc:LI) (u:Value),(k<=L1.vars.length)/\(acc.length<=k)/\(acc++UE L1 ln1 (L1.vars.drop k) k=UE L1 ln1 L1.vars 0)/\F=sF [7,20,21] fz [(8,ZM acc u),(22,.i k)]/\h=[Zc gz 1,Zc gz 2,Zc gz 3,Zc gz 4,.tail u 1]/\m=L1.vars.length-k) _ _ _ ⟨0,[],(.slice none 0 0),ob,ob,rfl,rfl,rfl,rfl⟩ (wk [1,1,1,1,0] (fc (x:=nl) (Zd.slh _ (by first|rfl|(subst_vars;rfl))) (Ya fl))) ?_))))))))))))
  rintro m F h ⟨k,acc,u,Yf,Zh,Zv,rfl,rfl,rfl⟩
  refine ZE (aq (XZ ((k:Int)<(L1.vars.length:Int)) (fun Za=>?_) (fun Za=>?_)))
  ·refine ak (aq (ab 1 (Y5 1 (Zm (Wf 1 wa1 L1.vars (k:Int) k) ?_))))
   obtain ⟨x1,Z3⟩:=Zs L1.vars k om
   refine WS (Vx 1 wa1 L1.vars k x1 Z3) (Z0 (ar (Xp [7,8,9,20,21,22] [(33,.b ((x1 != 0)&&Xr L1 ln1 (k:Int)))] (fun gz=>gz) ?_ ?_)))
   ·refine Z1 3 (ib (b:=(x1 != 0)) 29 (fun Zb=>?_) (fun Zb=>?_))
    ·have YE:x1≠0:=(Ym).1 Zb
     exact Z1 2 (Zz [0,0,0,0] (EU c1 wa1 wb1 wc1 n L1 ln1 [] (k:Int) ob harm ob ob ob ob ob) (Z0 (ZF 5 (fc (x:=.b (Xr L1 ln1 (k:Int))) (lb (by rw [Zb];rfl)) fl))))
    have YK:¬(x1≠0):=Yd Ym Zb
    exact Z0 (ZF 5 (fc (x:=.b false) (lb (by rw [Zb];rfl)) fl))
   refine KI (fun fz gz F h=>∃(w:Value),F=sF [7,20,21,22] fz [(8,ZM (if x1≠0/\Xr L1 ln1 (k:Int)=true then acc++[(k:Int)] else acc) w)]/\h=[Zc gz 0,Zc gz 1,Zc gz 2,Zc gz 3,.tail w 1]) (fun _ _=>rfl) ?_ ?_
   ·refine ac ((x1 != 0)&&Xr L1 ln1 (k:Int)) (p:=(x1≠0)/\(Xr L1 ln1 (k:Int)=true)) (YG Ym Iff.rfl) (fun Ze=>?_) (fun Ze=>?_)
    ·exact az (Z1 2 (iL (Z6 [(k:Int)]) 1 1 fun v1=>ZT 0 [(36,Z4 [(k:Int)])] (ip 5 (Z6 (acc++[(k:Int)])) (Z6 acc) (Z6 [(k:Int)]) u none 1 (Yy _) (Yy _) (W5 _) (by simp<;>omega) (by simp [W4,Z6]) fun v2=>Z0 (ZQ ⟨v2,rfl,rfl⟩ (wk [2,2,2,2,0] (fc (x:=ZM (acc++[(k:Int)]) v2) (Zd.slh _ (Yj Z6 (by first|rfl|(rw [Zf Ze])|(rw [Z8 Ze])|(simp [Ze];done)|(rw [Xl];simp [Ze];done)|omega))) fl))))))
    exact ak (ZQ ⟨u,rfl,rfl⟩ (ZF 5 (fc (x:=ZM acc u) (Zd.slh _ (Yj Z6 (by first|rfl|(rw [Zf Ze])|(rw [Z8 Ze])|(simp [Ze];done)|(rw [Xl];simp [Ze];done)|omega))) fl)))
   rintro F h ⟨w,rfl,rfl⟩
   exact az (ZJ k (Z0 (ZL ⟨k+1,(if x1≠0/\Xr L1 ln1 (k:Int)=true then acc++[(k:Int)] else acc),w,ob,(by split<;>(try simp)<;>omega),(MG Z3 Zv),rfl,rfl,rfl⟩ (ZF 5 (fr (ZO k fl))))))
  exact ax 0 (ar (Zr (r2 [4] [ZM acc u] ⟨u,rfl,rfl⟩ (Zd.slh _ (Yj Z6 (by first|(rw [AY ha,<-hln];exact EQ om Zv)|(rw [Ct ha];rfl)))))))
 have ha:=Yh
 exact Z0 (YF 1 (iQ true (ie (XO (ZE (QG 1 (ZD (r2 [0] [nl] ⟨(.slice none 0 0),rfl,rfl⟩ (Zd.slh _ (by first|(rw [AY ha,<-hln];exact EQ om Zv)|(rw [Ct ha];rfl)))))))))))
theorem Z9m (code:LI) (hcb:∀z∈code,0<=z/\z<=255):Zl 14 [U3 code] [] (Yo (.b true)):=by
 refine ZG 76 Tryz.func14 (ZE (YF 1 (iw (KL code) (Y1 ((code.length:Int)>1048576) (fun Za=>?_) (fun Za=>?_)))))
 ·exact ar (Zr (Ck))
 have hcl:code.length<=1048576:=by omega
 refine ak (Y5 1 (ic [] (Z5b code (hcl:=hcl) (hcb:=hcb)) ?_))
 rintro _ _ ⟨n21,zf1,zk1,rfl,rfl,ZW⟩
 obtain ⟨hzs,⟨hf1,hf2⟩,hk1,hk2⟩:=ZW
 have hzn:=hzs.sz om om
 have hln:=hzs.len
 have hol:=Cc hzn zf1 zk1
 have hal:=BO hzn zf1 zk1
 refine Z1 4 (iA [nl,nl] fun b1=>ZI 0 b1 (YS n21) (Z0 (Zw 3 [0] (ic [] (Z85 n21 zf1 zk1 (hr:=(fun r hr=>(hzs.rt r hr).2.2.2))) ?_))))
 rintro _ _ ⟨v1,rfl,rfl⟩
 refine Z0 (Yi 4 [1] (ic [] (LV n21 zf1 zk1) ?_))
 rintro _ _ ⟨v2,rfl,rfl⟩
 refine ZT 0 [(22,Z4 (Wt n21 zf1 zk1)),(26,Z4 (Wt n21 zf1 zk1))] (Zz [] (IS (Wt n21 zf1 zk1) (Wt n21 zf1 zk1) (hxl:=(by have h1:=Cc hzn zf1 zk1;have h2:=BO hzn zf1 zk1;omega)) (hyl:=(by have h1:=Cc hzn zf1 zk1;have h2:=BO hzn zf1 zk1;omega))) (Z1 2 (ib (b:=(!(decide ((Wt n21 zf1 zk1)=(Wt n21 zf1 zk1))))) 29 (fun Zb=>?_) (fun Zb=>?_))))
 ·have Yh:¬((Wt n21 zf1 zk1)=(Wt n21 zf1 zk1)):=((Yr dq)).1 Zb
  refine Z0 (XO (Zw 4 [2] (ic [] (LV n21 zf1 zk1) ?_)))
  rintro _ _ ⟨v3,rfl,rfl⟩
  exact ZT 0 [(37,Z4 (Wt n21 zf1 zk1)),(41,Z4 (Wt n21 zf1 zk1))] (Zz [] (IS (Wt n21 zf1 zk1) (Wt n21 zf1 zk1) (hxl:=(by have h1:=Cc hzn zf1 zk1;have h2:=BO hzn zf1 zk1;omega)) (hyl:=(by have h1:=Cc hzn zf1 zk1;have h2:=BO hzn zf1 zk1;omega))) (Zr (Y3 (.b (decide ((Wt n21 zf1 zk1)=(Wt n21 zf1 zk1)))) (lb (by first|(simp;done)|(exact absurd (Hx hzn Z3 om) (by first|exact Ye.2|assumption))|(exfalso;omega))))))
 have YE:¬(¬((Wt n21 zf1 zk1)=(Wt n21 zf1 zk1))):=Yd (Yr dq) Zb
 refine ZP 3 [2] (ic [] (OA n21 zf1 zk1 (hr:=(fun r hr=>(hzs.rt r hr).2.2.2))) ?_)
 rintro _ _ ⟨v4,rfl,rfl⟩
 refine io (.i (((TB n21 zf1 zk1).length:Nat):Int)) (.i (((Z6 (TB n21 zf1 zk1)).length:Nat):Int)) (li (by rw [Y8])) (YD ((((TB n21 zf1 zk1).length:Nat):Int)==0) Zq (fun Ze=>?_) (fun Ze=>?_))
 ·refine Zw 4 [3] (ic [] (LV n21 zf1 zk1) ?_)
  rintro _ _ ⟨v5,rfl,rfl⟩
  exact ZT 0 [(37,Z4 (Wt n21 zf1 zk1)),(41,Z4 (Wt n21 zf1 zk1))] (Zz [] (IS (Wt n21 zf1 zk1) (Wt n21 zf1 zk1) (hxl:=(by have h1:=Cc hzn zf1 zk1;have h2:=BO hzn zf1 zk1;omega)) (hyl:=(by have h1:=Cc hzn zf1 zk1;have h2:=BO hzn zf1 zk1;omega))) (Zr (Y3 (.b (decide ((Wt n21 zf1 zk1)=(Wt n21 zf1 zk1)))) (lb (by first|(simp;done)|(exact absurd (Hx hzn Z3 om) (by first|exact Ye.2|assumption))|(exfalso;omega))))))
 obtain ⟨L0,hL0⟩:=Zbi (n:=n21) (f:=zf1) (k:=zk1) (fun z=>Ze (by rw [z];rfl))
 obtain ⟨hV,hfz,hkz,xr,hxr,hkl,hL1⟩:=AU hL0
 have hfl:=(Xc.1 hxr).1
 have hrm:=ZX hxr
 have hlt:=hzn.lent _ hrm
 refine ak (Zw 3 [3] (ic [] (OA n21 zf1 zk1 (hr:=(fun r hr=>(hzs.rt r hr).2.2.2))) ?_))
 rintro _ _ ⟨v6,rfl,rfl⟩
 refine Z0 (Y9 (ab 0 (Y2 (fun fz gz m F h=>∃(j:Nat),(j<=(TB n21 zf1 zk1).length)/\F=sF [3,4] fz [(6,Z4 (Wt n21 zf1 zk1)),(7,Z4 (TB n21 zf1 zk1)),(8,.i j)]/\h=[Zc gz 4]/\m=(TB n21 zf1 zk1).length-j) _ _ _ ⟨0,ob,rfl,rfl,rfl⟩ (wk [4] (fc (x:=ZM (Wt n21 zf1 zk1) v1) (Zd.forget _ _) (fc (x:=ZM (TB n21 zf1 zk1) v6) (Zd.forget _ _) (Ya fl)))) ?_)))
 rintro m F h ⟨j,Yf,rfl,rfl,rfl⟩
 refine YF 2 (io (.i (((TB n21 zf1 zk1).length:Nat):Int)) (.i (((Z6 (TB n21 zf1 zk1)).length:Nat):Int)) (li (by rw [Y8])) (Y1 ((j:Int)<(((TB n21 zf1 zk1).length:Nat):Int)) (fun ZC=>?_) (fun ZC=>?_)))
 ·refine ak (aq (ab 1 (Y5 2 ?_)))
  obtain ⟨x1,Z3⟩:=Zs (TB n21 zf1 zk1) j om
  refine Zm (Zi none (j:Int) 1 (ZZ Z3)) (Xp [3,4,6,7,8] [(63,.b ((decide (x1>0))&&(!(decide ((j:Int)∈(Wt n21 zf1 zk1))))))] (fun gz=>gz) ?_ ?_)
  ·refine Z1 3 (ib (b:=(decide (x1>0))) 58 (fun ZA=>?_) (fun ZA=>?_))
   ·have YK:x1>0:=(dq).1 ZA
    exact Z1 2 (Zz [] (Pe (Wt n21 zf1 zk1) (j:Int)) (Z0 (wk [0] (fc (x:=.b (!(decide ((j:Int)∈(Wt n21 zf1 zk1))))) (lb (by rw [ZA];rfl)) fl))))
   have X9:¬(x1>0):=Yd dq ZA
   exact Z0 (wk [0] (fc (x:=.b false) (lb (by rw [ZA];rfl)) fl))
  refine ac ((decide (x1>0))&&(!(decide ((j:Int)∈(Wt n21 zf1 zk1))))) (p:=(x1>0)/\(¬((j:Int)∈(Wt n21 zf1 zk1)))) (YG dq (Yr dq)) (fun Ye=>?_) (fun Ye=>?_)
  ·exact ar (Zr (Y3 (.b false) (lb (by first|(simp;done)|(exact absurd (Hx hzn Z3 om) (by first|exact Ye.2|assumption))|(exfalso;omega)))))
  exact ak (az (Z1 1 (ZJ j (Z0 (ZL ⟨j+1,ob,rfl,rfl,rfl⟩ (wk [0] (fw (ZO j fl))))))))
 exact ax 0 (Y5 1 (Zz [] (Z9n (Wt n21 zf1 zk1) (hasc:=(Z1i Z0v))) (ZP 4 [0] (Zm (Zi none zf1 5 (Ww hxr)) (Z1 3 (Zz [] (Z9o xr.lent (Wt n21 zf1 zk1) (hin:=(fun z hz=>Z0w hzn hL0 z (by rw [JS hxr];exact hz)))) (Zr (Ck))))))))
end Go.Abs
section
namespace Go.Proofs.YtjmahledcmocoaaGreat.fnAliveAfter
open Go.ChangeShapes Go.WideShapes Go.ChangeAt Go.RowKit Go.Abs
theorem own:ownKnob Tryz.prog.godebug=none:=by kernel_rfl
theorem kids:Kids Tryz.prog (·<Tryz.prog.types.size):=kids_rows kr kr
theorem Z59:∀t e,t<Tryz.prog.types.size->Tryz.prog.underlying t=some (.slice e)->0<Tryz.prog.cellsOf e:=slices_full_of Tryz.prog kr
theorem RG {w w':World} {G G':Yc} {h':List Res} (hx:YV w G [] w' G' h'):∀b,b<w.heap.size->w'.heap[b]? = w.heap[b]?:=
 fun b hb=>(hx.same b hb).eq fun o ⟨r,hr,_⟩=>by cases hr
theorem Z2e {w w':World} {b o:Nat} (h:w'.heap[b]? = w.heap[b]?):w'.cell? ⟨b,o,none⟩=w.cell? ⟨b,o,none⟩:=by simp [World.cell?,h]
theorem Zac {t:Nat} (h:Nat.blt t Tryz.prog.types.size=true):t<Tryz.prog.types.size:=Nat.le_of_ble_eq_true h
set_option maxRecDepth 100000 in
theorem Z36 (H:Type) (enc:TypeId × Value->H) (W:World) (base:Nat) (args:Array Value) (ds gs:List (DataW H)) (before:List MemPlace) (hval:∀(j:Nat) t v,Tryz.f14.params[j]? = some t->args[j]? = some v->Value.okWide Tryz.prog W .any base t v)
  (hW:DataW.Whole enc Tryz.prog Tryz.f14.params.toList Rows.fnAliveAfterSpec.vars false W args.toList ds gs before) :
  Calls Tryz.prog 14 args W fun e W'=>∃v,e=.returned v/\Rows.fnAliveAfterSpec.post enc Tryz.prog Tryz.f14 false true false false W args v W':=by
 have hW':=hW
 obtain ⟨p,q,hA0,hV,rfl,hfz,hnd⟩:=hW
 have hA:DataW.TrodAll enc Tryz.prog W 0 (fun _=>true) true Tryz.f14.params.toList args.toList ds p:=hA0
 rw [Tryz.params14] at hA
 obtain ⟨v0,vs0,d0,ds0,p0,q0,hargs,rfl,rfl,h0,r0⟩:=trodAll_cons hA
 obtain ⟨rfl,rfl,rfl⟩:=trodAll_nil r0
 obtain rfl:args=#[v0]:=by cases args;simp_all
 obtain ⟨rfl,rfl⟩:=trodVars_none hV
 obtain ⟨fuel,htr⟩:=h0
 obtain ⟨qa,ql,qc,rfl⟩:=okWide_slice Tryz.underlying22 (hval 0 22 v0 kr rfl)
 obtain ⟨v1,code,hv1,hrv,hcb⟩:=Zbv htr
 have hv1:[Value.slice qa ql qc]=[v1]:=hv1
 cases hv1
 have hh:Yv W (GA W) []:=⟨(fun r hr=>by cases hr),List.Pairwise.nil,(fun r hr=>by cases hr),fun b o hg=>hg⟩
 refine (Z9m code hcb W (GA W) [.slice qa ql qc] (.cons hrv .nil) hh).mono ?_
 rintro e W' ⟨v,r,h',G',rfl,⟨rfl,rfl⟩,hv,hh',hx⟩
 have hvb:=hv.val_inv
 subst hvb
 refine ⟨_,rfl,[d0],[],p0++[]++[],[],p0++[],[],hW',?_,?_,rfl,?_,(fun h=>by cases h)⟩
 ·exact trodAll_cons_mk (shut_bool Tryz.underlying4 _) trodAll_mk0
 ·have QS:∀b,b<W.heap.size->W'.heap[b]? = W.heap[b]?:=RG hx
  have hlt:=hW'.lt
  have hcar:DataW.TrodAll enc Tryz.prog W' 0 (fun _=>true) true Tryz.f14.params.toList [.slice qa ql qc] [d0] (p0++[]):=by
   rw [Tryz.params14]
   refine ⟨p0,[],⟨fuel,DataW.trod_carry fuel 22 _ _ htr fun y hy=>?_⟩,rfl,rfl⟩
   have hyl:=hlt y (by simpa using hy)
   cases y with
   | cell b o=>exact Z2e (QS b hyl)
   | map b=>exact QS b hyl
  exact DataW.TrodAll.respare kids Z59 (by rw [Tryz.params14];intro t ht;rw [List.mem_singleton.1 ht];exact Zac kr) hcar (fun y hy=>by have:=hlt y (by simpa using hy);simpa using this)
 ·refine ⟨hx.os,hx.output,fun i hi=>?_⟩
  rw [RG hx i hi]
  cases W.heap[i]? with
  | none=>rfl
  | some o=>cases o<;>first | rfl | exact ⟨rfl,rfl,rfl,fun _ _=>rfl⟩ | exact .inr ⟨rfl,rfl⟩
set_option maxRecDepth 100000 in
theorem Zaa (os:Os) (started:os.Started) (H:Type) (enc:TypeId × Value->H) (F:Stop.Interp) :
  ReturnsInHanded {} Tryz.checked os 14 .any ((Rows.OpenSpec.upto Rows.fnAliveAfterSpec).pre6 enc Tryz.prog Tryz.f14 Rows.fnAliveAfterUptoRow.domain false) (((Rows.OpenSpec.upto Rows.fnAliveAfterSpec).at F).post enc Tryz.prog Tryz.f14 false true false false):=by
 refine returnsInHanded_of_cond (C:=Tryz.checked) (s:=Rows.OpenSpec.upto Rows.fnAliveAfterSpec) (k:=Rows.uptoSmall) rfl own started kr Tryz.func14
  (OpenSpec.witness (enc:=enc) (C:=Tryz.checked) (s:=Rows.OpenSpec.upto Rows.fnAliveAfterSpec) (k:=Rows.uptoSmall) rfl false ⟨#[],#[.slice none 0 0],[]⟩ 8 kr kr kr
   (x:=([.nil],[],[])) kr rfl kr) ?_
 intro W base args ds gs before hval hW _ hk _
 exact Z36 H enc W base args ds gs before hval hW
theorem Z0x {a b:Bool} (ha:a=true) (hb:b=true):(a&&b)=true:=by rw [ha,hb];rfl
set_option maxHeartbeats 4000000 in
theorem Z2i:joinedFacts Tryz.pinned.checked.prog 14 Tryz.f14 (Rows.OpenSpec.upto Rows.fnAliveAfterSpec).bare Rows.fnAliveAfterUptoRow=true:=by
 unfold joinedFacts
 iterate 31 refine Z0x ?_ (by as_aux_lemma=>kernel_rfl)
 as_aux_lemma=>kernel_rfl
theorem Zbh:Rows.fnAliveAfterUptoRow.holds Tryz.pinned (Rows.OpenSpec.upto Rows.fnAliveAfterSpec):=
 OpenClaim.holds_of_cond 14 Tryz.f14 rfl rfl rfl rfl rfl rfl rfl ⟨rfl,rfl,rfl,rfl,rfl⟩ rfl rfl rfl rfl rfl (by as_aux_lemma=>kernel_rfl) Tryz.func14 Z2i
  (of_decide_eq_true kr) (by unfold Func.isWrapper;first|(rw [if_pos (by decide +kernel)];kernel_rfl)|(rw [if_neg (by decide +kernel)];exact ⟨rfl,rfl⟩))
  (fun os started H enc _ F=>Zaa os started H enc F)
theorem proved:Rows.FnAliveAfterUptoSaid:=
 Zbh
#print axioms proved
end Go.Proofs.YtjmahledcmocoaaGreat.fnAliveAfter
end
