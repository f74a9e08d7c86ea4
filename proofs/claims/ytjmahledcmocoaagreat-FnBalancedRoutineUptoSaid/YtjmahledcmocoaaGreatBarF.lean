/-
  FnBalancedRoutineUptoSaid: the law FnBalancedRoutine returns true at every argument of bulk at most 1048576, and the argument reads behind the call as it read before.
-/
import Derived.Test.YtjmahledcmocoaaGreatBarE
import Derived.Test.YtjmahledcmocoaaGreatRows
import Derived.WalkKit
import Derived.ProofKit
import Derived.OpenShut
import Derived.JoinedCond
import Derived.ReadAgain
set_option linter.all false
set_option linter.unusedVariables false
set_option linter.unusedSimpArgs false
set_option linter.unusedSectionVars false
set_option maxRecDepth 10000
set_option maxHeartbeats 4000000
namespace Go.Abs
open Go.Proofs
theorem Z82 (rd:Nat) (bs:LI) (p:Nat) (mx:Int) (ZL:∀z∈bs,0<=z/\z<=255) (hp:p+1<=1000000000):Zi 79 [.p rd 0,.i mx] [Yz rd bs p] (fun r h=>∃(k:Int),r=.i k/\h=[.obj rd [Up bs,.i (p+1:Nat)]]/\Pk mx k/\k=AK bs p mx):=by
 refine ZG 99 Tryz.func79 (ZF (Zw 5 [0] (ZJ p (Z1 2 (ZC 0 rd [Up bs,.i (p+1:Nat)] (ie (X4 (Xr [0,1] [(24,.b ((decide (mx<1))||((bs.length:Int)==0)))] (fun gz=>gz) ?_ ?_))))))))
 ·refine Z1 3 (ib (b:=(decide (mx<1))) 17 (fun Zb=>?_) (fun Zb=>?_))
  ·exact Z0 (wk [0] (Zt true Zb fl))
  exact ZM 4 [0] (iw (KZ bs) (Z0 (wk [0] (Zt ((bs.length:Int)==0) Zb fl))))
 refine ac ((decide (mx<1))||((bs.length:Int)==0)) (p:=(mx<1)∨((bs.length:Int)=0)) (Ys dq Zp) (fun Za=>?_) (fun Za=>?_)
 ·exact ar (Zq (r1 [0] ⟨0,rfl,rfl,⟨Pk.zero,by rw [AK,Ze om]⟩⟩))
 refine ak (Zw 4 [0] (ia ((p:Int)) ((((p+1:Nat):Int))-(1)) (Z0 (Yk 5 [0] (iw (KZ bs) (Y5 ((p:Int)<(bs.length:Int)) (fun Zh=>?_) (fun Zh=>?_)))))))
 ·refine Zw 5 [0] ?_
  obtain ⟨x1,Z3⟩:=Zs bs p om
  have hz:=ZL _ (ZZ Z3)
  exact Zo (Zj none (p:Int) 1 (CJ Z3)) (Z1 1 (Zo (Db x1 om) (Z1 1 (Zo (Eh x1 mx om om) (Zq (r1 [0] ⟨(x1 % mx),rfl,rfl,⟨Pk.rem om om,by rw [AK,Z8 om,Ze om,Z3];rfl⟩⟩))))))
 have hq1:p / bs.length<=p:=Nat.div_le_self _ _
 have hq0:(0:Int)<=((p / bs.length:Nat):Int):=Int.natCast_nonneg _
 refine ak (aD 46 (ZH 37 46 [0,1,2,3,4,5,6,7,8] [0,0] (dw 9 (KZ bs) (dx 10 (Gf p bs.length om om) ?_))))
 obtain ⟨x2,Zv⟩:=Zs bs (p % bs.length) (Nat.mod_lt _ om)
 have hz:=ZL _ (ZZ Zv)
 have hy2:=Zv
 refine dx 11 (Zj none ((p % bs.length:Nat):Int) 1 (CJ Zv)) (Zl 33 34 [12] (dx 13 (Db x2 om) (da 14 ((x2*131)) ((x2)*(131)) (ZH 26 31 [15,16,17,18,19] [0] (da 20 (((p*7:Nat):Int)) (((p:Int))*(7)) (da 21 (((p*7+3:Nat):Int)) ((((p*7:Nat):Int))+(3)) (ZH 20 24 [22,23,24,25] [0] (dw 26 (KZ bs) (dx 27 (Gf (p*7+3) bs.length om om) ?_)))))))))
 obtain ⟨x3,YQ⟩:=Zs bs ((p*7+3) % bs.length) (Nat.mod_lt _ om)
 have hz3:=ZL _ (ZZ YQ)
 have hy3:=YQ
 exact dx 28 (Zj none (((p*7+3) % bs.length:Nat):Int) 1 (CJ YQ)) (Zl 16 17 [29] (dx 30 (Db x3 om) (da 31 ((x3*1117)) ((x3)*(1117)) (da 32 (((x2*131)+(x3*1117))) (((x2*131))+((x3*1117))) (Zl 12 13 [33] (da 34 (((p*29:Nat):Int)) (((p:Int))*(29)) (da 35 ((((x2*131)+(x3*1117))+((p*29:Nat):Int))) ((((x2*131)+(x3*1117)))+(((p*29:Nat):Int))) (ZH 5 10 [36,37,38,39,40] [0] (dw 41 (KZ bs) (dx 42 (Ce p bs.length om om) (da 43 ((((p / bs.length:Nat):Int)*53)) ((((p / bs.length:Nat):Int))*(53)) (da 44 (((((x2*131)+(x3*1117))+((p*29:Nat):Int))+(((p / bs.length:Nat):Int)*53))) (((((x2*131)+(x3*1117))+((p*29:Nat):Int)))+((((p / bs.length:Nat):Int)*53))) (Zl 0 1 [45] (de (Y6 2 (Zo (L5 ((((x2*131)+(x3*1117))+((p*29:Nat):Int))+(((p / bs.length:Nat):Int)*53)) 64 om om) (Zo (Po ((((x2*131)+(x3*1117))+((p*29:Nat):Int))+(((p / bs.length:Nat):Int)*53)) (((((x2*131)+(x3*1117))+((p*29:Nat):Int))+(((p / bs.length:Nat):Int)*53)) / 64)) (Z0 (Y6 2 (Zo (Eh (AS ((((x2*131)+(x3*1117))+((p*29:Nat):Int))+(((p / bs.length:Nat):Int)*53)) (((((x2*131)+(x3*1117))+((p*29:Nat):Int))+(((p / bs.length:Nat):Int)*53)) / 64)) mx om (Hm ⟨by omega,by omega⟩ ⟨by omega,by omega⟩).1) (Zq (r1 [0] ⟨((AS ((((x2*131)+(x3*1117))+((p*29:Nat):Int))+(((p / bs.length:Nat):Int)*53)) (((((x2*131)+(x3*1117))+((p*29:Nat):Int))+(((p / bs.length:Nat):Int)*53)) / 64)) % mx),rfl,rfl,⟨Pk.rem (Hm ⟨by omega,by omega⟩ ⟨by omega,by omega⟩).1 om,by rw [AK,Z8 om,Z8 om,hy2,hy3];rfl⟩⟩))))))))))))))))))))))
theorem Z83 (rd:Nat) (bs:LI) (p:Nat) (mx:Nat) (ZL:∀z∈bs,0<=z/\z<=255) (hp:p+1<=1000000000:=by exact ob) (hmx:0<mx:=by exact ob):Zi 79 [.p rd 0,.i mx] [Yz rd bs p] (fun r h=>∃(kn:Nat),r=.i kn/\h=[.obj rd [Up bs,.i (p+1:Nat)]]/\kn<mx/\kn=(AK bs p mx).toNat):=(Z82 rd bs p mx ZL hp).mono fun r h ⟨z,hr,hh,hz,he⟩=>by
  have h0:=hz.lt om
  exact ⟨z.toNat,by rw [hr,Int.toNat_of_nonneg h0.1],hh,by omega,by rw [he]⟩
theorem Z4b (s:Z5) (hz:s.sz<=1000000000):Zi 139 [YD s] [] (fun r h=>∃(v:Hd),r=.agg [.i s.op,.i s.num,.i s.into,Z4 s.args,.h v]/\h=[rK v 2 (Zf (YI s.kids))]):=by
 have hkz:=TF s
 have haz:=Qh s
 refine ZG 33 Tryz.func139 (ar (iA (Xv s) fun b1=>iA [.i 0,.i 0,.i 0,nl,nl] fun b2=>ie (ar (Bk 2 fun g1=>?_))))
 refine Z0 (Yg (ab 0 (Y3 (fun fz gz m F h=>∃(k:Nat) (v:Hd),(k<=s.kids.length)/\F=sF [1,2] fz [(3,.h v),(4,.i k)]/\h=[Zd gz 1,Zd gz 2,rK v 2 (Zf (YI (s.kids.take k)))]/\m=s.kids.length-k) _ _ _ ⟨0,(⟨some ⟨g1,0,none⟩,0,0⟩:Hd),ob,rfl,rfl,rfl⟩ (wk [1,1,0] (fr (Yb fl)) (e:=(rc (rc (rr (ls:=[]) ob rz))))) ?_)))
 rintro m F h ⟨k,v,Ye,rfl,rfl,rfl⟩
 refine Yk 3 [1] (iw (Uk s.kids) (Y5 ((k:Int)<(s.kids.length:Int)) (fun Za=>?_) (fun Za=>?_)))
 ·refine ak (aq (ab 1 (az (ZM 4 [1] ?_))))
  obtain ⟨x1,Z3⟩:=Zs s.kids k om
  have hks:=TE Z3
  exact Zo (Zj none (k:Int) 2 (UT Z3)) (Z1 1 (Zx [] (H0 x1) (iL [ZW x1] 1 2 fun v1=>ZU 0 [(20,.sl [ZW x1] none)] (G4 3 k v 2 (Zf (YI (s.kids.take k))) [ZW x1] none (by rw [E1,WM,VO om]) (Q8 rfl) rfl (List.cons_ne_nil _ _) (by simp<;>omega) fun v2=>Z0 (az (Z1 1 (ZJ k (Z0 (ZK ⟨k+1,v2,ob,rfl,rfl,rfl⟩ (wk [2,2,0] (fr (ZO k fl)) (e:=(rc (rc (rr (ls:=Zf (YI (s.kids.take k))++Zf [ZW x1]) (Z67 Z3) rz))))))))))))))
 refine ax 0 (aD 12 (ZH 3 12 [0,1,2,3,4,5,6,7,9] [1,1,1,1] (Z9 8 (dc 8 [] [1,1,1] [b1,b1,b1] (UB s.args) ?_))))
 rintro _ _ ⟨v3,rfl,rfl⟩
 exact Zl 1 2 [10] (Z9 11 (YK 11 1 [] [] b2 [.i s.op,.i s.num,.i s.into,ZQ s.args v3,.h v] (de (ZD (r3 [3] [.agg [.i s.op,.i s.num,.i s.into,ZQ s.args v3,.h v]] [0] [(b2,b2)] ⟨v,rfl,rfl⟩ (Zc.agg (.cons (lr _) (.cons (lr _) (.cons (lr _) (.cons (Zc.forget _ _) (.cons (lr _) .nil)))))) (eq:=(rr (ls:=Zf (YI (s.kids.take k))) (by rw [Ve om]) rz)))))))
theorem Z4a (s:Z5) (fl:Bool) (hz:s.sz<=1000000000:=by exact ob):Zi 139 [YD s] [] (fun r h=>(∃(v:Hd),r=.agg [.i s.op,.i s.num,.i s.into,Z4 s.args,.h v]/\h=[rK v 2 (Zf (YI s.kids))]/\fl=true)∨(r=YD s/\h=[]/\fl=false)):=by
 cases fl with
 | true=>exact (Z4b s hz).mono fun r h ⟨v,hr,hh⟩=>.inl ⟨v,hr,hh,rfl⟩
 | false=>exact (SO s hz).mono fun r h ⟨hr,hh⟩=>.inr ⟨hr,hh,rfl⟩
theorem Z47 (b:Z6) (kk:Nat) (hz:b.sz<=1000000000:=by exact ob) (hkk:kk<b.steps.length:=by exact ob):Zi 97 [ZW b] [] (fun r h=>∃(v:Hd) (u:Hd),r=.agg [.h v,.i b.result]/\h=[rK v 5 (V3 b kk u.v b.steps.length),rK u 2 (TD b kk b.steps.length)]):=by
 have hbz:=U2 b
 refine ZG 28 Tryz.func97 (ar (iA (Xd b) fun b1=>iA [nl,.i 0] fun b2=>ie (ar (Bk 5 fun g1=>ZM 3 [2] (iA [nl,.i 0] fun b3=>?_)))))
 refine ZC 0 b3 [.ms g1 0 0 0,.i b.result] (ie (X4 (W5 (H8 (k:=2)) (Z0 (ab 0 (Y3 (fun fz gz m F h=>∃(k:Nat) (v:Hd) (u:Hd),(k<=b.steps.length)/\F=sF [1,2,3] fz [(4,.i k)]/\h=[.obj b3 [.h v,.i b.result],Zd gz 3,Zd gz 4,rK v 5 (V3 b kk u.v k),rK u 2 (TD b kk k)]/\m=b.steps.length-k) _ _ _ ⟨0,(⟨some ⟨g1,0,none⟩,0,0⟩:Hd),hN,ob,rfl,rfl,rfl⟩ (wk [1,2,2,1,0] (Yb fl) (e:=(rc (rc (rc (rr (ls:=[]) (by first|exact Pr.symm|exact Pu.symm) (rr (ls:=[]) (by first|exact Pr.symm|exact Pu.symm) rz))))))) ?_))))))
 rintro m F h ⟨k,v,u,Ye,rfl,rfl,rfl⟩
 refine Yk 3 [2] (iw (VZ b.steps) (Y5 ((k:Int)<(b.steps.length:Int)) (fun Za=>?_) (fun Za=>?_)))
 ·refine ak (aq (ab 1 (aE 12 (ZH 7 12 [0,1,2,3,4] [0,2] ?_))))
  obtain ⟨x1,Z3⟩:=Zs b.steps k om
  have hss:=JE Z3
  refine dx 5 (Zj none (k:Int) 5 (WR Z3)) (Zl 5 6 [6] (Z9 7 (dc 7 [] [0] [b3] (Z4a x1 (decide (k=kk))) ?_)))
  rintro _ _ (⟨v1,rfl,rfl,ZY⟩|⟨rfl,rfl,Yi⟩)
  ·have hke:k=kk:=of_decide_eq_true ZY
   exact B8 (Z0p [1,1,1,0,0,0] (h':=[.obj b3 [.h v,.i b.result],.obj b2 [nl,.i 0],.obj b1 (Xd b),rK v1 2 (Zf (YI x1.kids)),rK v 5 (V3 b kk u.v k),rK u 2 (TD b kk k)]) (d:=[]) kr) (Z9 8 (dL 8 [0] [b3] [.agg [.i x1.op,.i x1.num,.i x1.into,Z4 x1.args,.h v1]] 1 5 fun v2=>Yt 3 3 [] [(24,.sl [.agg [.i x1.op,.i x1.num,.i x1.into,Z4 x1.args,.h v1]] none)] (Z9 9 (I1 9 5 k [] [] v 5 (V3 b kk u.v k) [.agg [.i x1.op,.i x1.num,.i x1.into,Z4 x1.args,.h v1]] none (L8 om) (Q8 rfl) rfl (List.cons_ne_nil _ _) (by simp<;>omega) fun v3=>Zl 1 2 [10] (Z9 11 (YK 11 2 [] [] b3 [.h v3,.i b.result] (de (az (Z1 1 (ZJ k (Z0 (ZK ⟨k+1,v3,v1,ob,rfl,rfl,rfl⟩ (wk [0,2,2,0,1] (ZO k fl) (e:=(rc (rc (rc (rr (ls:=V3 b kk u.v k++Zf [.agg [.i x1.op,.i x1.num,.i x1.into,Z4 x1.args,.h v1]]) (by first|(subst hke;exact Pq Z3)|(subst hke;exact Pt Z3)) (rr (ls:=Zf (YI x1.kids)) (by first|(subst hke;exact Pq Z3)|(subst hke;exact Pt Z3)) rz)))))))))))))))))))
  have hke:¬k=kk:=of_decide_eq_false Yi
  exact Z9 8 (dL 8 [0] [b3] [YD x1] 1 5 fun v4=>Yt 3 3 [] [(24,.sl [YD x1] none)] (Z9 9 (I1 9 4 k [] [] v 5 (V3 b kk u.v k) [YD x1] none (L8 om) (Q8 rfl) rfl (List.cons_ne_nil _ _) (by simp<;>omega) fun v5=>Zl 1 2 [10] (Z9 11 (YK 11 2 [] [] b3 [.h v5,.i b.result] (de (az (Z1 1 (ZJ k (Z0 (ZK ⟨k+1,v5,u,ob,rfl,rfl,rfl⟩ (wk [0,2,2,0,1] (ZO k fl) (e:=(rc (rc (rc (rr (ls:=V3 b kk u.v k++Zf [YD x1]) (by first|exact Pp Z3 hke|exact Ps hke) (rr (ls:=TD b kk k) (by first|exact Pp Z3 hke|exact Ps hke) rz))))))))))))))))))
 exact ax 0 (Zw 1 [0] (ZC 1 b2 [.h v,.i b.result] (ie (ZD (r3 [3,3] [.agg [.h v,.i b.result]] [0] [(b2,b2)] ⟨v,u,rfl,rfl⟩ (lr _) (eq:=(rr (ls:=V3 b kk u.v k) (by rw [show k=b.steps.length by omega]) (rr (ls:=TD b kk k) (by rw [show k=b.steps.length by omega]) rz))))))))
theorem Z8b (rd:Nat) (bs:LI) (p:Nat) (b:Z6) (ZL:∀z∈bs,0<=z/\z<=255) (hp:p+(10*b.sz)<=1000000000) (hz:b.sz<=20000000) (hg:b.rgb) (h0:b.steps.length=0):Zi 114 [.p rd 0,ZW b] [Yz rd bs p] (fun r h=>∃(y:Z6) (p2:Nat),r=ZW y/\h=[Yz rd bs p2]/\XG b y/\p<=p2/\p2<=p+(10*b.sz)):=by
 have hbp:=b.sz_pos
 refine ZG 109 Tryz.func114 (ar (iA (Xd b) fun b1=>iA [nl,.i 0] fun b2=>ie (Zw 1 [1] (Zx [] (H0 b) (iA [nl,.i 0] fun b3=>ZC 0 b3 (Xd b) (ie (Yk 2 [0] (iw (VZ b.steps) (Z1 2 (ib (b:=((b.steps.length:Int)==0)) 14 (fun Zb=>?_) (fun Zb=>?_)))))))))))
 ·refine Z0 (Wa (Y6 1 (iL (Z7 [0,1,2,3,-1,99]) 6 1 fun v1=>ZU 0 [(20,Z4 [0,1,2,3,-1,99])] (ic [4] (U0 rd bs p [0,1,2,3,-1,99] (ZL:=ob)) ?_))))
  rintro _ _ ⟨z1,rfl,rfl,Yi⟩
  have hon:=Yi
  simp only [YF,List.not_mem_nil,or_false] at hon
  exact Z1 1 (ZC 2 b3 [WA b.steps,.i z1] (ie (Zw 1 [0] (ZC 3 b2 [WA b.steps,.i z1] (ie (ZD (r3 [2] [.agg [WA b.steps,.i z1]] [0] [(b2,b2)] ⟨(Z6.mk b.steps z1),p+1,rfl,rfl,⟨XG.result hg _,by have:=b.sz_pos;omega,by have:=b.sz_pos;omega⟩⟩ (lr _))))))))
 have YL:¬((b.steps.length:Int)=0):=Yc Zp Zb
 exact absurd (show (b.steps.length:Int)=0 by omega) YL
theorem Z8c (rd:Nat) (bs:LI) (p:Nat) (b:Z6) (ZL:∀z∈bs,0<=z/\z<=255) (hp:p+(10*b.sz)<=1000000000) (hz:b.sz<=20000000) (hg:b.rgb) (h0:0<b.steps.length) (ih:∀(rd:Nat) (bs:LI) (p:Nat) (b2:Z6),(∀z∈bs,0<=z/\z<=255)->(p+(10*b2.sz)<=1000000000)->(b2.sz<=20000000)->(b2.rgb)->(b2.sz<b.sz)->Zi 114 [.p rd 0,ZW b2] [Yz rd bs p] (fun r h=>∃(y:Z6) (p2:Nat),r=ZW y/\h=[Yz rd bs p2]/\XG b2 y/\p<=p2/\p2<=p+(10*b2.sz))):Zi 114 [.p rd 0,ZW b] [Yz rd bs p] (fun r h=>∃(y:Z6) (p2:Nat),r=ZW y/\h=[Yz rd bs p2]/\XG b y/\p<=p2/\p2<=p+(10*b.sz)):=by
 have hbp:=b.sz_pos
 obtain ⟨kk,hkk⟩:∃kk,kk=(AK bs (p+1) (b.steps.length:Int)).toNat:=⟨_,rfl⟩
 have hkl:kk<b.steps.length:=by have:=Zd4 (bs:=bs) (p:=p+1) (mx:=(b.steps.length:Int)) om;omega
 obtain ⟨sk,hsk⟩:=Zs b.steps kk hkl
 have hsb:=JE hsk
 have hsg:=Ze2 hg hsk
 have hst:=U2 b
 refine ZG 109 Tryz.func114 (ar (iA (Xd b) fun b1=>iA [nl,.i 0] fun b2=>ie (Zw 1 [1] (ic [] (Z47 b kk) ?_))))
 rintro _ _ ⟨v1,u1,rfl,rfl⟩
 refine Ee 0 b.steps.length (v:=v1) (L8 (kk:=kk) (u:=u1.v) (X3 b.steps.length)) om (fun g1 c1 he1=>?_)
 subst he1
 refine W5 (Z0p [0,1,1,1,0] (h':=[.row (.slice (some ⟨g1,0,none⟩) b.steps.length c1) 5 (V3 b kk u1.v b.steps.length),.obj b2 [nl,.i 0],.obj b1 (Xd b),Yz rd bs p,rK u1 2 (TD b kk b.steps.length)]) (d:=[]) kr) (iA [nl,.i 0] fun b3=>ZC 0 b3 [.ms g1 0 b.steps.length c1,.i b.result] (ie (Yk 2 [0] (io (.i b.steps.length) (.i b.steps.length) (lr _) (Z1 2 (ib (b:=((b.steps.length:Int)==0)) 14 (fun Zb=>?_) (fun Zb=>?_)))))))
 ·have ZY:(b.steps.length:Int)=0:=(Zp).1 Zb
  exact absurd ZY om
 have Yi:¬((b.steps.length:Int)=0):=Yc Zp Zb
 refine Z1 1 (ic [4] (Wg rd bs p 5 (ZL:=ob)) ?_)
 rintro _ _ ⟨k1,rfl,rfl,YL⟩
 refine YG (k1==0) Zp (fun Za=>?_) (fun Za=>?_)
 ·refine ar (W5 (Mr 5 2 b kk sk u1.v (.slice (some ⟨g1,0,none⟩) b.steps.length c1) hsk) (W5 (TH 0 2 0 (.slice (some ⟨g1,0,none⟩) b.steps.length c1) 5 b3 (Zz b.steps) [.ms g1 0 b.steps.length c1,.i b.result] (Xn _) rfl) (Z1 1 (iL (Z7 [0,1,2,3,-1,99]) 6 1 fun v2=>ZU 0 [(20,Z4 [0,1,2,3,-1,99])] (ic [4] (U0 rd bs (p+1) [0,1,2,3,-1,99] (ZL:=ob)) ?_)))))
  rintro _ _ ⟨z1,rfl,rfl,YP⟩
  have hon:=YP
  simp only [YF,List.not_mem_nil,or_false] at hon
  exact Z1 1 (ZC 2 b3 [YU b.steps (.slice (some ⟨g1,0,none⟩) b.steps.length c1),.i z1] (ie (Zw 1 [0] (ZC 5 b2 [YU b.steps (.slice (some ⟨g1,0,none⟩) b.steps.length c1),.i z1] (ie (ZD (r3 [2] [.agg [YU b.steps (.slice (some ⟨g1,0,none⟩) b.steps.length c1),.i z1]] [0] [(b2,b2)] ⟨(Z6.mk b.steps z1),(p+1)+1,rfl,rfl,(by first|exact ⟨XG.result hg _,by omega,by omega⟩|exact ⟨XG.kid hg hsk hck hyb.1,by omega,by omega⟩|exact ⟨XG.del hg,by omega,by omega⟩|exact ⟨XG.put hg,by omega,by omega⟩|exact ⟨XG.set hg hsk ⟨by have:=hys.1.1;omega,hys.1.2⟩,by omega,by omega⟩)⟩ (Zc.agg (.cons (Zc.forget _ _) (.cons (lr _) .nil))))))))))
 refine ak (Zw 3 [1] (io (.i b.steps.length) (.i b.steps.length) (lr _) (ic [0] (Z83 rd bs (p+1) b.steps.length (ZL:=ob)) ?_)))
 rintro _ _ ⟨YJ,rfl,rfl,Xc⟩
 have hkn:YJ=kk:=by have:=Xc.2;omega
 refine Z0 (Yk 3 [1] (Zo (W8 g1 b.steps.length c1 YJ 5 (YJ:Int)) (Z1 1 (V2 (Vl 2 g1 b.steps.length c1 5 (YJ*5+4) (V3 b kk u1.v b.steps.length) [.h u1] 50 (.h u1) (by rw [hkn];exact Gh hsk)) (Zo (Pm 5 sk.kids.length u1 2 (TD b kk b.steps.length) (by rw [L9 hsk];exact E1 _)) (Z1 2 (ib (b:=(decide ((sk.kids.length:Int)>0))) 37 (fun ZB=>?_) (fun ZB=>?_))))))))
 ·have XT:(sk.kids.length:Int)>0:=(dq).1 ZB
  refine Z1 1 (ic [0] (Wg rd bs ((p+1)+1) 3 (ZL:=ob)) ?_)
  rintro _ _ ⟨k2,rfl,rfl,Wy⟩
  refine Y5 (k2>0) (fun Zh=>?_) (fun Zh=>?_)
  ·refine ar (W5 (Dv 5 u1.v 2 (TD b kk b.steps.length) (Zf (YI sk.kids)) (L9 hsk)) (Ee 0 sk.kids.length (v:=u1) (E1 _) om (fun g2 c2 he2=>?_)))
   subst he2
   refine ZM 4 [2] (Zo (W8 g1 b.steps.length c1 YJ 5 (YJ:Int)) (Z1 1 (V2 (Vl 3 g1 b.steps.length c1 5 (YJ*5+4) (V3 b kk (.slice (some ⟨g2,0,none⟩) sk.kids.length c2) b.steps.length) [.ms g2 0 sk.kids.length c2] 50 (.ms g2 0 sk.kids.length c2) (by rw [hkn];exact Gh hsk)) (io (.i sk.kids.length) (.i sk.kids.length) (lr _) (ic [1] (JZ rd bs (((p+1)+1)+1) sk.kids.length (ZL:=ob)) ?_)))))
   rintro _ _ ⟨X5,rfl,rfl,WW⟩
   obtain ⟨ck,hck⟩:=Zs sk.kids X5 om
   have hckz:=TE hck
   have hckb:=JE hsk
   have hckg:=Ze1 hg hsk hck
   refine Z0 (aD 20 (ZH 17 20 [0,1,2] [2] (dx 3 (W8 g1 b.steps.length c1 YJ 5 (YJ:Int)) (Zl 15 16 [4] (U6 5 (Vl 3 g1 b.steps.length c1 5 (YJ*5+4) (V3 b kk (.slice (some ⟨g2,0,none⟩) sk.kids.length c2) b.steps.length) [.ms g2 0 sk.kids.length c2] 50 (.ms g2 0 sk.kids.length c2) (by rw [hkn];exact Gh hsk)) (ZH 9 14 [6,7,8,9,10] [2] (dx 11 (W8 g1 b.steps.length c1 YJ 5 (YJ:Int)) (Zl 7 8 [12] (U6 13 (Vl 3 g1 b.steps.length c1 5 (YJ*5+4) (V3 b kk (.slice (some ⟨g2,0,none⟩) sk.kids.length c2) b.steps.length) [.ms g2 0 sk.kids.length c2] 50 (.ms g2 0 sk.kids.length c2) (by rw [hkn];exact Gh hsk)) (Zl 5 6 [14] (dx 15 (W8 g2 sk.kids.length c2 X5 2 (X5:Int)) (U6 16 (Vl 1 g2 sk.kids.length c2 2 (X5*2) (Zf (YI sk.kids)) (Xd ck) 34 (ZW ck) (Z66 hck)) (Z9 17 (dc 17 [0] [2,1] [g1,b3] (ih rd bs ((((p+1)+1)+1)+1) ck ob ob ob ob ob) ?_))))))))))))))
   rintro _ _ ⟨y1,p21,rfl,rfl,Vk⟩
   have hyb:=Vk
   exact dx 18 (W8 g2 sk.kids.length c2 X5 2 (X5:Int)) (Z9 19 (An 19 1 [] [] g2 sk.kids.length c2 2 (X5*2) (Xd y1) (Zf (YI sk.kids)) (Zf (YI (sk.kids.set X5 y1))) (by rw [E1];simp only [YS,Xw];omega) (Z68 y1 om) (de (ar (W5 (Z0l 0 2 b kk sk (sk.kids.set X5 y1) (.slice (some ⟨g2,0,none⟩) sk.kids.length c2) (.slice (some ⟨g1,0,none⟩) b.steps.length c1) hsk) (W5 (TH 0 2 0 (.slice (some ⟨g1,0,none⟩) b.steps.length c1) 5 b3 (Zz (b.steps.set kk (Z5.mk sk.op sk.num sk.into sk.args (sk.kids.set X5 y1)))) [.ms g1 0 b.steps.length c1,.i b.result] (Xn _) rfl) (ZM 1 [0] (ZC 4 b2 [YU (b.steps.set kk (Z5.mk sk.op sk.num sk.into sk.args (sk.kids.set X5 y1))) (.slice (some ⟨g1,0,none⟩) b.steps.length c1),.i b.result] (ie (ZD (r3 [4] [.agg [YU (b.steps.set kk (Z5.mk sk.op sk.num sk.into sk.args (sk.kids.set X5 y1))) (.slice (some ⟨g1,0,none⟩) b.steps.length c1),.i b.result]] [0] [(b2,b2)] ⟨(Z6.mk (b.steps.set kk (Z5.mk sk.op sk.num sk.into sk.args (sk.kids.set X5 y1))) b.result),p21,rfl,rfl,(by first|exact ⟨XG.result hg _,by omega,by omega⟩|exact ⟨XG.kid hg hsk hck hyb.1,by omega,by omega⟩|exact ⟨XG.del hg,by omega,by omega⟩|exact ⟨XG.put hg,by omega,by omega⟩|exact ⟨XG.set hg hsk ⟨by have:=hys.1.1;omega,hys.1.2⟩,by omega,by omega⟩)⟩ (Zc.agg (.cons (Zc.forget _ _) (.cons (lr _) .nil))))))))))))))
  refine ak (X4 (W5 (Mr 5 2 b kk sk u1.v (.slice (some ⟨g1,0,none⟩) b.steps.length c1) hsk) (Z1 1 (ic [2] (Wg rd bs (((p+1)+1)+1) 4 (ZL:=ob)) ?_))))
  rintro _ _ ⟨k3,rfl,rfl,UY⟩
  refine ie (ab 0 (ar (YG (k3==0) Zp (fun ZE=>?_) (fun ZE=>?_))))
  ·exact aE 12 (ZH 9 12 [0,1,2] [3] (dx 3 (L4 1 g1 b.steps.length c1 YJ 5 (Zf (Zz b.steps))) (ZH 5 8 [4,5,6] [3] (da 7 (((YJ+1:Nat):Int)) (((YJ:Int))+(1)) (dx 8 (Pj 1 g1 b.steps.length c1 (YJ+1) 5 (Zf (Zz b.steps))) (Z9 9 (NJ 9 1 [] [] g1 b.steps.length c1 YJ (YJ+1) 5 (Zf (Zz b.steps)) (U8 _) (Zl 1 2 [10] (Z9 11 (YK 11 3 [] [] b3 [.ms g1 0 (YJ+(b.steps.length-(YJ+1))) c1,.i b.result] (de (ar (W5 (Dv 1 (.slice (some ⟨g1,0,none⟩) (YJ+(b.steps.length-(YJ+1))) c1) 5 (((Zf (Zz b.steps)).take (YJ*5))++((Zf (Zz b.steps)).drop ((YJ+1)*5))) (Zf (Zz (b.steps.take kk++b.steps.drop (kk+1)))) (by rw [hkn];exact Og hkl)) (W5 (TH 0 0 0 (.slice (some ⟨g1,0,none⟩) (YJ+(b.steps.length-(YJ+1))) c1) 5 b3 (Zz (b.steps.take kk++b.steps.drop (kk+1))) [.ms g1 0 (YJ+(b.steps.length-(YJ+1))) c1,.i b.result] (Xn _) rfl) (ZM 1 [0] (ZC 4 b2 [YU (b.steps.take kk++b.steps.drop (kk+1)) (.slice (some ⟨g1,0,none⟩) (YJ+(b.steps.length-(YJ+1))) c1),.i b.result] (ie (ZD (r3 [3] [.agg [YU (b.steps.take kk++b.steps.drop (kk+1)) (.slice (some ⟨g1,0,none⟩) (YJ+(b.steps.length-(YJ+1))) c1),.i b.result]] [0] [(b2,b2)] ⟨(Z6.mk (b.steps.take kk++b.steps.drop (kk+1)) b.result),(((p+1)+1)+1)+1,rfl,rfl,(by first|exact ⟨XG.result hg _,by omega,by omega⟩|exact ⟨XG.kid hg hsk hck hyb.1,by omega,by omega⟩|exact ⟨XG.del hg,by omega,by omega⟩|exact ⟨XG.put hg,by omega,by omega⟩|exact ⟨XG.set hg hsk ⟨by have:=hys.1.1;omega,hys.1.2⟩,by omega,by omega⟩)⟩ (Zc.agg (.cons (Zc.forget _ _) (.cons (lr _) .nil))))))))))))))))))))))
  refine ar (YG (k3==1) Zp (fun Yf=>?_) (fun Yf=>?_))
  ·refine aD 10 (B8 (TH 1 2 0 (.slice (some ⟨g1,0,none⟩) b.steps.length c1) 5 b3 (Zz b.steps) [.ms g1 0 b.steps.length c1,.i b.result] (Xn _) rfl) (ZH 6 10 [0,1,2,5] [0] (Z9 3 (dL 3 [0] [b3] (Z7 [14,15,15,16,17]) 5 1 fun v3=>Yt 5 5 [] [(102,Z4 [14,15,15,16,17])] (Z9 4 (dc 4 [3] [0] [b3] (U0 rd bs ((((p+1)+1)+1)+1) [14,15,15,16,17] (ZL:=ob)) ?_))))))
   rintro _ _ ⟨z2,rfl,rfl,Te⟩
   have hon:=Te
   simp only [YF,List.not_mem_nil,or_false] at hon
   refine Z9 6 (dc 6 [0] [0] [b3] (Wg rd bs (((((p+1)+1)+1)+1)+1) 4 (ZL:=ob)) ?_)
   rintro _ _ ⟨k4,rfl,rfl,Tf⟩
   exact Z9 7 (Yo 7 [] [1] [b3] (A6 z2 k4) (Yt 2 2 [] [(99,ZW b)] (Z9 8 (Yo 8 [] [] [] (FL b YJ (Zy z2 k4)) (Z9 9 (YK 9 5 [] [] b2 (Xd (Z6.mk (WG b.steps YJ (Zy z2 k4)) b.result)) (de (ZD (r3 [1] [ZW (Z6.mk (WG b.steps YJ (Zy z2 k4)) b.result)] [0] [(b2,b2)] ⟨(Z6.mk (WG b.steps YJ (Zy z2 k4)) b.result),(((((p+1)+1)+1)+1)+1)+1,rfl,rfl,(by first|exact ⟨XG.result hg _,by omega,by omega⟩|exact ⟨XG.kid hg hsk hck hyb.1,by omega,by omega⟩|exact ⟨XG.del hg,by omega,by omega⟩|exact ⟨XG.put hg,by omega,by omega⟩|exact ⟨XG.set hg hsk ⟨by have:=hys.1.1;omega,hys.1.2⟩,by omega,by omega⟩)⟩ (lr _))))))))))
  refine aE 12 (ZH 5 12 [0,1,2,3,4,5,6] [3,3] (dx 7 (W8 g1 b.steps.length c1 YJ 5 (YJ:Int)) (U6 8 (Vl 1 g1 b.steps.length c1 5 (YJ*5) (Zf (Zz b.steps)) (Xv sk) 52 (YD sk) (by rw [hkn];exact Iv hsk)) (Z9 9 (dc 9 [0] [1] [b3] (OF rd bs ((((p+1)+1)+1)+1) sk (ZL:=ob)) ?_)))))
  rintro _ _ ⟨y2,p22,rfl,rfl,QD⟩
  have hys:=QD
  exact dx 10 (W8 g1 b.steps.length c1 YJ 5 (YJ:Int)) (Z9 11 (An 11 1 [] [] g1 b.steps.length c1 5 (YJ*5) (Xv y2) (Zf (Zz b.steps)) (Zf (Zz (b.steps.set kk y2))) (by rw [K0];simp only [YS,Xw];omega) (by rw [hkn];exact FE hsk) (de (ar (W5 (TH 0 2 0 (.slice (some ⟨g1,0,none⟩) b.steps.length c1) 5 b3 (Zz (b.steps.set kk y2)) [.ms g1 0 b.steps.length c1,.i b.result] (Xn _) rfl) (ZM 1 [0] (ZC 4 b2 [YU (b.steps.set kk y2) (.slice (some ⟨g1,0,none⟩) b.steps.length c1),.i b.result] (ie (ZD (r3 [3] [.agg [YU (b.steps.set kk y2) (.slice (some ⟨g1,0,none⟩) b.steps.length c1),.i b.result]] [0] [(b2,b2)] ⟨(Z6.mk (b.steps.set kk y2) b.result),p22,rfl,rfl,(by first|exact ⟨XG.result hg _,by omega,by omega⟩|exact ⟨XG.kid hg hsk hck hyb.1,by omega,by omega⟩|exact ⟨XG.del hg,by omega,by omega⟩|exact ⟨XG.put hg,by omega,by omega⟩|exact ⟨XG.set hg hsk ⟨by have:=hys.1.1;omega,hys.1.2⟩,by omega,by omega⟩)⟩ (Zc.agg (.cons (Zc.forget _ _) (.cons (lr _) .nil)))))))))))))
 have Qo:¬((sk.kids.length:Int)>0):=Yc dq ZB
 refine Z0 (Wj (ak (X4 (W5 (Mr 5 2 b kk sk u1.v (.slice (some ⟨g1,0,none⟩) b.steps.length c1) hsk) (Z1 1 (ic [2] (Wg rd bs ((p+1)+1) 4 (ZL:=ob)) ?_))))))
 rintro _ _ ⟨k5,rfl,rfl,J6⟩
 refine ie (ab 0 (ar (YG (k5==0) Zp (fun Xb=>?_) (fun Xb=>?_))))
 ·exact aE 12 (ZH 9 12 [0,1,2] [3] (dx 3 (L4 1 g1 b.steps.length c1 YJ 5 (Zf (Zz b.steps))) (ZH 5 8 [4,5,6] [3] (da 7 (((YJ+1:Nat):Int)) (((YJ:Int))+(1)) (dx 8 (Pj 1 g1 b.steps.length c1 (YJ+1) 5 (Zf (Zz b.steps))) (Z9 9 (NJ 9 1 [] [] g1 b.steps.length c1 YJ (YJ+1) 5 (Zf (Zz b.steps)) (U8 _) (Zl 1 2 [10] (Z9 11 (YK 11 3 [] [] b3 [.ms g1 0 (YJ+(b.steps.length-(YJ+1))) c1,.i b.result] (de (ar (W5 (Dv 1 (.slice (some ⟨g1,0,none⟩) (YJ+(b.steps.length-(YJ+1))) c1) 5 (((Zf (Zz b.steps)).take (YJ*5))++((Zf (Zz b.steps)).drop ((YJ+1)*5))) (Zf (Zz (b.steps.take kk++b.steps.drop (kk+1)))) (by rw [hkn];exact Og hkl)) (W5 (TH 0 0 0 (.slice (some ⟨g1,0,none⟩) (YJ+(b.steps.length-(YJ+1))) c1) 5 b3 (Zz (b.steps.take kk++b.steps.drop (kk+1))) [.ms g1 0 (YJ+(b.steps.length-(YJ+1))) c1,.i b.result] (Xn _) rfl) (ZM 1 [0] (ZC 4 b2 [YU (b.steps.take kk++b.steps.drop (kk+1)) (.slice (some ⟨g1,0,none⟩) (YJ+(b.steps.length-(YJ+1))) c1),.i b.result] (ie (ZD (r3 [3] [.agg [YU (b.steps.take kk++b.steps.drop (kk+1)) (.slice (some ⟨g1,0,none⟩) (YJ+(b.steps.length-(YJ+1))) c1),.i b.result]] [0] [(b2,b2)] ⟨(Z6.mk (b.steps.take kk++b.steps.drop (kk+1)) b.result),((p+1)+1)+1,rfl,rfl,(by first|exact ⟨XG.result hg _,by omega,by omega⟩|exact ⟨XG.kid hg hsk hck hyb.1,by omega,by omega⟩|exact ⟨XG.del hg,by omega,by omega⟩|exact ⟨XG.put hg,by omega,by omega⟩|exact ⟨XG.set hg hsk ⟨by have:=hys.1.1;omega,hys.1.2⟩,by omega,by omega⟩)⟩ (Zc.agg (.cons (Zc.forget _ _) (.cons (lr _) .nil))))))))))))))))))))))
 refine ar (YG (k5==1) Zp (fun Xg=>?_) (fun Xg=>?_))
 ·refine aD 10 (B8 (TH 1 2 0 (.slice (some ⟨g1,0,none⟩) b.steps.length c1) 5 b3 (Zz b.steps) [.ms g1 0 b.steps.length c1,.i b.result] (Xn _) rfl) (ZH 6 10 [0,1,2,5] [0] (Z9 3 (dL 3 [0] [b3] (Z7 [14,15,15,16,17]) 5 1 fun v4=>Yt 5 5 [] [(102,Z4 [14,15,15,16,17])] (Z9 4 (dc 4 [3] [0] [b3] (U0 rd bs (((p+1)+1)+1) [14,15,15,16,17] (ZL:=ob)) ?_))))))
  rintro _ _ ⟨z3,rfl,rfl,Kz⟩
  have hon:=Kz
  simp only [YF,List.not_mem_nil,or_false] at hon
  refine Z9 6 (dc 6 [0] [0] [b3] (Wg rd bs ((((p+1)+1)+1)+1) 4 (ZL:=ob)) ?_)
  rintro _ _ ⟨k6,rfl,rfl,Bj⟩
  exact Z9 7 (Yo 7 [] [1] [b3] (A6 z3 k6) (Yt 2 2 [] [(99,ZW b)] (Z9 8 (Yo 8 [] [] [] (FL b YJ (Zy z3 k6)) (Z9 9 (YK 9 5 [] [] b2 (Xd (Z6.mk (WG b.steps YJ (Zy z3 k6)) b.result)) (de (ZD (r3 [1] [ZW (Z6.mk (WG b.steps YJ (Zy z3 k6)) b.result)] [0] [(b2,b2)] ⟨(Z6.mk (WG b.steps YJ (Zy z3 k6)) b.result),((((p+1)+1)+1)+1)+1,rfl,rfl,(by first|exact ⟨XG.result hg _,by omega,by omega⟩|exact ⟨XG.kid hg hsk hck hyb.1,by omega,by omega⟩|exact ⟨XG.del hg,by omega,by omega⟩|exact ⟨XG.put hg,by omega,by omega⟩|exact ⟨XG.set hg hsk ⟨by have:=hys.1.1;omega,hys.1.2⟩,by omega,by omega⟩)⟩ (lr _))))))))))
 refine aE 12 (ZH 5 12 [0,1,2,3,4,5,6] [3,3] (dx 7 (W8 g1 b.steps.length c1 YJ 5 (YJ:Int)) (U6 8 (Vl 1 g1 b.steps.length c1 5 (YJ*5) (Zf (Zz b.steps)) (Xv sk) 52 (YD sk) (by rw [hkn];exact Iv hsk)) (Z9 9 (dc 9 [0] [1] [b3] (OF rd bs (((p+1)+1)+1) sk (ZL:=ob)) ?_)))))
 rintro _ _ ⟨y3,p23,rfl,rfl,JC⟩
 have hys:=JC
 exact dx 10 (W8 g1 b.steps.length c1 YJ 5 (YJ:Int)) (Z9 11 (An 11 1 [] [] g1 b.steps.length c1 5 (YJ*5) (Xv y3) (Zf (Zz b.steps)) (Zf (Zz (b.steps.set kk y3))) (by rw [K0];simp only [YS,Xw];omega) (by rw [hkn];exact FE hsk) (de (ar (W5 (TH 0 2 0 (.slice (some ⟨g1,0,none⟩) b.steps.length c1) 5 b3 (Zz (b.steps.set kk y3)) [.ms g1 0 b.steps.length c1,.i b.result] (Xn _) rfl) (ZM 1 [0] (ZC 4 b2 [YU (b.steps.set kk y3) (.slice (some ⟨g1,0,none⟩) b.steps.length c1),.i b.result] (ie (ZD (r3 [3] [.agg [YU (b.steps.set kk y3) (.slice (some ⟨g1,0,none⟩) b.steps.length c1),.i b.result]] [0] [(b2,b2)] ⟨(Z6.mk (b.steps.set kk y3) b.result),p23,rfl,rfl,(by first|exact ⟨XG.result hg _,by omega,by omega⟩|exact ⟨XG.kid hg hsk hck hyb.1,by omega,by omega⟩|exact ⟨XG.del hg,by omega,by omega⟩|exact ⟨XG.put hg,by omega,by omega⟩|exact ⟨XG.set hg hsk ⟨by have:=hys.1.1;omega,hys.1.2⟩,by omega,by omega⟩)⟩ (Zc.agg (.cons (Zc.forget _ _) (.cons (lr _) .nil)))))))))))))
theorem Z8a (rd:Nat) (bs:LI) (p:Nat) (b:Z6) (ZL:∀z∈bs,0<=z/\z<=255) (hp:p+10*b.sz<=1000000000:=by exact ob) (hz:b.sz<=20000000:=by exact ob) (hg:b.rgb:=by exact ob):Zi 114 [.p rd 0,ZW b] [Yz rd bs p] (fun r h=>∃(y:Z6) (p2:Nat),r=ZW y/\h=[Yz rd bs p2]/\XG b y/\p<=p2/\p2<=p+(10*b.sz)):=by
 have key:∀k:Nat,∀(rd:Nat) (bs:LI) (p:Nat) (b2:Z6),(∀z∈bs,0<=z/\z<=255)->(p+(10*b2.sz)<=1000000000)->(b2.sz<=20000000)->(b2.rgb)->(b2.sz<k)->Zi 114 [.p rd 0,ZW b2] [Yz rd bs p] (fun r h=>∃(y:Z6) (p2:Nat),r=ZW y/\h=[Yz rd bs p2]/\XG b2 y/\p<=p2/\p2<=p+(10*b2.sz)):=by
  intro k
  induction k with
  | zero=>intro rd bs p b2 h1 h2 h3 h4 h5;omega
  | succ k ih=>
   intro rd bs p b2 h1 h2 h3 h4 h5
   by_cases h0:b2.steps.length=0
   ·exact Z8b rd bs p b2 h1 h2 h3 h4 h0
   ·exact Z8c rd bs p b2 h1 h2 h3 h4 om fun rd bs p b3 q1 q2 q3 q4 q5=>ih rd bs p b3 q1 q2 q3 q4 om
 exact key (b.sz+1) rd bs p b ZL hp hz hg om
theorem Z8d (rd:Nat) (bs:LI) (p:Nat) (n:Zm) (often:Nat) (q:Nat) (l:Nat) (ZL:∀z∈bs,0<=z/\z<=255) (hp:p+(10*q+20)<=1000000000:=by exact ob) (hzn:ZS n q l:=by exact ob) (hq:q<=9999000:=by exact ob) (hl:l<=100:=by exact ob) (ho:0<often:=by exact ob):Zi 72 [.p rd 0,Yl n,.i often] [Yz rd bs p] (fun r h=>∃(n2:Zm) (p2:Nat),r=Yl n2/\h=[Yz rd bs p2]/\ZS n2 (q+2) (l+1)/\p<=p2/\p2<=p+(10*q+20)):=by
 have hnl:=hzn.len
 refine ZG 64 Tryz.func72 (ar (iA (YR n) fun b1=>iA [nl,nl] fun b2=>ie (YO 2 (ic [2] (JZ rd bs p often (ZL:=ob)) ?_))))
 rintro _ _ ⟨YJ,rfl,rfl,ZY⟩
 refine Y5 ((YJ:Int)>0) (fun Za=>?_) (fun Za=>?_)
 ·exact Zw 1 [2] (ZC 1 b2 (YR n) (ie (ZD (r3 [1] [Yl n] [0] [(b2,b2)] ⟨n,p+1,rfl,rfl,(by first|exact ⟨hzn.le om om,by omega,by omega⟩|exact ⟨hzn.set hx1k om om om om ⟨hz1.2.2.2,hzn.rb _ (ZZ hx1k)⟩,by omega,by omega⟩|exact ⟨(hzn.le om om).ds had.1,by omega,by omega⟩|exact ⟨hzn.set hx2k om om om (by have:=hsb.1.1;omega) hsb.1.2,by omega,by omega⟩)⟩ (lr _)))))
 refine ak (Zw 3 [2] (iw (U7 n.routines) (ic [0] (JZ rd bs (p+1) n.routines.length (ZL:=ob)) ?_)))
 rintro _ _ ⟨X5,rfl,rfl,Yi⟩
 refine Z0 (YO 1 (ic [0] (Wg rd bs ((p+1)+1) 8 (ZL:=ob)) ?_))
 rintro _ _ ⟨k1,rfl,rfl,YL⟩
 refine ie (ab 0 (ar (YG (k1==0) Zp (fun Zh=>?_) (fun Zh=>?_))))
 ·refine aD 11 (ZH 6 11 [0,1,2,3,4] [2,2] ?_)
  obtain ⟨x1,Z3⟩:=Zs n.routines X5 om
  have hx1k:=Z3
  have hz1:=hzn.rt _ (ZZ Z3)
  refine dx 5 (Zj none (X5:Int) 5 (WD Z3)) (Zl 3 5 [6,7] (KY (fun fz gz F h=>∃(g1:Nat) (c1:Nat) (b3:Nat),F=sF [0,6,7] fz [(8,.p b3 0)]/\h=[.obj b3 [ZP n.decls,.ms g1 0 n.routines.length c1],.row (.slice (some ⟨g1,0,none⟩) n.routines.length c1) 5 (Zf (YH (n.routines.set X5 (Y0.mk x1.params x1.lent x1.result x1.body)))),Zd gz 0,Zd gz 1,Zd gz 2]) ?_ ?_))
  ·refine VH 8 9 ?_ ?_
   ·refine dc 8 [] [] [] (IH n X5 x1.body x1 (hr:=Z3)) ?_
    rintro _ _ ⟨g1,c1,rfl,rfl⟩
    exact Z9 9 (dA 9 [] [] [nl,nl] fun b3=>Z9 10 (YK 10 0 [] [] b3 [ZP n.decls,.ms g1 0 n.routines.length c1] (de (ZT ⟨g1,c1,b3,rfl,rfl⟩ (ZI 5 fl)))))
   refine dA 9 [2,2] [b1,b1] [nl,nl] fun b4=>Z9 8 (dc 8 [] [] [] (IH n X5 x1.body x1 (hr:=Z3)) ?_)
   rintro _ _ ⟨g2,c2,rfl,rfl⟩
   exact Z9 10 (YK 10 1 [] [] b4 [ZP n.decls,.ms g2 0 n.routines.length c2] (de (ZT ⟨g2,c2,b4,rfl,rfl⟩ (ZI 5 fl))))
  rintro F h ⟨g1,c1,b3,rfl,rfl⟩
  refine aD 14 (ZH 7 14 [0,1,2,3,4,5,6] [0,0] (dx 7 (W8 g1 n.routines.length c1 X5 5 (X5:Int)) (Zl 5 6 [8] (U6 9 (Vl 1 g1 n.routines.length c1 5 (X5*5+1) (Zf (YH (n.routines.set X5 (Y0.mk x1.params x1.lent x1.result x1.body)))) [Z4 x1.lent] 31 (Z4 x1.lent) (Z6d om _)) (Z9 10 (dc 10 [2] [0] [b3] (Z8e rd bs (((p+1)+1)+1) x1.lent (ZL:=ob)) ?_))))))
  rintro _ _ ⟨zs1,p21,rfl,rfl,YP⟩
  have hsi:=YP
  exact dx 11 (W8 g1 n.routines.length c1 X5 5 (X5:Int)) (Zl 1 2 [12] (Z9 13 (An 13 2 [] [] g1 n.routines.length c1 5 (X5*5+1) [Z4 zs1] (Zf (YH (n.routines.set X5 (Y0.mk x1.params x1.lent x1.result x1.body)))) (Zf (YH (n.routines.set X5 (Y0.mk x1.params zs1 x1.result x1.body)))) (by rw [CS,VN];simp only [YS,Xw];omega) (Z6e om _ _) (de (ar (W5 (TH 0 1 1 (.slice (some ⟨g1,0,none⟩) n.routines.length c1) 5 b3 (YH (n.routines.set X5 (Y0.mk x1.params zs1 x1.result x1.body))) [ZP n.decls,.ms g1 0 n.routines.length c1] (Uv _) rfl) (ZM 1 [0] (ZC 3 b2 [ZP n.decls,Wu (n.routines.set X5 (Y0.mk x1.params zs1 x1.result x1.body)) (.slice (some ⟨g1,0,none⟩) n.routines.length c1)] (ie (ZD (r3 [3] [.agg [ZP n.decls,Wu (n.routines.set X5 (Y0.mk x1.params zs1 x1.result x1.body)) (.slice (some ⟨g1,0,none⟩) n.routines.length c1)]] [0] [(b2,b2)] ⟨(Zm.mk n.decls (n.routines.set X5 (Y0.mk x1.params zs1 x1.result x1.body))),p21,rfl,rfl,(by first|exact ⟨hzn.le om om,by omega,by omega⟩|exact ⟨hzn.set hx1k om om om om ⟨hz1.2.2.2,hzn.rb _ (ZZ hx1k)⟩,by omega,by omega⟩|exact ⟨(hzn.le om om).ds had.1,by omega,by omega⟩|exact ⟨hzn.set hx2k om om om (by have:=hsb.1.1;omega) hsb.1.2,by omega,by omega⟩)⟩ (Zc.agg (.cons (lr _) (.cons (Zc.forget _ _) .nil))))))))))))))
 refine ar (YG (k1==1) Zp (fun ZE=>?_) (fun ZE=>?_))
 ·refine aD 6 (ZH 3 6 [0,2,3] [2] (Z9 1 (dc 1 [0] [1] [b1] (Z6m rd bs (((p+1)+1)+1) (ZL:=ob)) ?_)))
  rintro _ _ ⟨dz1,p22,rfl,rfl,Xc⟩
  have had:=Xc
  exact Zl 1 2 [4] (Z9 5 (YK 5 1 [] [] b2 [ZP dz1,Ka n.routines] (de (ZD (r3 [1] [.agg [ZP dz1,Ka n.routines]] [0] [(b2,b2)] ⟨(Zm.mk dz1 n.routines),p22,rfl,rfl,(by first|exact ⟨hzn.le om om,by omega,by omega⟩|exact ⟨hzn.set hx1k om om om om ⟨hz1.2.2.2,hzn.rb _ (ZZ hx1k)⟩,by omega,by omega⟩|exact ⟨(hzn.le om om).ds had.1,by omega,by omega⟩|exact ⟨hzn.set hx2k om om om (by have:=hsb.1.1;omega) hsb.1.2,by omega,by omega⟩)⟩ (lr _))))))
 refine ak (aD 12 (ZH 6 12 [0,1,2,3,4,5] [2,2] ?_))
 obtain ⟨x2,Zv⟩:=Zs n.routines X5 om
 have hx2k:=Zv
 have hz2:=hzn.rt _ (ZZ Zv)
 refine dx 6 (Zj none (X5:Int) 5 (WD Zv)) (Zl 3 5 [7,8] (Z9 9 (dc 9 [0] [1] [b1] (Z8a rd bs (((p+1)+1)+1) x2.body (ZL:=ob) (hg:=⟨hz2.2.2.2,hzn.rb _ (ZZ hx2k)⟩)) ?_)))
 rintro _ _ ⟨y1,p23,rfl,rfl,XT⟩
 have hsb:=XT
 exact Z9 10 (Yo 10 [] [] [] (OG n X5 y1 x2 (hr:=Zv)) (Z9 11 (YK 11 1 [] [] b2 (YR (withR n X5 x2 y1)) (de (ZD (r3 [1] [Yl (withR n X5 x2 y1)] [0] [(b2,b2)] ⟨(withR n X5 x2 y1),p23,rfl,rfl,(by first|exact ⟨hzn.le om om,by omega,by omega⟩|exact ⟨hzn.set hx1k om om om om ⟨hz1.2.2.2,hzn.rb _ (ZZ hx1k)⟩,by omega,by omega⟩|exact ⟨(hzn.le om om).ds had.1,by omega,by omega⟩|exact ⟨hzn.set hx2k om om om (by have:=hsb.1.1;omega) hsb.1.2,by omega,by omega⟩)⟩ (lr _)))))))
theorem Zg1 (n:Zm) (f:Int) (hz:UP n:=by exact ob) (hV:X7 n=true:=by exact ob) (hf:0<=f/\f<n.routines.length:=by exact ob):Zi 85 [Yl n,.i f] [] (Yj (.b (XH n f))):=by
 obtain ⟨f0,rfl⟩:∃f0:Nat,f=(f0:Int):=⟨f.toNat,by omega⟩
 obtain ⟨rt,hrt⟩:=Zs n.routines f0 om
 have hrm:=ZZ hrt
 obtain ⟨hok,hall⟩:=He hz hV
 rw [Nf hV om (by simpa using hrt)]
 exact Zg2 n f0 rt (hn:=hok) (hr:=hrt) (ht:=hall rt hrm) (hz:=Vu (hz.body rt hrm) om)
theorem Z9j (n:Zm) (f:Int) (hz:UP n:=by exact ob) (hV:X7 n=true:=by exact ob) (hf:0<=f/\f<n.routines.length:=by exact ob) (hr:∀r∈n.routines,r.body.rng):Zi 74 [Yl n,.i f] [] (Yj (.b (XH n f))):=by
 obtain ⟨f0,rfl⟩:∃f0:Nat,f=(f0:Int):=⟨f.toNat,by omega⟩
 obtain ⟨rt,hrt⟩:=Zs n.routines f0 om
 have hrm:=ZZ hrt
 obtain ⟨hok,hall⟩:=He hz hV
 rw [Nf hV om (by simpa using hrt)]
 have hsg:Vb n=true:=by rw [X7,W7] at hV;exact hV.1
 exact Z9k n f0 rt (hn:=hok) (hty:=R3 hsg) (hlt:=Zc3 hsg) (hz:=hz) (hs:=hsg) (hr:=hrt) (ht:=hall rt hrm) (hrr:=hr rt hrm)
theorem SF (n:Zm) (f:Int) (hz:UP n:=by exact ob):Zi 43 [Yl n,.i f] [] (Yj (.b (XH n f))):=by
 have hzl:=hz.len
 refine ZG 20 Tryz.func43 (ar (iA (YR n) fun b1=>Z0 (Zw 1 [0] (Zx [] (SZ n) (XI 10 [1,2] [(14,.b (X7 n&&(decide (0<=f/\f<=((n.routines.length:Int)-1)))))] (fun gz=>gz) ?_ (fun hj1=>?_))))))
 ·refine XI 15 [] [(19,.b ((X7 n&&(decide (0<=f/\f<=((n.routines.length:Int)-1))))&&(XH n f)))] (fun gz=>gz) ?_ (fun hj2=>?_)
  ·exact Zq (Y2 (.b ((X7 n&&(decide (0<=f/\f<=((n.routines.length:Int)-1))))&&(XH n f))) (lb (by cases hb:XH n f with|false=>simp|true=>(obtain ⟨h1,h2,r,h3,_⟩:=Ng hb;have h4:=(Xk.1 h3).1;simp [h1];omega))))
  refine Z1 1 (ib (b:=(X7 n&&(decide (0<=f/\f<=((n.routines.length:Int)-1))))) 15 (fun Zb=>?_) (fun Zb=>?_))
  ·have ZY:(X7 n=true)/\(0<=f/\f<=((n.routines.length:Int)-1)):=((YC Iff.rfl dq)).1 Zb
   exact ZM 2 [0] (Zx [] (Zg1 n f (hV:=(by first|exact ZY.1|exact ZY.1.1))) (Z1 1 (Yq (wk [0] (Zt (XH n f) Zb fl)) hj2)))
  have Yi:¬((X7 n=true)/\(0<=f/\f<=((n.routines.length:Int)-1))):=Yc (YC Iff.rfl dq) Zb
  exact Z1 4 (Yq (wk [0] (Zt false Zb fl)) hj2)
 refine Z1 1 (ib (b:=X7 n) 7 (fun ZB=>?_) (fun ZB=>?_))
 ·have YL:X7 n=true:=(Iff.rfl).1 ZB
  exact ZM 3 [0] (iw (U7 n.routines) (ia (((n.routines.length:Int)-1)) (((n.routines.length:Int))-(1)) (Zx [] (Tj f 0 ((n.routines.length:Int)-1)) (Z1 1 (Yq (wk [0] (Zt (decide (0<=f/\f<=((n.routines.length:Int)-1))) ZB fl)) hj1)))))
 have YP:¬(X7 n=true):=Yc Iff.rfl ZB
 exact Z1 7 (Yq (wk [0] (Zt false ZB fl)) hj1)
theorem OW (n:Zm) (f:Int) (hz:UP n:=by exact ob) (hr:∀r∈n.routines,r.body.rng):Zi 33 [Yl n,.i f] [] (Yj (.b (XH n f))):=by
 have hzl:=hz.len
 refine ZG 23 Tryz.func33 (ar (iA (YR n) fun b1=>Z0 (Zw 1 [0] (Zx [] (IT n (hr:=hr)) (XI 6 [1,2] [(10,.b (X7 n&&(decide (f>=0))))] (fun gz=>gz) ?_ (fun hj1=>?_))))))
 ·refine XI 13 [1,2] [(17,.b ((X7 n&&(decide (f>=0)))&&(decide (f<(n.routines.length:Int)))))] (fun gz=>gz) ?_ (fun hj2=>?_)
  ·refine XI 18 [] [(22,.b (((X7 n&&(decide (f>=0)))&&(decide (f<(n.routines.length:Int))))&&(XH n f)))] (fun gz=>gz) ?_ (fun hj3=>?_)
   ·exact Zq (Y2 (.b (((X7 n&&(decide (f>=0)))&&(decide (f<(n.routines.length:Int))))&&(XH n f))) (lb (by cases hb:XH n f with|false=>simp|true=>(obtain ⟨h1,h2,r,h3,_⟩:=Ng hb;have h4:=(Xk.1 h3).1;simp [h1];omega))))
   refine Z1 1 (ib (b:=((X7 n&&(decide (f>=0)))&&(decide (f<(n.routines.length:Int))))) 18 (fun Zb=>?_) (fun Zb=>?_))
   ·have ZY:((X7 n=true)/\(f>=0))/\(f<(n.routines.length:Int)):=((YC (YC Iff.rfl dq) dq)).1 Zb
    exact ZM 2 [0] (Zx [] (Z9j n f (hV:=(by first|exact ZY.1|exact ZY.1.1)) (hr:=hr)) (Z1 1 (Yq (wk [0] (Zt (XH n f) Zb fl)) hj3)))
   have Yi:¬(((X7 n=true)/\(f>=0))/\(f<(n.routines.length:Int))):=Yc (YC (YC Iff.rfl dq) dq) Zb
   exact Z1 4 (Yq (wk [0] (Zt false Zb fl)) hj3)
  refine Z1 1 (ib (b:=(X7 n&&(decide (f>=0)))) 11 (fun ZB=>?_) (fun ZB=>?_))
  ·have YL:(X7 n=true)/\(f>=0):=((YC Iff.rfl dq)).1 ZB
   exact ZM 3 [0] (iw (U7 n.routines) (Z1 2 (Yq (wk [0] (Zt (decide (f<(n.routines.length:Int))) ZB fl)) hj2)))
  have YP:¬((X7 n=true)/\(f>=0)):=Yc (YC Iff.rfl dq) ZB
  exact Z1 6 (Yq (wk [0] (Zt false ZB fl)) hj2)
 refine Z1 1 (ib (b:=X7 n) 7 (fun Yy=>?_) (fun Yy=>?_))
 ·have Xc:X7 n=true:=(Iff.rfl).1 Yy
  exact Z1 3 (Yq (wk [0] (Zt (decide (f>=0)) Yy fl)) hj1)
 have XT:¬(X7 n=true):=Yc Iff.rfl Yy
 exact Z1 3 (Yq (wk [0] (Zt false Yy fl)) hj1)
open Go.Proofs
open Go.Proofs
open Go.Proofs
open Go.Proofs
theorem Z3h (ds:List Zg) (hl_ds:ds.length<=4294967296:=by exact ob):Zi 136 [ZP ds] [] (fun r h=>∃(v:Hd),r=.h v/\h=[rK v 3 (Zf (YA ds))]):=by
 refine ZG 8 Tryz.func136 (ZF (YO 1 (iN (YA ds) (fun hz1=>?_) ?_)))
 ·have hz1:=Z5f hz1
  refine ie (Wa (ZF (Kr (H8 (k:=3)) ?_)))
  subst hz1
  exact ZD (r2 [0] [nl] ⟨hN,rfl,rfl⟩ (Zc.hd (v:=hN)) (eq:=(rr (ls:=[]) rfl rz)))
 exact ie (Wj (ak (ar (Bk 3 fun g1=>Z1 1 (Ef 0 g1 3 (YA ds) none (Ky _) (by simp<;>omega) fun v1=>Zq (r1 [0] ⟨v1,rfl,rfl⟩))))))
theorem Z3g (cs:List Yh) (hl_cs:cs.length<=4294967296:=by exact ob):Zi 137 [KC cs] [] (fun r h=>∃(v:Hd),r=.h v/\h=[rK v 1 (Zf (XO cs))]):=by
 refine ZG 8 Tryz.func137 (ZF (YO 1 (iN (XO cs) (fun hz1=>?_) ?_)))
 ·have hz1:=Z5c hz1
  refine ie (Wa (ZF (Kr (H8 (k:=1)) ?_)))
  subst hz1
  exact ZD (r2 [0] [nl] ⟨hN,rfl,rfl⟩ (Zc.hd (v:=hN)) (eq:=(rr (ls:=[]) rfl rz)))
 exact ie (Wj (ak (ar (Bk 1 fun g1=>Z1 1 (Ef 0 g1 1 (XO cs) none (DS _) (by simp<;>omega) fun v1=>Zq (r1 [0] ⟨v1,rfl,rfl⟩))))))
theorem Z9n (ds:List Zg) (hd:Ws ds):Zi 91 [ZP ds] [] (fun r h=>∃(ys:List Vq) (w:Value),r=Zc9 ys w/\h=[.many (QC ys),.tail w 3]/\ys.map Vq.er=ds):=by
 have hdl:=hd.len
 refine ZG 46 Tryz.func91 (ZF (Y6 1 (ic [] (Z3h ds) ?_)))
 rintro _ _ ⟨v1,rfl,rfl⟩
 refine Z0 (YO 1 (Zo (Pm 0 ds.length v1 3 (Zf (YA ds)) (by rw [Oc])) (Z0 (ab 0 (Kr (tB [] [] [] (QC []) (by simp [Ec,E7,FV,FW,FY,FZ,FU,K4,K3,Eb,CZ,Qn,QC,AE,E8,E9,Ea,FX])) (Y3 (fun fz gz m F h=>∃(k:Nat) (v:Hd) (ys:List Vq),(k<=ds.length)/\(ys.map Vq.er=ds.take k)/\(ys.length=k)/\F=sF [11] fz [(3,.h v),(10,.h v),(12,.i k)]/\h=[rK v 3 (Zf (Vo ys++YA (ds.drop k))),.many (QC ys)]/\m=ds.length-k) _ _ _ ⟨0,v1,[],ob,rfl,rfl,rfl,rfl,rfl⟩ (wk [1,0] (fw (Yb fl)) (e:=(rr (ls:=Zf (YA ds)) (by rfl) (rc rz)))) ?_))))))
 rintro m F h ⟨k,v,ys,Ye,Zk,Zu,rfl,rfl,rfl⟩
 refine ZF (aq (XW ((k:Int)<(ds.length:Int)) (fun Za=>?_) (fun Za=>?_)))
 ·obtain ⟨x1,Z3⟩:=Zs ds k om
  have hcl:=hd.cons_at Z3
  refine Pi 0 ds.length (v:=v) (S6 Zu Ye) om (fun g1 c1 he1=>?_)
  subst he1
  refine ak (aq (ab 1 (Y6 1 (Zo (W8 g1 ds.length c1 k 3 (k:Int)) (V2 (Vl 0 g1 ds.length c1 3 (k*3) (Zf (Vo ys++YA (ds.drop k))) (TP x1) 106 (Ah x1) (by rw [S7 Z3];exact LX (by rw [C6,Zu]))) (iA [.i 0,.i 0,nl] fun b1=>Z1 1 (ZC 0 b1 (TP x1) (ie (Zw 4 [0] (ic [] (Z3g x1.cons) ?_))))))))))
  rintro _ _ ⟨v2,rfl,rfl⟩
  refine Zo (W8 g1 ds.length c1 k 3 (k:Int)) (Z1 1 (D4 2 g1 ds.length c1 3 (k*3+2) [.h v2] (Zf (Vo ys++YA (ds.drop k))) (Zf (Vo ys)++([.i x1.frm,.i x1.to_,.h v2]++Zf (YA (ds.drop (k+1))))) (by rw [S6 Zu Ye];simp;omega) (by rw [S7 Z3];exact Zeh (by rw [C6,Zu])) (ie (Zw 2 [2] (iw (UU x1.cons) (Z0 (ab 2 (Kr (tB [] [] [] (Qn []) (by simp [Ec,E7,FV,FW,FY,FZ,FU,K4,K3,Eb,CZ,Qn,QC,AE,E8,E9,Ea,FX])) (Y3 (fun fz gz m F h=>∃(j:Nat) (u:Hd) (zs:List Vp),(j<=x1.cons.length)/\(zs.map Vp.er=x1.cons.take j)/\(zs.length=j)/\F=sF [3,4,10,11,12,25,26] fz [(27,.i j)]/\h=[Zd gz 4,rK u 1 (Zf (Ul zs++XO (x1.cons.drop j))),.row (.slice (some ⟨g1,0,none⟩) ds.length c1) 3 (Zf (Vo ys)++([.i x1.frm,.i x1.to_,.h u]++Zf (YA (ds.drop (k+1))))),.many (Qn zs)]/\m=x1.cons.length-j) _ _ _ ⟨0,v2,[],ob,rfl,rfl,rfl,rfl,rfl⟩ (wk [4,2,1,0] (Yb fl) (e:=(rc (rr (ls:=Zf (XO x1.cons)) (by rfl) (rc (rc rz)))))) ?_)))))))))
  rintro m F h ⟨j,u,zs,U3,XY,XJ,rfl,rfl,rfl⟩
  refine ZF (aq (XW ((j:Int)<(x1.cons.length:Int)) (fun Zh=>?_) (fun Zh=>?_)))
  ·obtain ⟨x2,Zv⟩:=Zs x1.cons j om
   have hfl:=hd.fields_at Z3 Zv
   refine Pi 1 x1.cons.length (v:=u) (S5 XJ U3) om (fun g2 c2 he2=>?_)
   subst he2
   refine ak (aq (ab 3 (Y6 1 (Zo (Zj none (j:Int) 1 (C1 Zv)) (Z1 1 (iA [nl] fun b2=>Z1 1 (ZC 0 b2 (Dd x2) (ie (aE 12 (Zl 10 12 [0,1] (dx 2 (W8 g1 ds.length c1 k 3 (k:Int)) (Zl 8 9 [3] (U6 4 (Vl 3 g1 ds.length c1 3 (k*3+2) (Zf (Vo ys)++([.i x1.frm,.i x1.to_,.h ⟨some ⟨g2,0,none⟩,x1.cons.length,c2⟩]++Zf (YA (ds.drop (k+1))))) [.h ⟨some ⟨g2,0,none⟩,x1.cons.length,c2⟩] 104 (.ms g2 0 x1.cons.length c2) (Zei (by rw [C6,Zu]))) (ZH 4 7 [5,6,7] [0] (Z9 8 (dc 8 [] [2] [g1] (DN x2.fields) ?_))))))))))))))))
   rintro _ _ ⟨v3,rfl,rfl⟩
   exact dx 9 (W8 g2 x1.cons.length c2 j 1 (j:Int)) (Zl 1 2 [10] (Z9 11 (An 11 3 [] [] g2 x1.cons.length c2 1 (j*1) [ZQ x2.fields v3] (Zf (Ul zs++XO (x1.cons.drop j))) (Zf (Ul zs)++([ZQ x2.fields v3]++Zf (XO (x1.cons.drop (j+1))))) (by rw [S5 XJ U3];simp;omega) (by rw [Zee Zv];exact EF (by rw [Od,XJ,Qy]) rfl) (B8 (tB [5,1] [.many (Qn zs),.tail v3 1] (Qn zs++((v3,1)::[])) (Qn (zs++[Vp.mk x2.fields v3])) (by simp [Ec,E7,FV,FW,FY,FZ,FU,K4,K3,Eb,CZ,Qn,QC,AE,E8,E9,Ea,FX])) (de (az (ZJ j (Z0 (ZK ⟨j+1,⟨some ⟨g2,0,none⟩,x1.cons.length,c2⟩,(zs++[Vp.mk x2.fields v3]),ob,(by rw [List.map_append,XY,WS Zv];rfl),(by simp [XJ]),rfl,rfl,rfl⟩ (wk [3,1,2,0] (ZO j fl) (e:=(rc (rr (ls:=(Zf (Ul zs)++([ZQ x2.fields v3]++Zf (XO (x1.cons.drop (j+1)))))) Zed (rr (ls:=(Zf (Vo ys)++([.i x1.frm,.i x1.to_,.h ⟨some ⟨g2,0,none⟩,x1.cons.length,c2⟩]++Zf (YA (ds.drop (k+1)))))) ob (rc rz)))))))))))))))
  refine Kr (Dv 1 u.v 1 (Zf (Ul zs++XO (x1.cons.drop j))) (Zf (Ul zs)) (Zec om)) (Kr (Zht 0 1 (k*3+2) u.v (.slice (some ⟨g1,0,none⟩) ds.length c1) 1 3 (Ul zs) (Zf (Vo ys)++([.i x1.frm,.i x1.to_,.h u]++Zf (YA (ds.drop (k+1))))) (NQ _) (by rw [Cu (by rw [C6];omega),C6,Zu];simp)) ?_)
  exact Kr (Dv 0 (.slice (some ⟨g1,0,none⟩) ds.length c1) 3 (List.set ((Zf (Vo ys)++([.i x1.frm,.i x1.to_,.h u]++Zf (YA (ds.drop (k+1))))):List AV) (k*3+2) (Et zs u.v)) (Zf (Vo ys)++([.i x1.frm,.i x1.to_,Et zs u.v]++Zf (YA (ds.drop (k+1))))) (Zej (by rw [C6,Zu]))) (Kr (tB [2,2,1] [.many (QC ys),.many (Qn zs),.tail u.v 1] (QC ys++(Qn zs++((u.v,1)::[]))) (QC (ys++[Vq.mk x1.frm x1.to_ zs u.v])) (by simp [Ec,E7,FV,FW,FY,FZ,FU,K4,K3,Eb,CZ,Qn,QC,AE,E8,E9,Ea,FX])) (ax 2 (az (ZJ k (Z0 (ZK ⟨k+1,(⟨some ⟨g1,0,none⟩,ds.length,c1⟩:Hd),(ys++[Vq.mk x1.frm x1.to_ zs u.v]),ob,(by rw [List.map_append,Zk,WS Z3,Z1f (XY.trans (Ve om))]),(by simp [Zu]),rfl,rfl,rfl⟩ (wk [1,0] (fw (ZO k fl)) (e:=(rr (ls:=(Zf (Vo ys)++([.i x1.frm,.i x1.to_,Et zs u.v]++Zf (YA (ds.drop (k+1)))))) Zeg (rc rz))))))))))
 exact ax 0 (ZF (Kr (Dv 0 v.v 3 (Zf (Vo ys++YA (ds.drop k))) (Zf (Vo ys)) (Zef om)) (Pl 2 0 (v:=v) (Vo ys) (NR _) (ZD (r1 [1,0] ⟨ys,v.v,rfl,rfl,(by rw [Zk,Ve om])⟩)))))
theorem Z9o (ds:List Zg) (hd:Ws ds:=by exact ob):Zi 91 [ZP ds] [] (Yj (ZP ds)):=((Z9n ds hd).alone fun r h ⟨ys,w,e1,_,e3⟩=>by rw [e1,<-e3];exact Zc.els _ (Z5z ys))
theorem Za3 (s:Z5) (ks:List Z6) (hl:s.sz<=1000000000:=by exact ob):Zi 138 [YD s,Xy ks] [] (Yj (.agg [.i s.op,.i s.num,.i s.into,Z4 s.args,Xy ks])):=by
 have hal:=Qh s
 refine ZG 12 Tryz.func138 (ar (iA (Xv s) fun b1=>iA [.i 0,.i 0,.i 0,nl,nl] fun b2=>ie (Zw 2 [1] (ic [] (DN s.args) ?_))))
 rintro _ _ ⟨v1,rfl,rfl⟩
 exact Z1 2 (ZC 2 b1 [.i s.op,.i s.num,.i s.into,ZQ s.args v1,Xy s.kids] (Z1 1 (ZC 0 b1 [.i s.op,.i s.num,.i s.into,ZQ s.args v1,Xy ks] (ie (Zw 1 [0] (ZC 2 b2 [.i s.op,.i s.num,.i s.into,ZQ s.args v1,Xy ks] (ie (ZD (r3 [] [.agg [.i s.op,.i s.num,.i s.into,ZQ s.args v1,Xy ks]] [0] [(b2,b2)] ⟨rfl,rfl⟩ (Zc.agg (.cons (lr _) (.cons (lr _) (.cons (lr _) (.cons (Zc.forget _ _) (.cons (lr _) .nil)))))))))))))))
theorem Z9v (z:Nat) (s:Z5) (hz:s.sz<=z+1:=by exact ob) (hl:s.sz<=1000000000:=by exact ob) (ih:∀(b2:Z6),(b2.sz<=z)->(b2.sz<=1000000000)->Zi 55 [ZW b2] [] (Yj (ZW (XB b2)))):Zi 94 [YD s,.val (.func (.func 55) #[] #[])] [] (Yj (.agg [.i s.op,.i s.num,.i s.into,Z4 s.args,Xy (WY s.kids)])):=by
 have hkz:=TF s
 refine ZG 25 Tryz.func94 (ar (iA (Xv s) fun b1=>iA [.i 0,.i 0,.i 0,nl,nl] fun b2=>?_))
 refine ie (ZF (Yk 2 [1] (iw (Uk s.kids) (Z0 (ab 0 (Kq 2 (Y3 (fun fz gz m F h=>∃(k:Nat) (ks:List Z6) (u:Value),(k<=s.kids.length)/\(ks.length=k)/\(ks++WY (s.kids.drop k)=WY s.kids)/\F=sF [1,2,4,9,10] fz [(5,Th ks u),(11,.i k)]/\h=[Zd gz 1,Zd gz 2,.tail u 2]/\m=s.kids.length-k) _ _ _ ⟨0,[],(.slice none 0 0),ob,ob,ob,rfl,rfl,rfl⟩ (wk [1,1,0] (fc (x:=nl) (Zc.slh _ (by first|rfl|(subst_vars;rfl))) (Yb fl))) ?_)))))))
 rintro m F h ⟨k,ks,u,Ye,Zk,Zu,rfl,rfl,rfl⟩
 refine ZF (aq (XW ((k:Int)<(s.kids.length:Int)) (fun Za=>?_) (fun Za=>?_)))
 ·refine ak (aq (ab 1 (ar ?_)))
  obtain ⟨x1,Z3⟩:=Zs s.kids k om
  have hks:=TE Z3
  exact Zo (Zj none (k:Int) 2 (UT Z3)) (Z1 1 (iA [nl,.i 0] fun b3=>ZC 0 b3 (Xd x1) (ie (az (ZM 3 [0] (Zx [] (ih x1 ob ob) (iL [ZW (XB x1)] 1 2 fun v1=>ZU 0 [(19,.sl [ZW (XB x1)] none)] (ip 4 (YI (ks++[XB x1])) (YI ks) [ZW (XB x1)] u none 2 (TX _) (Q8 rfl) rfl (by simp<;>omega) (by simp [JV,Tb]) fun v2=>Z0 (az (ZJ k (Z0 (ZK ⟨k+1,(ks++[XB x1]),v2,ob,(by rw [Yr,Zk];rfl),(Zdm Z3 Zu),rfl,rfl,rfl⟩ (wk [3,3,0] (fr (ZO k fl)))))))))))))))
 exact ax 0 (ar (Qt 2 [(23,Xy ks)] [1] (Zx [] (Za3 s ks) (ZC 0 b2 [.i s.op,.i s.num,.i s.into,Z4 s.args,Xy ks] (ie (ZD (r3 [] [.agg [.i s.op,.i s.num,.i s.into,Z4 s.args,Xy ks]] [0] [(b2,b2)] ⟨rfl,rfl⟩ (Zc.agg (.cons (lr _) (.cons (lr _) (.cons (lr _) (.cons (lr _) (.cons (Zc.sl _ (Yn YI (Zdl om Zu))) .nil)))))))))))))
theorem Z9x (z:Nat) (b:Z6) (hz:b.sz<=z+1:=by exact ob) (hl:b.sz<=1000000000:=by exact ob) (ih:∀(b2:Z6),(b2.sz<=z)->(b2.sz<=1000000000)->Zi 55 [ZW b2] [] (Yj (ZW (XB b2)))):Zi 55 [ZW b] [] (Yj (ZW (XB b))):=by
 have hbz:=U2 b
 refine ZG 31 Tryz.func55 (ar (iA (Xd b) fun b1=>iA [nl,.i 0] fun b2=>ie (Zw 3 [1] (iA [nl,.i 0] fun b3=>?_))))
 refine ZC 0 b3 [nl,.i b.result] (ie (Yk 2 [2] (iw (VZ b.steps) (Z0 (ab 0 (Kq 5 (Y3 (fun fz gz m F h=>∃(k:Nat) (xs:List Z5) (v:Value),(k<=b.steps.length)/\(xs.length<=k)/\(xs++U1 (b.steps.drop k)=U1 b.steps)/\F=sF [2,3,10,11] fz [(12,.i k)]/\h=[.obj b3 [YU xs v,.i b.result],Zd gz 2,.tail v 5]/\m=b.steps.length-k) _ _ _ ⟨0,[],(.slice none 0 0),ob,ob,ob,rfl,rfl,rfl⟩ (wk [1,1,0] (Yb fl)) ?_)))))))
 rintro m F h ⟨k,xs,v,Ye,Zk,Zu,rfl,rfl,rfl⟩
 refine ZF (aq (XW ((k:Int)<(b.steps.length:Int)) (fun Za=>?_) (fun Za=>?_)))
 ·refine ak (aq (ab 1 (ar ?_)))
  obtain ⟨x1,Z3⟩:=Zs b.steps k om
  have Xo:=JE Z3
  refine Zo (Zj none (k:Int) 5 (WR Z3)) (Z1 1 (iA [.i 0,.i 0,.i 0,nl,nl] fun b4=>ZC 0 b4 (Xv x1) (ie (Zw 2 [0] (Zx [] (G6 x1.op) (YG (!Yp x1.op) (p:=¬(Yp x1.op=true)) (YE Iff.rfl) (fun Zh=>?_) (fun Zh=>?_)))))))
  ·exact Zw 1 [0] (Zx [] (Z9v z x1 (ih:=ih)) (ZC 0 b4 [.i x1.op,.i x1.num,.i x1.into,Z4 x1.args,Xy (WY x1.kids)] (ie (Y6 1 (ZC 0 b4 [.i x1.op,.i x1.num,.i 0,Z4 x1.args,Xy (WY x1.kids)] (ie (az (ZM 3 [1,0] (iL [YD (Z5.mk x1.op x1.num 0 x1.args (WY x1.kids))] 1 5 fun v1=>ZU 0 [(26,.sl [YD (Z5.mk x1.op x1.num 0 x1.args (WY x1.kids))] none)] (ip 4 (Zz (xs++[Z5.mk x1.op x1.num 0 x1.args (WY x1.kids)])) (Zz xs) [YD (Z5.mk x1.op x1.num 0 x1.args (WY x1.kids))] v none 5 (Xn _) (Q8 rfl) rfl (by simp<;>omega) (by simp [WV,Vx]) fun v2=>Z1 1 (ZC 3 b3 [YU (xs++[Z5.mk x1.op x1.num 0 x1.args (WY x1.kids)]) v2,.i b.result] (ie (az (ZJ k (Z0 (ZK ⟨k+1,(xs++[Z5.mk x1.op x1.num 0 x1.args (WY x1.kids)]),v2,ob,(by simp;omega),(Zdj Z3 Zh Zu),rfl,rfl,rfl⟩ (wk [0,3,0] (ZO k fl))))))))))))))))))
  exact ak (az (ZJ k (Z0 (ZK ⟨k+1,xs,v,ob,ob,(Zdk Z3 (V6.1 Zh) Zu),rfl,rfl,rfl⟩ (wk [1,1,1] (ZO k fl))))))
 exact ax 0 (Zw 1 [0] (ZC 1 b2 [YU xs v,.i b.result] (ie (ZD (r3 [] [.agg [YU xs v,.i b.result]] [0] [(b2,b2)] ⟨rfl,rfl⟩ (Zc.agg (.cons (Zc.sl _ (Yn Zz (by rw [Zde];exact Zdi om Zu))) (.cons (li (by rw [Zdd])) .nil))))))))
theorem Z9y (m:Nat):∀(b2:Z6),(b2.sz<=m)->(b2.sz<=1000000000)->Zi 55 [ZW b2] [] (Yj (ZW (XB b2))):=by
 induction m with
 | zero=>intro b h;have:=b.sz_pos;omega
 | succ m ih=>intro b h1 h2;exact Z9x m b h1 h2 ih
theorem Z9z (b:Z6) (hl:b.sz<=1000000000:=by exact ob):Zi 55 [ZW b] [] (Yj (ZW (XB b))):=Z9y b.sz b (X3 _) hl
theorem Z9e (rt:Y0) (b:Z6) (hl:b.sz<=1000000000:=by exact ob):Zi 86 [QS rt,ZW b] [] (Yj (ZW (XB b))):=by
 exact ZG 7 Tryz.func86 (ar (iA (QF rt) fun b1=>iA (Xd b) fun b2=>iA [nl,.i 0] fun b3=>ie (Zw 1 [1] (Zx [] (Z9z b) (ZC 0 b3 (Xd (XB b)) (ie (ZD (r3 [] [ZW (XB b)] [0] [(b3,b3)] ⟨rfl,rfl⟩ (lr _)))))))))
theorem Z9u (n:Zm) (hn:X1 n:=by exact ob) (hz:UP n:=by exact ob):Zi 53 [Yl n,.val (.func (.func 86) #[] #[])] [] (Yj (Yl (TS n))):=by
 have hzl:=hz.len
 refine ZG 40 Tryz.func53 (ar (iA (YR n) fun b1=>iA [nl,nl] fun b2=>ie (Zw 2 [1] (Zx [] (Z9o n.decls (hd:=hn.decls)) (Z1 1 (iA [nl,nl] fun b3=>?_))))))
 refine ZC 0 b3 [ZP n.decls,nl] (ie (Yk 2 [2] (iw (U7 n.routines) (Z0 (ab 0 (Kq 5 (Y3 (fun fz gz m F h=>∃(k:Nat) (xs:List Y0) (v:Value),(k<=n.routines.length)/\(xs=(n.routines.take k).map By)/\(xs.length=k)/\F=sF [1,4,5,13,14] fz [(15,.i k)]/\h=[.obj b3 [ZP n.decls,Wu xs v],Zd gz 2,.tail v 5]/\m=n.routines.length-k) _ _ _ ⟨0,[],(.slice none 0 0),ob,rfl,ob,rfl,rfl,rfl⟩ (wk [1,1,0] (Yb fl)) ?_)))))))
 rintro m F h ⟨k,xs,v,Ye,Zk,Zu,rfl,rfl,rfl⟩
 refine ZF (aq (XW ((k:Int)<(n.routines.length:Int)) (fun Za=>?_) (fun Za=>?_)))
 ·refine ak (aq (ab 1 (ar ?_)))
  obtain ⟨x1,Z3⟩:=Zs n.routines k om
  have hrm:=ZZ Z3
  have hbz:=hz.body _ hrm
  have hpl:=hz.params _ hrm
  have hll:=hz.lent _ hrm
  refine Zo (Zj none (k:Int) 5 (WD Z3)) (Z1 1 (iA [nl,nl,.i 0,nl,.i 0] fun b4=>ZC 0 b4 (QF x1) (ie (aE 20 (ZH 8 20 [0,1,2,3,5,6,8,9,10,11,12,13] [1,0,0,0,0,0] (Z9 4 (dc 4 [] [0,0,0,0,1] [b4,b4,b4,b4,b3] (DN x1.params) ?_)))))))
  rintro _ _ ⟨v1,rfl,rfl⟩
  refine Z9 7 (dc 7 [] [0,0,0,1] [b4,b4,b4,b3] (DN x1.lent) ?_)
  rintro _ _ ⟨v2,rfl,rfl⟩
  exact Z9 14 (Yo 14 [] [0,1] [b4,b3] (Z9e x1 x1.body) (Yt 4 5 [15] [(34,.agg [Z4 x1.params,Z4 x1.lent,.i x1.result,WA ((XB x1.body).steps),.i ((XB x1.body).result)])] (Z9 16 (dL 16 [1] [b3] (YH [Y0.mk x1.params x1.lent x1.result (Z6.mk ((XB x1.body).steps) ((XB x1.body).result))]) 1 5 fun v3=>Yt 3 3 [] [(35,Ka [Y0.mk x1.params x1.lent x1.result (Z6.mk ((XB x1.body).steps) ((XB x1.body).result))])] (Z9 17 (dp 17 6 [] [] (YH (xs++[Y0.mk x1.params x1.lent x1.result (Z6.mk ((XB x1.body).steps) ((XB x1.body).result))])) (YH xs) (YH [Y0.mk x1.params x1.lent x1.result (Z6.mk ((XB x1.body).steps) ((XB x1.body).result))]) v none 5 (Uv _) (Uv _) (Ar _) (by simp<;>omega) (by simp [Bc,YH]) fun v4=>Zl 1 2 [18] (Z9 19 (YK 19 5 [] [] b3 [ZP n.decls,Wu (xs++[Y0.mk x1.params x1.lent x1.result (Z6.mk ((XB x1.body).steps) ((XB x1.body).result))]) v4] (de (az (ZJ k (Z0 (ZK ⟨k+1,(xs++[Y0.mk x1.params x1.lent x1.result (Z6.mk ((XB x1.body).steps) ((XB x1.body).result))]),v4,ob,(by rw [show Z6.mk (XB x1.body).steps (XB x1.body).result=XB x1.body by cases XB x1.body;rfl,Zk,WS Z3,List.map_append];rfl),(by rw [Yr,Zu];rfl),rfl,rfl,rfl⟩ (wk [0,5,0] (ZO k fl)))))))))))))))
 exact ax 0 (Zw 1 [0] (ZC 1 b2 [ZP n.decls,Wu xs v] (ie (ZD (r3 [] [.agg [ZP n.decls,Wu xs v]] [0] [(b2,b2)] ⟨rfl,rfl⟩ (Zc.agg (.cons (Zc.sl _ (Yn YA (by rfl))) (.cons (Zc.sl _ (Yn YH (by rw [Zk,Ve om];rfl))) .nil))))))))
theorem Z9d (n:Zm) (hz:UP n:=by exact ob) (hr:∀r∈n.routines,r.body.rng):Zi 44 [Yl n] [] (Yj (.tup [Yl (Cj n),.b (X7 n)])):=by
 refine ZG 10 Tryz.func44 (ar (iA (YR n) fun b1=>iA [nl,nl] fun b2=>Z0 (Yk 1 [1] (Zx [] (IT n (hr:=hr)) (YG (!X7 n) (p:=¬(X7 n=true)) (YE Iff.rfl) (fun Za=>?_) (fun Za=>?_))))))
 ·exact Y6 1 (ZC 0 b2 [nl,nl] (Zq (r3 [] [.agg [nl,nl],.b false] [0] [(b2,b2)] ⟨rfl,rfl⟩ (Zc.tup (.cons (Zc.agg (.cons (Zc.sl _ (by rw [Rx Za];rfl)) (.cons (Zc.sl _ (by rw [Rx Za];rfl)) .nil))) (.cons (lb (KM.2 Za).symm) .nil))))))
 have hV:X7 n=true:=V6.1 Za
 obtain ⟨hn,hvt⟩:=He hz hV
 exact ak (Zw 1 [1] (Zx [] (Z9u n) (ZC 0 b2 (YR (TS n)) (Zq (r3 [] [Yl (TS n),.b true] [0] [(b2,b2)] ⟨rfl,rfl⟩ (Zc.tup (.cons (Zc.agg (.cons (Zc.sl _ (Yn YA (by rw [Gz (V6.1 Za)]))) (.cons (Zc.sl _ (Yn YH (by rw [Gz (V6.1 Za)]))) .nil))) (.cons (lb (V6.1 Za).symm) .nil))))))))
theorem Zb5 (n:Zm) (f0:Nat) (b:Z6) (rt:Y0) (hr:n.routines[f0]? = some rt) (hl:n.routines.length<=1000000) (hp:rt.params.length<=4294967296) (hl2:rt.lent.length<=4294967296):Zi 45 [Yl n,.i f0,ZW b] [] (fun r h=>∃(g:Nat) (c:Nat),r=.agg [ZP n.decls,.ms g 0 n.routines.length c]/\h=[.row (.slice (some ⟨g,0,none⟩) n.routines.length c) 5 (Zf (YH (n.routines.set f0 (Y0.mk rt.params rt.lent rt.result b))))]):=by
 have hfl:=(Xk.1 hr).1
 refine ZG 39 Tryz.func45 (ar (iA (YR n) fun b1=>iA (Xd b) fun b2=>iA [nl,nl] fun b3=>ie (ar (Bk 5 fun g1=>ZM 2 [3] (Ef 0 g1 5 (YH n.routines) none (Uv _) (by simp<;>omega) fun v1=>Ee 0 n.routines.length (v:=v1) (CS _) om (fun g2 c1 he1=>?_))))))
 subst he1
 exact Z0 (aD 24 (ZH 19 24 [0,1,2,3,4] [3] (dx 5 (Zj none (f0:Int) 5 (WD hr)) (ZH 13 18 [6,7,8,9,10] [3] (dx 11 (Zj none (f0:Int) 5 (WD hr)) (ZH 7 12 [12,13,14,15,16] [3] (dx 17 (Zj none (f0:Int) 5 (WD hr)) (ZH 2 6 [18,19,20,21] [2] (dx 22 (W8 g2 n.routines.length c1 f0 5 (f0:Int)) (Z9 23 (An 23 0 [] [] g2 n.routines.length c1 5 (f0*5) [Z4 rt.params,Z4 rt.lent,.i rt.result,WA b.steps,.i b.result] (Zf (YH n.routines)) (Zf (YH (n.routines.set f0 (Y0.mk rt.params rt.lent rt.result b)))) (by rw [CS];simp only [YS,Xw];omega) (Oe (Y0.mk rt.params rt.lent rt.result b) hfl) (de (Zw 4 [3] (ZC 1 b3 [ZP n.decls,.ms g2 0 n.routines.length c1] (ie (ZD (r3 [1] [.agg [ZP n.decls,.ms g2 0 n.routines.length c1]] [0] [(b3,b3)] ⟨g2,c1,rfl,rfl⟩ (lr _))))))))))))))))))
theorem Zb4 (n:Zm) (f0:Nat) (b:Z6) (rt:Y0) (hr:n.routines[f0]? = some rt:=by exact ob) (hl:n.routines.length<=1000000:=by exact ob) (hp:rt.params.length<=4294967296:=by exact ob) (hl2:rt.lent.length<=4294967296:=by exact ob):Zi 45 [Yl n,.i f0,ZW b] [] (Yj (Yl (withR n f0 rt b))):=(Wv.frzN (ds:=n.decls) (rs:=(n.routines.set f0 (Y0.mk rt.params rt.lent rt.result b))) (hs:=[]) ((Zb5 n f0 b rt hr hl hp hl2).mono fun r h ⟨g,c,e1,e2⟩=>⟨g,c,by rw [e1];simp only [VN],by rw [e2];simp only [VN]⟩))
theorem Z6l (code:LI) (hcl:code.length<=1048576:=by exact ob) (hcb:∀z∈code,0<=z/\z<=255):Zi 42 [Up code] [] (fun r h=>∃(n2:Zm) (zf:Int),r=.tup [Yl n2,.i zf]/\h=[]/\ZS n2 7330632 11/\-1<=zf/\zf<=1000000000):=by
 refine ZG 21 Tryz.func42 (ar (iA [nl,nl] fun b1=>Z0 (Y6 1 (ic [] (Z7u code (hc:=hcb)) ?_))))
 rintro _ _ ⟨rd1,bs1,rfl,rfl,ZY⟩
 have hnr:=ZY
 refine Z0 (Y6 2 (ic [0] (Z6o rd1 bs1 0 (ZL:=hnr)) ?_))
 rintro _ _ ⟨n1,p21,rfl,rfl,Yi⟩
 have hbf:=Yi.1.zs
 refine ic [0] (Z8d rd1 bs1 p21 n1 3 7330630 10 (ZL:=hnr) (hzn:=hbf)) ?_
 rintro _ _ ⟨n21,p22,rfl,rfl,YL⟩
 have hsf:=YL
 have hal:=hsf.1.len
 refine iA [nl,nl] fun b2=>ZC 0 b2 (YR n21) (ie (aD 11 (ZH 6 11 [0,1,2,3,4] [0,0] (dw 5 (U7 n21.routines) (Z9 6 (dc 6 [1] [0] [b2] (Wg rd1 bs1 p22 (n21.routines.length:Int) (ZL:=hnr)) ?_))))))
 rintro _ _ ⟨k1,rfl,rfl,YP⟩
 have hk:=YP.lt om
 refine Z9 7 (dL 7 [1] [b2] (Z7 [k1,0,1,-1,4]) 5 1 fun v1=>Yt 3 3 [] [(19,Z4 [k1,0,1,-1,4])] (Z9 8 (dc 8 [1] [0] [b2] (U0 rd1 bs1 (p22+1) [k1,0,1,-1,4] (ZL:=hnr)) ?_)))
 rintro _ _ ⟨z1,rfl,rfl,Xc⟩
 have hon:=Xc
 simp only [YF,List.not_mem_nil,or_false] at hon
 exact Z9 9 (YK 9 3 [] [] b1 (YR n21) (Zl 0 1 [10] (de (ZD (r3 [] [Yl n21,.i z1] [0] [(b1,b1)] ⟨n21,z1,rfl,rfl,⟨hsf.1,by omega,by omega⟩⟩ (lr _))))))
theorem Zb6 (code:LI) (hcb:∀z∈code,0<=z/\z<=255):Zi 13 [Up code] [] (Yj (.b true)):=by
 refine ZG 78 Tryz.func13 (ZF (YO 1 (iw (KZ code) (Y5 ((code.length:Int)>1048576) (fun Za=>?_) (fun Za=>?_)))))
 ·exact ar (Zq (EQ))
 have hcl:code.length<=1048576:=by omega
 refine ak (Y6 1 (ic [] (Z6l code (hcl:=hcl) (hcb:=hcb)) ?_))
 rintro _ _ ⟨n21,zf1,rfl,rfl,ZY⟩
 obtain ⟨hzs,hf1,hf2⟩:=ZY
 have hzn:=hzs.sz om om
 have hln:=hzs.len
 refine Z1 3 (iA [nl,nl] fun b1=>ZC 0 b1 (YR n21) (Z0 (Zw 2 [0] (Zx [] (OW n21 zf1 (hz:=(by first|exact hzn|exact Z18 hzn hrt hxb)) (hr:=(by first|exact fun r hr=>(hzs.rt r hr).2.2.2|exact Z17 hRR hrt hxb))) (Z0 (Yk 3 [0] (Zx [] (SF n21 zf1) (Zo (Pf (XH n21 zf1) (XH n21 zf1)) (XI 10 [3,4,5] [(29,.b (((XH n21 zf1) != (XH n21 zf1))||(!X7 n21)))] (fun gz=>gz) ?_ (fun hj1=>?_))))))))))
 ·refine XI 14 [3,4,5] [(33,.b ((((XH n21 zf1) != (XH n21 zf1))||(!X7 n21))||(decide (zf1<0))))] (fun gz=>gz) ?_ (fun hj2=>?_)
  ·refine Xr [3,4,5] [(40,.b (((((XH n21 zf1) != (XH n21 zf1))||(!X7 n21))||(decide (zf1<0)))||(decide (zf1>=(n21.routines.length:Int)))))] (fun gz=>gz) ?_ ?_
   ·refine Z1 1 (ib (b:=((((XH n21 zf1) != (XH n21 zf1))||(!X7 n21))||(decide (zf1<0)))) 34 (fun Zb=>?_) (fun Zb=>?_))
    ·have Yi:(((XH n21 zf1)≠(XH n21 zf1))∨(¬(X7 n21=true)))∨(zf1<0):=((Ys (Ys Ym (YE Iff.rfl)) dq)).1 Zb
     exact Z0 (wk [0] (fc (x:=.b true) (lb (by rw [Zb];rfl)) fl))
    have YL:¬((((XH n21 zf1)≠(XH n21 zf1))∨(¬(X7 n21=true)))∨(zf1<0)):=Yc (Ys (Ys Ym (YE Iff.rfl)) dq) Zb
    exact ZM 3 [0] (iw (U7 n21.routines) (Z0 (wk [0] (fc (x:=.b (decide (zf1>=(n21.routines.length:Int)))) (lb (by rw [Zb];rfl)) fl))))
   refine ac (((((XH n21 zf1) != (XH n21 zf1))||(!X7 n21))||(decide (zf1<0)))||(decide (zf1>=(n21.routines.length:Int)))) (p:=((((XH n21 zf1)≠(XH n21 zf1))∨(¬(X7 n21=true)))∨(zf1<0))∨(zf1>=(n21.routines.length:Int))) (Ys (Ys (Ys Ym (YE Iff.rfl)) dq) dq) (fun Zh=>?_) (fun Zh=>?_)
   ·exact Zw 3 [0] (Zx [] (SF n21 zf1) (Zo (Zar (XH n21 zf1) (XH n21 zf1)) (Zq (Y2 (.b ((XH n21 zf1)==(XH n21 zf1))) (lb (by first|(simp;done)|exact absurd hV ZE|exact absurd (by rw [hxb];exact HL hV om hrt om) Xb))))))
   have hV:X7 n21=true:=Hq fun z=>Zh (.inl (.inl (.inr z)))
   have hpo:=Zdc hV
   have hRR:∀r∈n21.routines,r.body.rng:=fun r hr=>(hzs.rt r hr).2.2.2
   refine ak (Zw 1 [0] (Zx [] (Z9d n21 (hr:=(fun r hr=>(hzs.rt r hr).2.2.2))) (Z1 3 (iA [nl,nl] fun b2=>ZC 0 b2 (YR (Cj n21)) (Z0 (X4 (YG (!(X7 n21)) (p:=¬((X7 n21)=true)) (YE Iff.rfl) (fun ZE=>?_) (fun ZE=>?_))))))))
   ·exact ar (Zq (Y2 (.b false) (lb (by first|(simp;done)|exact absurd hV ZE|exact absurd (by rw [hxb];exact HL hV om hrt om) Xb))))
   refine ak (Yg (ab 0 (Y3 (fun fz gz m F h=>∃(k:Nat),(k<=n21.routines.length)/\F=sF [3,4,5,6] fz [(8,.i k)]/\h=gz/\m=n21.routines.length-k) _ _ _ ⟨0,ob,rfl,rfl,rfl⟩ (wk [0,0] (Yb fl)) ?_)))
   rintro m F h ⟨k,Ye,rfl,rfl,rfl⟩
   refine Yk 3 [1] (iw (U7 n21.routines) (Y5 ((k:Int)<(n21.routines.length:Int)) (fun Yf=>?_) (fun Yf=>?_)))
   ·refine ak (aq (ab 1 (aD 18 (Zl 14 18 [0,1,2,3] (db (b:=((k:Int) != zf1)) 63 (fun ZB=>?_) (fun ZB=>?_))))))
    ·have YP:(k:Int)≠zf1:=(Ym).1 ZB
     refine ZH 9 14 [4,5,6,7,8] [1,0] ?_
     obtain ⟨x1,Z3⟩:=Zs ((Cj n21).routines) k om
     obtain ⟨rt,hrt⟩:=Zs n21.routines k om
     have hxb:=Zdb hV hrt Z3
     have hrm:=ZZ hrt
     have hpl:=hzn.params _ hrm
     have hll:=hzn.lent _ hrm
     refine dx 9 (Zj none (k:Int) 5 (WD Z3)) (Zl 4 8 [10,11,13,15] (Z9 12 (Yo 12 [] [] [] (Zb4 n21 k x1.body rt (hr:=hrt)) (Z9 14 (Yo 14 [] [] [] (OW (withR n21 k rt x1.body) zf1 (hz:=(by first|exact hzn|exact Z18 hzn hrt hxb)) (hr:=(by first|exact fun r hr=>(hzs.rt r hr).2.2.2|exact Z17 hRR hrt hxb))) (dx 16 (Pf (XH (withR n21 k rt x1.body) zf1) (XH n21 zf1)) (Zl 0 1 [17] (de (ac ((XH (withR n21 k rt x1.body) zf1) != (XH n21 zf1)) Ym (fun Xb=>?_) (fun Xb=>?_))))))))))
     ·exact ar (Zq (Y2 (.b false) (lb (by first|(simp;done)|exact absurd hV ZE|exact absurd (by rw [hxb];exact HL hV om hrt om) Xb))))
     exact ak (az (Z1 1 (ZJ k (Z0 (ZK ⟨k+1,ob,rfl,rfl,rfl⟩ (wk [0,0] (ZO k fl)))))))
    have Xc:¬((k:Int)≠zf1):=Yc Ym ZB
    exact Zl 0 14 [4,5,6,7,8,9,10,11,12,13,14,15,16,17] (de (Wj (ak (az (Z1 1 (ZJ k (Z0 (ZK ⟨k+1,ob,rfl,rfl,rfl⟩ (wk [0,0] (ZO k fl))))))))))
   exact ax 0 (ar (Zq (EQ)))
  refine Z1 1 (ib (b:=(((XH n21 zf1) != (XH n21 zf1))||(!X7 n21))) 30 (fun Yy=>?_) (fun Yy=>?_))
  ·have XT:((XH n21 zf1)≠(XH n21 zf1))∨(¬(X7 n21=true)):=((Ys Ym (YE Iff.rfl))).1 Yy
   exact Z1 3 (Yq (wk [0] (fc (x:=.b true) (lb (by rw [Yy];rfl)) fl)) hj2)
  have Wy:¬(((XH n21 zf1)≠(XH n21 zf1))∨(¬(X7 n21=true))):=Yc (Ys Ym (YE Iff.rfl)) Yy
  exact Z1 3 (Yq (wk [0] (fc (x:=.b (decide (zf1<0))) (lb (by rw [Yy];rfl)) fl)) hj2)
 refine Z1 1 (ib (b:=((XH n21 zf1) != (XH n21 zf1))) 25 (fun Xq=>?_) (fun Xq=>?_))
 ·have WW:(XH n21 zf1)≠(XH n21 zf1):=(Ym).1 Xq
  exact Z1 4 (Yq (wk [0] (fc (x:=.b true) (lb (by rw [Xq];rfl)) fl)) hj1)
 have Vk:¬((XH n21 zf1)≠(XH n21 zf1)):=Yc Ym Xq
 exact ZM 1 [0] (Zx [] (IT n21 (hr:=(fun r hr=>(hzs.rt r hr).2.2.2))) (Z1 2 (Yq (wk [0] (fc (x:=.b (!X7 n21)) (lb (by rw [Xq];rfl)) fl)) hj1)))
end Go.Abs
section
namespace Go.Proofs.YtjmahledcmocoaaGreat.fnBalancedRoutine
open Go.ChangeShapes Go.WideShapes Go.ChangeAt Go.RowKit Go.Abs
theorem own:ownKnob Tryz.prog.godebug=none:=by kernel_rfl
theorem kids:Kids Tryz.prog (·<Tryz.prog.types.size):=kids_rows kr kr
theorem Z6k:∀t e,t<Tryz.prog.types.size->Tryz.prog.underlying t=some (.slice e)->0<Tryz.prog.cellsOf e:=slices_full_of Tryz.prog kr
theorem Sn {w w':World} {G G':Ya} {h':List Res} (hx:YW w G [] w' G' h'):∀b,b<w.heap.size->w'.heap[b]? = w.heap[b]?:=
 fun b hb=>(hx.same b hb).eq fun o ⟨r,hr,_⟩=>by cases hr
theorem Z3e {w w':World} {b o:Nat} (h:w'.heap[b]? = w.heap[b]?):w'.cell? ⟨b,o,none⟩=w.cell? ⟨b,o,none⟩:=by simp [World.cell?,h]
theorem Zbw {t:Nat} (h:Nat.blt t Tryz.prog.types.size=true):t<Tryz.prog.types.size:=Nat.le_of_ble_eq_true h
set_option maxRecDepth 100000 in
theorem Z46 (H:Type) (enc:TypeId × Value->H) (W:World) (base:Nat) (args:Array Value) (ds gs:List (DataW H)) (before:List MemPlace) (hval:∀(j:Nat) t v,Tryz.f13.params[j]? = some t->args[j]? = some v->Value.okWide Tryz.prog W .any base t v)
  (hW:DataW.Whole enc Tryz.prog Tryz.f13.params.toList Rows.fnBalancedRoutineSpec.vars false W args.toList ds gs before) :
  Calls Tryz.prog 13 args W fun e W'=>∃v,e=.returned v/\Rows.fnBalancedRoutineSpec.post enc Tryz.prog Tryz.f13 false true false false W args v W':=by
 have hW':=hW
 obtain ⟨p,q,hA0,hV,rfl,hfz,hnd⟩:=hW
 have hA:DataW.TrodAll enc Tryz.prog W 0 (fun _=>true) true Tryz.f13.params.toList args.toList ds p:=hA0
 rw [Tryz.params13] at hA
 obtain ⟨v0,vs0,d0,ds0,p0,q0,hargs,rfl,rfl,h0,r0⟩:=trodAll_cons hA
 obtain ⟨rfl,rfl,rfl⟩:=trodAll_nil r0
 obtain rfl:args=#[v0]:=by cases args;simp_all
 obtain ⟨rfl,rfl⟩:=trodVars_none hV
 obtain ⟨fuel,htr⟩:=h0
 obtain ⟨qa,ql,qc,rfl⟩:=okWide_slice Tryz.underlying22 (hval 0 22 v0 kr rfl)
 obtain ⟨v1,code,hv1,hrv,hcb⟩:=Zdu htr
 have hv1:[Value.slice qa ql qc]=[v1]:=hv1
 cases hv1
 have hh:Yx W (GA W) []:=⟨(fun r hr=>by cases hr),List.Pairwise.nil,(fun r hr=>by cases hr),fun b o hg=>hg⟩
 refine (Zb6 code hcb W (GA W) [.slice qa ql qc] (.cons hrv .nil) hh).mono ?_
 rintro e W' ⟨v,r,h',G',rfl,⟨rfl,rfl⟩,hv,hh',hx⟩
 have hvb:=hv.val_inv
 subst hvb
 refine ⟨_,rfl,[d0],[],p0++[]++[],[],p0++[],[],hW',?_,?_,rfl,?_,(fun h=>by cases h)⟩
 ·exact trodAll_cons_mk (shut_bool Tryz.underlying4 _) trodAll_mk0
 ·have K6:∀b,b<W.heap.size->W'.heap[b]? = W.heap[b]?:=Sn hx
  have hlt:=hW'.lt
  have hcar:DataW.TrodAll enc Tryz.prog W' 0 (fun _=>true) true Tryz.f13.params.toList [.slice qa ql qc] [d0] (p0++[]):=by
   rw [Tryz.params13]
   refine ⟨p0,[],⟨fuel,DataW.trod_carry fuel 22 _ _ htr fun y hy=>?_⟩,rfl,rfl⟩
   have hyl:=hlt y (by simpa using hy)
   cases y with
   | cell b o=>exact Z3e (K6 b hyl)
   | map b=>exact K6 b hyl
  exact DataW.TrodAll.respare kids Z6k (by rw [Tryz.params13];intro t ht;rw [List.mem_singleton.1 ht];exact Zbw kr) hcar (fun y hy=>by have:=hlt y (by simpa using hy);simpa using this)
 ·refine ⟨hx.os,hx.output,fun i hi=>?_⟩
  rw [Sn hx i hi]
  cases W.heap[i]? with
  | none=>rfl
  | some o=>cases o<;>first | rfl | exact ⟨rfl,rfl,rfl,fun _ _=>rfl⟩ | exact .inr ⟨rfl,rfl⟩
set_option maxRecDepth 100000 in
theorem Zbs (os:Os) (started:os.Started) (H:Type) (enc:TypeId × Value->H) (F:Stop.Interp) :
  ReturnsInHanded {} Tryz.checked os 13 .any ((Rows.OpenSpec.upto Rows.fnBalancedRoutineSpec).pre6 enc Tryz.prog Tryz.f13 Rows.fnBalancedRoutineUptoRow.domain false) (((Rows.OpenSpec.upto Rows.fnBalancedRoutineSpec).at F).post enc Tryz.prog Tryz.f13 false true false false):=by
 refine returnsInHanded_of_cond (C:=Tryz.checked) (s:=Rows.OpenSpec.upto Rows.fnBalancedRoutineSpec) (k:=Rows.uptoSmall) rfl own started kr Tryz.func13
  (OpenSpec.witness (enc:=enc) (C:=Tryz.checked) (s:=Rows.OpenSpec.upto Rows.fnBalancedRoutineSpec) (k:=Rows.uptoSmall) rfl false ⟨#[],#[.slice none 0 0],[]⟩ 8 kr kr kr
   (x:=([.nil],[],[])) kr rfl kr) ?_
 intro W base args ds gs before hval hW _ hk _
 exact Z46 H enc W base args ds gs before hval hW
theorem Z1y {a b:Bool} (ha:a=true) (hb:b=true):(a&&b)=true:=by rw [ha,hb];rfl
set_option maxHeartbeats 4000000 in
theorem Z3j:joinedFacts Tryz.pinned.checked.prog 13 Tryz.f13 (Rows.OpenSpec.upto Rows.fnBalancedRoutineSpec).bare Rows.fnBalancedRoutineUptoRow=true:=by
 unfold joinedFacts
 iterate 31 refine Z1y ?_ (by as_aux_lemma=>kernel_rfl)
 as_aux_lemma=>kernel_rfl
theorem Zd0:Rows.fnBalancedRoutineUptoRow.holds Tryz.pinned (Rows.OpenSpec.upto Rows.fnBalancedRoutineSpec):=
 OpenClaim.holds_of_cond 13 Tryz.f13 rfl rfl rfl rfl rfl rfl rfl ⟨rfl,rfl,rfl,rfl,rfl⟩ rfl rfl rfl rfl rfl (by as_aux_lemma=>kernel_rfl) Tryz.func13 Z3j
  (of_decide_eq_true kr) (by unfold Func.isWrapper;first|(rw [if_pos (by decide +kernel)];kernel_rfl)|(rw [if_neg (by decide +kernel)];exact ⟨rfl,rfl⟩))
  (fun os started H enc _ F=>Zbs os started H enc F)
theorem proved:Rows.FnBalancedRoutineUptoSaid:=
 Zd0
#print axioms proved
end Go.Proofs.YtjmahledcmocoaaGreat.fnBalancedRoutine
end
