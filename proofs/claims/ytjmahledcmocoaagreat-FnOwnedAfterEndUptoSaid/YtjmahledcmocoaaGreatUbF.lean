/-
  A part of the proofs of several laws (see the last file): no condition.
-/
import Derived.Test.YtjmahledcmocoaaGreatUbE
set_option linter.all false
set_option linter.unusedVariables false
set_option linter.unusedSimpArgs false
set_option linter.unusedSectionVars false
set_option maxRecDepth 10000
set_option maxHeartbeats 4000000
namespace Go.Abs
open Go.Proofs
theorem Z7d (rd:Nat) (bs:LI) (p:Nat) (mx:Int) (ZI:∀z∈bs,0<=z/\z<=255) (hp:p+1<=1000000000):Zl 79 [.p rd 0,.i mx] [Yy rd bs p] (fun r h=>∃(k:Int),r=.i k/\h=[.obj rd [VA bs,.i (p+1:Nat)]]/\Pk mx k/\k=AO bs p mx):=by
 refine ZF 99 Tryz.func79 (ZD (Zu 5 [0] (ZJ p (Z1 2 (ZH 0 rd [VA bs,.i (p+1:Nat)] (ie (X2 (Xj [0,1] [(24,.b ((decide (mx<1))||((bs.length:Int)==0)))] (fun gz=>gz) ?_ ?_))))))))
 ·refine Z1 3 (ib (b:=(decide (mx<1))) 17 (fun Zb=>?_) (fun Zb=>?_))
  ·exact Z0 (wk [0] (Zv true Zb fl))
  exact ZK 4 [0] (iw (Qf bs) (Z0 (wk [0] (Zv ((bs.length:Int)==0) Zb fl))))
 refine ac ((decide (mx<1))||((bs.length:Int)==0)) (p:=(mx<1)∨((bs.length:Int)=0)) (Yi dq Zq) (fun Za=>?_) (fun Za=>?_)
 ·exact ar (Zo (r1 [0] ⟨0,rfl,rfl,⟨Pk.zero,by rw [AO,Ze om]⟩⟩))
 refine ak (Zu 4 [0] (ia ((p:Int)) ((((p+1:Nat):Int))-(1)) (Z0 (Yk 5 [0] (iw (Qf bs) (Y2 ((p:Int)<(bs.length:Int)) (fun Zf=>?_) (fun Zf=>?_)))))))
 ·refine Zu 5 [0] ?_
  obtain ⟨x1,Z3⟩:=Zt bs p om
  have hz:=ZI _ (ZY Z3)
  exact Zm (Zh none (p:Int) 1 (CW Z3)) (Z1 1 (Zm (Dl x1 om) (Z1 1 (Zm (En x1 mx om om) (Zo (r1 [0] ⟨(x1 % mx),rfl,rfl,⟨Pk.rem om om,by rw [AO,Z8 om,Ze om,Z3];rfl⟩⟩))))))
 have hq1:p / bs.length<=p:=Nat.div_le_self _ _
 have hq0:(0:Int)<=((p / bs.length:Nat):Int):=Int.natCast_nonneg _
 refine ak (aD 46 (ZL 37 46 [0,1,2,3,4,5,6,7,8] [0,0] (dw 9 (Qf bs) (dx 10 (Gl p bs.length om om) ?_))))
 obtain ⟨x2,Zs⟩:=Zt bs (p % bs.length) (Nat.mod_lt _ om)
 have hz:=ZI _ (ZY Zs)
 have hy2:=Zs
 refine dx 11 (Zh none ((p % bs.length:Nat):Int) 1 (CW Zs)) (Zk 33 34 [12] (dx 13 (Dl x2 om) (da 14 ((x2*131)) ((x2)*(131)) (ZL 26 31 [15,16,17,18,19] [0] (da 20 (((p*7:Nat):Int)) (((p:Int))*(7)) (da 21 (((p*7+3:Nat):Int)) ((((p*7:Nat):Int))+(3)) (ZL 20 24 [22,23,24,25] [0] (dw 26 (Qf bs) (dx 27 (Gl (p*7+3) bs.length om om) ?_)))))))))
 obtain ⟨x3,YJ⟩:=Zt bs ((p*7+3) % bs.length) (Nat.mod_lt _ om)
 have hz3:=ZI _ (ZY YJ)
 have hy3:=YJ
 exact dx 28 (Zh none (((p*7+3) % bs.length:Nat):Int) 1 (CW YJ)) (Zk 16 17 [29] (dx 30 (Dl x3 om) (da 31 ((x3*1117)) ((x3)*(1117)) (da 32 (((x2*131)+(x3*1117))) (((x2*131))+((x3*1117))) (Zk 12 13 [33] (da 34 (((p*29:Nat):Int)) (((p:Int))*(29)) (da 35 ((((x2*131)+(x3*1117))+((p*29:Nat):Int))) ((((x2*131)+(x3*1117)))+(((p*29:Nat):Int))) (ZL 5 10 [36,37,38,39,40] [0] (dw 41 (Qf bs) (dx 42 (Cp p bs.length om om) (da 43 ((((p / bs.length:Nat):Int)*53)) ((((p / bs.length:Nat):Int))*(53)) (da 44 (((((x2*131)+(x3*1117))+((p*29:Nat):Int))+(((p / bs.length:Nat):Int)*53))) (((((x2*131)+(x3*1117))+((p*29:Nat):Int)))+((((p / bs.length:Nat):Int)*53))) (Zk 0 1 [45] (de (Y4 2 (Zm (Lb ((((x2*131)+(x3*1117))+((p*29:Nat):Int))+(((p / bs.length:Nat):Int)*53)) 64 om om) (Zm (Pq ((((x2*131)+(x3*1117))+((p*29:Nat):Int))+(((p / bs.length:Nat):Int)*53)) (((((x2*131)+(x3*1117))+((p*29:Nat):Int))+(((p / bs.length:Nat):Int)*53)) / 64)) (Z0 (Y4 2 (Zm (En (AX ((((x2*131)+(x3*1117))+((p*29:Nat):Int))+(((p / bs.length:Nat):Int)*53)) (((((x2*131)+(x3*1117))+((p*29:Nat):Int))+(((p / bs.length:Nat):Int)*53)) / 64)) mx om (Hq ⟨by omega,by omega⟩ ⟨by omega,by omega⟩).1) (Zo (r1 [0] ⟨((AX ((((x2*131)+(x3*1117))+((p*29:Nat):Int))+(((p / bs.length:Nat):Int)*53)) (((((x2*131)+(x3*1117))+((p*29:Nat):Int))+(((p / bs.length:Nat):Int)*53)) / 64)) % mx),rfl,rfl,⟨Pk.rem (Hq ⟨by omega,by omega⟩ ⟨by omega,by omega⟩).1 om,by rw [AO,Z8 om,Z8 om,hy2,hy3];rfl⟩⟩))))))))))))))))))))))
theorem Z7e (rd:Nat) (bs:LI) (p:Nat) (mx:Nat) (ZI:∀z∈bs,0<=z/\z<=255) (hp:p+1<=1000000000:=by exact ob) (hmx:0<mx:=by exact ob):Zl 79 [.p rd 0,.i mx] [Yy rd bs p] (fun r h=>∃(kn:Nat),r=.i kn/\h=[.obj rd [VA bs,.i (p+1:Nat)]]/\kn<mx/\kn=(AO bs p mx).toNat):=(Z7d rd bs p mx ZI hp).mono fun r h ⟨z,hr,hh,hz,he⟩=>by
  have h0:=hz.lt om
  exact ⟨z.toNat,by rw [hr,Int.toNat_of_nonneg h0.1],hh,by omega,by rw [he]⟩
theorem Z3y (s:Z5) (hz:s.sz<=1000000000):Zl 139 [YL s] [] (fun r h=>∃(v:Hd),r=.agg [.i s.op,.i s.num,.i s.into,Z4 s.args,.h v]/\h=[rK v 2 (Zp (YN s.kids))]):=by
 have hkz:=TK s
 have haz:=Qc s
 refine ZF 33 Tryz.func139 (ar (iA (XC s) fun b1=>iA [.i 0,.i 0,.i 0,nl,nl] fun b2=>ie (ar (Ei 2 fun g1=>?_))))
 refine Z0 (Yc (ab 0 (Y5 (fun fz gz m F h=>∃(k:Nat) (v:Hd),(k<=s.kids.length)/\F=sF [1,2] fz [(3,.h v),(4,.i k)]/\h=[Zc gz 1,Zc gz 2,rK v 2 (Zp (YN (s.kids.take k)))]/\m=s.kids.length-k) _ _ _ ⟨0,(⟨some ⟨g1,0,none⟩,0,0⟩:Hd),ob,rfl,rfl,rfl⟩ (wk [1,1,0] (fr (Yf fl)) (e:=(rc (rc (rr (ls:=[]) ob rz))))) ?_)))
 rintro m F h ⟨k,v,Yh,rfl,rfl,rfl⟩
 refine Yk 3 [1] (iw (Uw s.kids) (Y2 ((k:Int)<(s.kids.length:Int)) (fun Za=>?_) (fun Za=>?_)))
 ·refine ak (aq (ab 1 (az (ZK 4 [1] ?_))))
  obtain ⟨x1,Z3⟩:=Zt s.kids k om
  have hks:=Tv Z3
  exact Zm (Zh none (k:Int) 2 (T7 Z3)) (Z1 1 (Zw [] (H8 x1) (iL [Y3 x1] 1 2 fun v1=>ZO 0 [(20,.sl [Y3 x1] none)] (Gc 3 k v 2 (Zp (YN (s.kids.take k))) [Y3 x1] none (by rw [Eb,WH,VG om]) (Qy rfl) rfl (List.cons_ne_nil _ _) (by simp<;>omega) fun v2=>Z0 (az (Z1 1 (ZJ k (Z0 (ZM ⟨k+1,v2,ob,rfl,rfl,rfl⟩ (wk [2,2,0] (fr (ZP k fl)) (e:=(rc (rc (rr (ls:=Zp (YN (s.kids.take k))++Zp [Y3 x1]) (Z5l Z3) rz))))))))))))))
 refine ax 0 (aD 12 (ZL 3 12 [0,1,2,3,4,5,6,7,9] [1,1,1,1] (Z9 8 (dc 8 [] [1,1,1] [b1,b1,b1] (Uh s.args) ?_))))
 rintro _ _ ⟨v3,rfl,rfl⟩
 exact Zk 1 2 [10] (Z9 11 (YM 11 1 [] [] b2 [.i s.op,.i s.num,.i s.into,ZQ s.args v3,.h v] (de (ZG (r3 [3] [.agg [.i s.op,.i s.num,.i s.into,ZQ s.args v3,.h v]] [0] [(b2,b2)] ⟨v,rfl,rfl⟩ (Zd.agg (.cons (lr _) (.cons (lr _) (.cons (lr _) (.cons (Zd.forget _ _) (.cons (lr _) .nil)))))) (eq:=(rr (ls:=Zp (YN (s.kids.take k))) (by rw [Vd om]) rz)))))))
theorem Z3x (s:Z5) (fl:Bool) (hz:s.sz<=1000000000:=by exact ob):Zl 139 [YL s] [] (fun r h=>(∃(v:Hd),r=.agg [.i s.op,.i s.num,.i s.into,Z4 s.args,.h v]/\h=[rK v 2 (Zp (YN s.kids))]/\fl=true)∨(r=YL s/\h=[]/\fl=false)):=by
 cases fl with
 | true=>exact (Z3y s hz).mono fun r h ⟨v,hr,hh⟩=>.inl ⟨v,hr,hh,rfl⟩
 | false=>exact (Sz s hz).mono fun r h ⟨hr,hh⟩=>.inr ⟨hr,hh,rfl⟩
theorem Z3u (b:Z7) (kk:Nat) (hz:b.sz<=1000000000:=by exact ob) (hkk:kk<b.steps.length:=by exact ob):Zl 97 [Y3 b] [] (fun r h=>∃(v:Hd) (u:Hd),r=.agg [.h v,.i b.result]/\h=[rK v 5 (V1 b kk u.v b.steps.length),rK u 2 (Tu b kk b.steps.length)]):=by
 have hbz:=U6 b
 refine ZF 28 Tryz.func97 (ar (iA (Xp b) fun b1=>iA [nl,.i 0] fun b2=>ie (ar (Ei 5 fun g1=>ZK 3 [2] (iA [nl,.i 0] fun b3=>?_)))))
 refine ZH 0 b3 [.ms g1 0 0 0,.i b.result] (ie (X2 (XZ (Z0h (k:=2)) (Z0 (ab 0 (Y5 (fun fz gz m F h=>∃(k:Nat) (v:Hd) (u:Hd),(k<=b.steps.length)/\F=sF [1,2,3] fz [(4,.i k)]/\h=[.obj b3 [.h v,.i b.result],Zc gz 3,Zc gz 4,rK v 5 (V1 b kk u.v k),rK u 2 (Tu b kk k)]/\m=b.steps.length-k) _ _ _ ⟨0,(⟨some ⟨g1,0,none⟩,0,0⟩:Hd),hN,ob,rfl,rfl,rfl⟩ (wk [1,2,2,1,0] (Yf fl) (e:=(rc (rc (rc (rr (ls:=[]) (by first|exact Pt.symm|exact Pw.symm) (rr (ls:=[]) (by first|exact Pt.symm|exact Pw.symm) rz))))))) ?_))))))
 rintro m F h ⟨k,v,u,Yh,rfl,rfl,rfl⟩
 refine Yk 3 [2] (iw (Vp b.steps) (Y2 ((k:Int)<(b.steps.length:Int)) (fun Za=>?_) (fun Za=>?_)))
 ·refine ak (aq (ab 1 (aE 12 (ZL 7 12 [0,1,2,3,4] [0,2] ?_))))
  obtain ⟨x1,Z3⟩:=Zt b.steps k om
  have hss:=KI Z3
  refine dx 5 (Zh none (k:Int) 5 (Wx Z3)) (Zk 5 6 [6] (Z9 7 (dc 7 [] [0] [b3] (Z3x x1 (decide (k=kk))) ?_)))
  rintro _ _ (⟨v1,rfl,rfl,ZT⟩|⟨rfl,rfl,Yd⟩)
  ·have hke:k=kk:=of_decide_eq_true ZT
   exact Ca (Z0f [1,1,1,0,0,0] (h':=[.obj b3 [.h v,.i b.result],.obj b2 [nl,.i 0],.obj b1 (Xp b),rK v1 2 (Zp (YN x1.kids)),rK v 5 (V1 b kk u.v k),rK u 2 (Tu b kk k)]) (d:=[]) kr) (Z9 8 (dL 8 [0] [b3] [.agg [.i x1.op,.i x1.num,.i x1.into,Z4 x1.args,.h v1]] 1 5 fun v2=>Yv 3 3 [] [(24,.sl [.agg [.i x1.op,.i x1.num,.i x1.into,Z4 x1.args,.h v1]] none)] (Z9 9 (I4 9 5 k [] [] v 5 (V1 b kk u.v k) [.agg [.i x1.op,.i x1.num,.i x1.into,Z4 x1.args,.h v1]] none (Le om) (Qy rfl) rfl (List.cons_ne_nil _ _) (by simp<;>omega) fun v3=>Zk 1 2 [10] (Z9 11 (YM 11 2 [] [] b3 [.h v3,.i b.result] (de (az (Z1 1 (ZJ k (Z0 (ZM ⟨k+1,v3,v1,ob,rfl,rfl,rfl⟩ (wk [0,2,2,0,1] (ZP k fl) (e:=(rc (rc (rc (rr (ls:=V1 b kk u.v k++Zp [.agg [.i x1.op,.i x1.num,.i x1.into,Z4 x1.args,.h v1]]) (by first|(subst hke;exact Ps Z3)|(subst hke;exact Pv Z3)) (rr (ls:=Zp (YN x1.kids)) (by first|(subst hke;exact Ps Z3)|(subst hke;exact Pv Z3)) rz)))))))))))))))))))
  have hke:¬k=kk:=of_decide_eq_false Yd
  exact Z9 8 (dL 8 [0] [b3] [YL x1] 1 5 fun v4=>Yv 3 3 [] [(24,.sl [YL x1] none)] (Z9 9 (I4 9 4 k [] [] v 5 (V1 b kk u.v k) [YL x1] none (Le om) (Qy rfl) rfl (List.cons_ne_nil _ _) (by simp<;>omega) fun v5=>Zk 1 2 [10] (Z9 11 (YM 11 2 [] [] b3 [.h v5,.i b.result] (de (az (Z1 1 (ZJ k (Z0 (ZM ⟨k+1,v5,u,ob,rfl,rfl,rfl⟩ (wk [0,2,2,0,1] (ZP k fl) (e:=(rc (rc (rc (rr (ls:=V1 b kk u.v k++Zp [YL x1]) (by first|exact Pr Z3 hke|exact Pu hke) (rr (ls:=Tu b kk k) (by first|exact Pr Z3 hke|exact Pu hke) rz))))))))))))))))))
 exact ax 0 (Zu 1 [0] (ZH 1 b2 [.h v,.i b.result] (ie (ZG (r3 [3,3] [.agg [.h v,.i b.result]] [0] [(b2,b2)] ⟨v,u,rfl,rfl⟩ (lr _) (eq:=(rr (ls:=V1 b kk u.v k) (by rw [show k=b.steps.length by omega]) (rr (ls:=Tu b kk k) (by rw [show k=b.steps.length by omega]) rz))))))))
theorem Z7m (rd:Nat) (bs:LI) (p:Nat) (b:Z7) (ZI:∀z∈bs,0<=z/\z<=255) (hp:p+(10*b.sz)<=1000000000) (hz:b.sz<=20000000) (hg:b.rgb) (h0:b.steps.length=0):Zl 114 [.p rd 0,Y3 b] [Yy rd bs p] (fun r h=>∃(y:Z7) (p2:Nat),r=Y3 y/\h=[Yy rd bs p2]/\XH b y/\p<=p2/\p2<=p+(10*b.sz)):=by
 have hbp:=b.sz_pos
 refine ZF 109 Tryz.func114 (ar (iA (Xp b) fun b1=>iA [nl,.i 0] fun b2=>ie (Zu 1 [1] (Zw [] (H8 b) (iA [nl,.i 0] fun b3=>ZH 0 b3 (Xp b) (ie (Yk 2 [0] (iw (Vp b.steps) (Z1 2 (ib (b:=((b.steps.length:Int)==0)) 14 (fun Zb=>?_) (fun Zb=>?_)))))))))))
 ·refine Z0 (XM (Y4 1 (iL (Z6 [0,1,2,3,-1,99]) 6 1 fun v1=>ZO 0 [(20,Z4 [0,1,2,3,-1,99])] (ic [4] (VV rd bs p [0,1,2,3,-1,99] (ZI:=ob)) ?_))))
  rintro _ _ ⟨z1,rfl,rfl,Yd⟩
  have hon:=Yd
  simp only [YF,List.not_mem_nil,or_false] at hon
  exact Z1 1 (ZH 2 b3 [WE b.steps,.i z1] (ie (Zu 1 [0] (ZH 3 b2 [WE b.steps,.i z1] (ie (ZG (r3 [2] [.agg [WE b.steps,.i z1]] [0] [(b2,b2)] ⟨(Z7.mk b.steps z1),p+1,rfl,rfl,⟨XH.result hg _,by have:=b.sz_pos;omega,by have:=b.sz_pos;omega⟩⟩ (lr _))))))))
 have YE:¬((b.steps.length:Int)=0):=Y7 Zq Zb
 exact absurd (show (b.steps.length:Int)=0 by omega) YE
theorem Z7n (rd:Nat) (bs:LI) (p:Nat) (b:Z7) (ZI:∀z∈bs,0<=z/\z<=255) (hp:p+(10*b.sz)<=1000000000) (hz:b.sz<=20000000) (hg:b.rgb) (h0:0<b.steps.length) (ih:∀(rd:Nat) (bs:LI) (p:Nat) (b2:Z7),(∀z∈bs,0<=z/\z<=255)->(p+(10*b2.sz)<=1000000000)->(b2.sz<=20000000)->(b2.rgb)->(b2.sz<b.sz)->Zl 114 [.p rd 0,Y3 b2] [Yy rd bs p] (fun r h=>∃(y:Z7) (p2:Nat),r=Y3 y/\h=[Yy rd bs p2]/\XH b2 y/\p<=p2/\p2<=p+(10*b2.sz))):Zl 114 [.p rd 0,Y3 b] [Yy rd bs p] (fun r h=>∃(y:Z7) (p2:Nat),r=Y3 y/\h=[Yy rd bs p2]/\XH b y/\p<=p2/\p2<=p+(10*b.sz)):=by
 have hbp:=b.sz_pos
 obtain ⟨kk,hkk⟩:∃kk,kk=(AO bs (p+1) (b.steps.length:Int)).toNat:=⟨_,rfl⟩
 have hkl:kk<b.steps.length:=by have:=Zc2 (bs:=bs) (p:=p+1) (mx:=(b.steps.length:Int)) om;omega
 obtain ⟨sk,hsk⟩:=Zt b.steps kk hkl
 have hsb:=KI hsk
 have hsg:=Zcj hg hsk
 have hst:=U6 b
 refine ZF 109 Tryz.func114 (ar (iA (Xp b) fun b1=>iA [nl,.i 0] fun b2=>ie (Zu 1 [1] (ic [] (Z3u b kk) ?_))))
 rintro _ _ ⟨v1,u1,rfl,rfl⟩
 refine Ga 0 b.steps.length (v:=v1) (Le (kk:=kk) (u:=u1.v) (X5 b.steps.length)) om (fun g1 c1 he1=>?_)
 subst he1
 refine XZ (Z0f [0,1,1,1,0] (h':=[.row (.slice (some ⟨g1,0,none⟩) b.steps.length c1) 5 (V1 b kk u1.v b.steps.length),.obj b2 [nl,.i 0],.obj b1 (Xp b),Yy rd bs p,rK u1 2 (Tu b kk b.steps.length)]) (d:=[]) kr) (iA [nl,.i 0] fun b3=>ZH 0 b3 [.ms g1 0 b.steps.length c1,.i b.result] (ie (Yk 2 [0] (io (.i b.steps.length) (.i b.steps.length) (lr _) (Z1 2 (ib (b:=((b.steps.length:Int)==0)) 14 (fun Zb=>?_) (fun Zb=>?_)))))))
 ·have ZT:(b.steps.length:Int)=0:=(Zq).1 Zb
  exact absurd ZT om
 have Yd:¬((b.steps.length:Int)=0):=Y7 Zq Zb
 refine Z1 1 (ic [4] (W7 rd bs p 5 (ZI:=ob)) ?_)
 rintro _ _ ⟨k1,rfl,rfl,YE⟩
 refine YD (k1==0) Zq (fun Za=>?_) (fun Za=>?_)
 ·refine ar (XZ (Mw 5 2 b kk sk u1.v (.slice (some ⟨g1,0,none⟩) b.steps.length c1) hsk) (XZ (Ty 0 2 0 (.slice (some ⟨g1,0,none⟩) b.steps.length c1) 5 b3 (ZA b.steps) [.ms g1 0 b.steps.length c1,.i b.result] (Xq _) rfl) (Z1 1 (iL (Z6 [0,1,2,3,-1,99]) 6 1 fun v2=>ZO 0 [(20,Z4 [0,1,2,3,-1,99])] (ic [4] (VV rd bs (p+1) [0,1,2,3,-1,99] (ZI:=ob)) ?_)))))
  rintro _ _ ⟨z1,rfl,rfl,YI⟩
  have hon:=YI
  simp only [YF,List.not_mem_nil,or_false] at hon
  exact Z1 1 (ZH 2 b3 [X0 b.steps (.slice (some ⟨g1,0,none⟩) b.steps.length c1),.i z1] (ie (Zu 1 [0] (ZH 5 b2 [X0 b.steps (.slice (some ⟨g1,0,none⟩) b.steps.length c1),.i z1] (ie (ZG (r3 [2] [.agg [X0 b.steps (.slice (some ⟨g1,0,none⟩) b.steps.length c1),.i z1]] [0] [(b2,b2)] ⟨(Z7.mk b.steps z1),(p+1)+1,rfl,rfl,(by first|exact ⟨XH.result hg _,by omega,by omega⟩|exact ⟨XH.kid hg hsk hck hyb.1,by omega,by omega⟩|exact ⟨XH.del hg,by omega,by omega⟩|exact ⟨XH.put hg,by omega,by omega⟩|exact ⟨XH.set hg hsk ⟨by have:=hys.1.1;omega,hys.1.2⟩,by omega,by omega⟩)⟩ (Zd.agg (.cons (Zd.forget _ _) (.cons (lr _) .nil))))))))))
 refine ak (Zu 3 [1] (io (.i b.steps.length) (.i b.steps.length) (lr _) (ic [0] (Z7e rd bs (p+1) b.steps.length (ZI:=ob)) ?_)))
 rintro _ _ ⟨YK,rfl,rfl,X9⟩
 have hkn:YK=kk:=by have:=X9.2;omega
 refine Z0 (Yk 3 [1] (Zm (Ws g1 b.steps.length c1 YK 5 (YK:Int)) (Z1 1 (V9 (Vu 2 g1 b.steps.length c1 5 (YK*5+4) (V1 b kk u1.v b.steps.length) [.h u1] 50 (.h u1) (by rw [hkn];exact Gn hsk)) (Zm (Z9u 5 sk.kids.length u1 2 (Tu b kk b.steps.length) (by rw [Lf hsk];exact Eb _)) (Z1 2 (ib (b:=(decide ((sk.kids.length:Int)>0))) 37 (fun Zx=>?_) (fun Zx=>?_))))))))
 ·have XG:(sk.kids.length:Int)>0:=(dq).1 Zx
  refine Z1 1 (ic [0] (W7 rd bs ((p+1)+1) 3 (ZI:=ob)) ?_)
  rintro _ _ ⟨k2,rfl,rfl,XY⟩
  refine Y2 (k2>0) (fun Zf=>?_) (fun Zf=>?_)
  ·refine ar (XZ (Mx 5 u1.v 2 (Tu b kk b.steps.length) (Zp (YN sk.kids)) (Lf hsk)) (Ga 0 sk.kids.length (v:=u1) (Eb _) om (fun g2 c2 he2=>?_)))
   subst he2
   refine ZK 4 [2] (Zm (Ws g1 b.steps.length c1 YK 5 (YK:Int)) (Z1 1 (V9 (Vu 3 g1 b.steps.length c1 5 (YK*5+4) (V1 b kk (.slice (some ⟨g2,0,none⟩) sk.kids.length c2) b.steps.length) [.ms g2 0 sk.kids.length c2] 50 (.ms g2 0 sk.kids.length c2) (by rw [hkn];exact Gn hsk)) (io (.i sk.kids.length) (.i sk.kids.length) (lr _) (ic [1] (JT rd bs (((p+1)+1)+1) sk.kids.length (ZI:=ob)) ?_)))))
   rintro _ _ ⟨X8,rfl,rfl,WQ⟩
   obtain ⟨ck,hck⟩:=Zt sk.kids X8 om
   have hckz:=Tv hck
   have hckb:=KI hsk
   have hckg:=Zci hg hsk hck
   refine Z0 (aD 20 (ZL 17 20 [0,1,2] [2] (dx 3 (Ws g1 b.steps.length c1 YK 5 (YK:Int)) (Zk 15 16 [4] (Uo 5 (Vu 3 g1 b.steps.length c1 5 (YK*5+4) (V1 b kk (.slice (some ⟨g2,0,none⟩) sk.kids.length c2) b.steps.length) [.ms g2 0 sk.kids.length c2] 50 (.ms g2 0 sk.kids.length c2) (by rw [hkn];exact Gn hsk)) (ZL 9 14 [6,7,8,9,10] [2] (dx 11 (Ws g1 b.steps.length c1 YK 5 (YK:Int)) (Zk 7 8 [12] (Uo 13 (Vu 3 g1 b.steps.length c1 5 (YK*5+4) (V1 b kk (.slice (some ⟨g2,0,none⟩) sk.kids.length c2) b.steps.length) [.ms g2 0 sk.kids.length c2] 50 (.ms g2 0 sk.kids.length c2) (by rw [hkn];exact Gn hsk)) (Zk 5 6 [14] (dx 15 (Ws g2 sk.kids.length c2 X8 2 (X8:Int)) (Uo 16 (Vu 1 g2 sk.kids.length c2 2 (X8*2) (Zp (YN sk.kids)) (Xp ck) 34 (Y3 ck) (Z5k hck)) (Z9 17 (dc 17 [0] [2,1] [g1,b3] (ih rd bs ((((p+1)+1)+1)+1) ck ob ob ob ob ob) ?_))))))))))))))
   rintro _ _ ⟨y1,p21,rfl,rfl,V8⟩
   have hyb:=V8
   exact dx 18 (Ws g2 sk.kids.length c2 X8 2 (X8:Int)) (Z9 19 (C9 19 1 [] [] g2 sk.kids.length c2 2 (X8*2) (Xp y1) (Zp (YN sk.kids)) (Zp (YN (sk.kids.set X8 y1))) (by rw [Eb];simp only [YS,Xv];omega) (Z5m y1 om) (de (ar (XZ (Z06 0 2 b kk sk (sk.kids.set X8 y1) (.slice (some ⟨g2,0,none⟩) sk.kids.length c2) (.slice (some ⟨g1,0,none⟩) b.steps.length c1) hsk) (XZ (Ty 0 2 0 (.slice (some ⟨g1,0,none⟩) b.steps.length c1) 5 b3 (ZA (b.steps.set kk (Z5.mk sk.op sk.num sk.into sk.args (sk.kids.set X8 y1)))) [.ms g1 0 b.steps.length c1,.i b.result] (Xq _) rfl) (ZK 1 [0] (ZH 4 b2 [X0 (b.steps.set kk (Z5.mk sk.op sk.num sk.into sk.args (sk.kids.set X8 y1))) (.slice (some ⟨g1,0,none⟩) b.steps.length c1),.i b.result] (ie (ZG (r3 [4] [.agg [X0 (b.steps.set kk (Z5.mk sk.op sk.num sk.into sk.args (sk.kids.set X8 y1))) (.slice (some ⟨g1,0,none⟩) b.steps.length c1),.i b.result]] [0] [(b2,b2)] ⟨(Z7.mk (b.steps.set kk (Z5.mk sk.op sk.num sk.into sk.args (sk.kids.set X8 y1))) b.result),p21,rfl,rfl,(by first|exact ⟨XH.result hg _,by omega,by omega⟩|exact ⟨XH.kid hg hsk hck hyb.1,by omega,by omega⟩|exact ⟨XH.del hg,by omega,by omega⟩|exact ⟨XH.put hg,by omega,by omega⟩|exact ⟨XH.set hg hsk ⟨by have:=hys.1.1;omega,hys.1.2⟩,by omega,by omega⟩)⟩ (Zd.agg (.cons (Zd.forget _ _) (.cons (lr _) .nil))))))))))))))
  refine ak (X2 (XZ (Mw 5 2 b kk sk u1.v (.slice (some ⟨g1,0,none⟩) b.steps.length c1) hsk) (Z1 1 (ic [2] (W7 rd bs (((p+1)+1)+1) 4 (ZI:=ob)) ?_))))
  rintro _ _ ⟨k3,rfl,rfl,Uy⟩
  refine ie (ab 0 (ar (YD (k3==0) Zq (fun ZB=>?_) (fun ZB=>?_))))
  ·exact aE 12 (ZL 9 12 [0,1,2] [3] (dx 3 (La 1 g1 b.steps.length c1 YK 5 (Zp (ZA b.steps))) (ZL 5 8 [4,5,6] [3] (da 7 (((YK+1:Nat):Int)) (((YK:Int))+(1)) (dx 8 (Po 1 g1 b.steps.length c1 (YK+1) 5 (Zp (ZA b.steps))) (Z9 9 (NV 9 1 [] [] g1 b.steps.length c1 YK (YK+1) 5 (Zp (ZA b.steps)) (Ua _) (Zk 1 2 [10] (Z9 11 (YM 11 3 [] [] b3 [.ms g1 0 (YK+(b.steps.length-(YK+1))) c1,.i b.result] (de (ar (XZ (Mx 1 (.slice (some ⟨g1,0,none⟩) (YK+(b.steps.length-(YK+1))) c1) 5 (((Zp (ZA b.steps)).take (YK*5))++((Zp (ZA b.steps)).drop ((YK+1)*5))) (Zp (ZA (b.steps.take kk++b.steps.drop (kk+1)))) (by rw [hkn];exact Om hkl)) (XZ (Ty 0 0 0 (.slice (some ⟨g1,0,none⟩) (YK+(b.steps.length-(YK+1))) c1) 5 b3 (ZA (b.steps.take kk++b.steps.drop (kk+1))) [.ms g1 0 (YK+(b.steps.length-(YK+1))) c1,.i b.result] (Xq _) rfl) (ZK 1 [0] (ZH 4 b2 [X0 (b.steps.take kk++b.steps.drop (kk+1)) (.slice (some ⟨g1,0,none⟩) (YK+(b.steps.length-(YK+1))) c1),.i b.result] (ie (ZG (r3 [3] [.agg [X0 (b.steps.take kk++b.steps.drop (kk+1)) (.slice (some ⟨g1,0,none⟩) (YK+(b.steps.length-(YK+1))) c1),.i b.result]] [0] [(b2,b2)] ⟨(Z7.mk (b.steps.take kk++b.steps.drop (kk+1)) b.result),(((p+1)+1)+1)+1,rfl,rfl,(by first|exact ⟨XH.result hg _,by omega,by omega⟩|exact ⟨XH.kid hg hsk hck hyb.1,by omega,by omega⟩|exact ⟨XH.del hg,by omega,by omega⟩|exact ⟨XH.put hg,by omega,by omega⟩|exact ⟨XH.set hg hsk ⟨by have:=hys.1.1;omega,hys.1.2⟩,by omega,by omega⟩)⟩ (Zd.agg (.cons (Zd.forget _ _) (.cons (lr _) .nil))))))))))))))))))))))
  refine ar (YD (k3==1) Zq (fun ZV=>?_) (fun ZV=>?_))
  ·refine aD 10 (Ca (Ty 1 2 0 (.slice (some ⟨g1,0,none⟩) b.steps.length c1) 5 b3 (ZA b.steps) [.ms g1 0 b.steps.length c1,.i b.result] (Xq _) rfl) (ZL 6 10 [0,1,2,5] [0] (Z9 3 (dL 3 [0] [b3] (Z6 [14,15,15,16,17]) 5 1 fun v3=>Yv 5 5 [] [(102,Z4 [14,15,15,16,17])] (Z9 4 (dc 4 [3] [0] [b3] (VV rd bs ((((p+1)+1)+1)+1) [14,15,15,16,17] (ZI:=ob)) ?_))))))
   rintro _ _ ⟨z2,rfl,rfl,UU⟩
   have hon:=UU
   simp only [YF,List.not_mem_nil,or_false] at hon
   refine Z9 6 (dc 6 [0] [0] [b3] (W7 rd bs (((((p+1)+1)+1)+1)+1) 4 (ZI:=ob)) ?_)
   rintro _ _ ⟨k4,rfl,rfl,UV⟩
   exact Z9 7 (Yt 7 [] [1] [b3] (A0 z2 k4) (Yv 2 2 [] [(99,Y3 b)] (Z9 8 (Yt 8 [] [] [] (G0 b YK (Zz z2 k4)) (Z9 9 (YM 9 5 [] [] b2 (Xp (Z7.mk (WF b.steps YK (Zz z2 k4)) b.result)) (de (ZG (r3 [1] [Y3 (Z7.mk (WF b.steps YK (Zz z2 k4)) b.result)] [0] [(b2,b2)] ⟨(Z7.mk (WF b.steps YK (Zz z2 k4)) b.result),(((((p+1)+1)+1)+1)+1)+1,rfl,rfl,(by first|exact ⟨XH.result hg _,by omega,by omega⟩|exact ⟨XH.kid hg hsk hck hyb.1,by omega,by omega⟩|exact ⟨XH.del hg,by omega,by omega⟩|exact ⟨XH.put hg,by omega,by omega⟩|exact ⟨XH.set hg hsk ⟨by have:=hys.1.1;omega,hys.1.2⟩,by omega,by omega⟩)⟩ (lr _))))))))))
  refine aE 12 (ZL 5 12 [0,1,2,3,4,5,6] [3,3] (dx 7 (Ws g1 b.steps.length c1 YK 5 (YK:Int)) (Uo 8 (Vu 1 g1 b.steps.length c1 5 (YK*5) (Zp (ZA b.steps)) (XC sk) 52 (YL sk) (by rw [hkn];exact Iy hsk)) (Z9 9 (dc 9 [0] [1] [b3] (OL rd bs ((((p+1)+1)+1)+1) sk (ZI:=ob)) ?_)))))
  rintro _ _ ⟨y2,p22,rfl,rfl,Qj⟩
  have hys:=Qj
  exact dx 10 (Ws g1 b.steps.length c1 YK 5 (YK:Int)) (Z9 11 (C9 11 1 [] [] g1 b.steps.length c1 5 (YK*5) (XC y2) (Zp (ZA b.steps)) (Zp (ZA (b.steps.set kk y2))) (by rw [QU];simp only [YS,Xv];omega) (by rw [hkn];exact FT hsk) (de (ar (XZ (Ty 0 2 0 (.slice (some ⟨g1,0,none⟩) b.steps.length c1) 5 b3 (ZA (b.steps.set kk y2)) [.ms g1 0 b.steps.length c1,.i b.result] (Xq _) rfl) (ZK 1 [0] (ZH 4 b2 [X0 (b.steps.set kk y2) (.slice (some ⟨g1,0,none⟩) b.steps.length c1),.i b.result] (ie (ZG (r3 [3] [.agg [X0 (b.steps.set kk y2) (.slice (some ⟨g1,0,none⟩) b.steps.length c1),.i b.result]] [0] [(b2,b2)] ⟨(Z7.mk (b.steps.set kk y2) b.result),p22,rfl,rfl,(by first|exact ⟨XH.result hg _,by omega,by omega⟩|exact ⟨XH.kid hg hsk hck hyb.1,by omega,by omega⟩|exact ⟨XH.del hg,by omega,by omega⟩|exact ⟨XH.put hg,by omega,by omega⟩|exact ⟨XH.set hg hsk ⟨by have:=hys.1.1;omega,hys.1.2⟩,by omega,by omega⟩)⟩ (Zd.agg (.cons (Zd.forget _ _) (.cons (lr _) .nil)))))))))))))
 have Qk:¬((sk.kids.length:Int)>0):=Y7 dq Zx
 refine Z0 (W9 (ak (X2 (XZ (Mw 5 2 b kk sk u1.v (.slice (some ⟨g1,0,none⟩) b.steps.length c1) hsk) (Z1 1 (ic [2] (W7 rd bs ((p+1)+1) 4 (ZI:=ob)) ?_))))))
 rintro _ _ ⟨k5,rfl,rfl,J1⟩
 refine ie (ab 0 (ar (YD (k5==0) Zq (fun Xd=>?_) (fun Xd=>?_))))
 ·exact aE 12 (ZL 9 12 [0,1,2] [3] (dx 3 (La 1 g1 b.steps.length c1 YK 5 (Zp (ZA b.steps))) (ZL 5 8 [4,5,6] [3] (da 7 (((YK+1:Nat):Int)) (((YK:Int))+(1)) (dx 8 (Po 1 g1 b.steps.length c1 (YK+1) 5 (Zp (ZA b.steps))) (Z9 9 (NV 9 1 [] [] g1 b.steps.length c1 YK (YK+1) 5 (Zp (ZA b.steps)) (Ua _) (Zk 1 2 [10] (Z9 11 (YM 11 3 [] [] b3 [.ms g1 0 (YK+(b.steps.length-(YK+1))) c1,.i b.result] (de (ar (XZ (Mx 1 (.slice (some ⟨g1,0,none⟩) (YK+(b.steps.length-(YK+1))) c1) 5 (((Zp (ZA b.steps)).take (YK*5))++((Zp (ZA b.steps)).drop ((YK+1)*5))) (Zp (ZA (b.steps.take kk++b.steps.drop (kk+1)))) (by rw [hkn];exact Om hkl)) (XZ (Ty 0 0 0 (.slice (some ⟨g1,0,none⟩) (YK+(b.steps.length-(YK+1))) c1) 5 b3 (ZA (b.steps.take kk++b.steps.drop (kk+1))) [.ms g1 0 (YK+(b.steps.length-(YK+1))) c1,.i b.result] (Xq _) rfl) (ZK 1 [0] (ZH 4 b2 [X0 (b.steps.take kk++b.steps.drop (kk+1)) (.slice (some ⟨g1,0,none⟩) (YK+(b.steps.length-(YK+1))) c1),.i b.result] (ie (ZG (r3 [3] [.agg [X0 (b.steps.take kk++b.steps.drop (kk+1)) (.slice (some ⟨g1,0,none⟩) (YK+(b.steps.length-(YK+1))) c1),.i b.result]] [0] [(b2,b2)] ⟨(Z7.mk (b.steps.take kk++b.steps.drop (kk+1)) b.result),((p+1)+1)+1,rfl,rfl,(by first|exact ⟨XH.result hg _,by omega,by omega⟩|exact ⟨XH.kid hg hsk hck hyb.1,by omega,by omega⟩|exact ⟨XH.del hg,by omega,by omega⟩|exact ⟨XH.put hg,by omega,by omega⟩|exact ⟨XH.set hg hsk ⟨by have:=hys.1.1;omega,hys.1.2⟩,by omega,by omega⟩)⟩ (Zd.agg (.cons (Zd.forget _ _) (.cons (lr _) .nil))))))))))))))))))))))
 refine ar (YD (k5==1) Zq (fun Xe=>?_) (fun Xe=>?_))
 ·refine aD 10 (Ca (Ty 1 2 0 (.slice (some ⟨g1,0,none⟩) b.steps.length c1) 5 b3 (ZA b.steps) [.ms g1 0 b.steps.length c1,.i b.result] (Xq _) rfl) (ZL 6 10 [0,1,2,5] [0] (Z9 3 (dL 3 [0] [b3] (Z6 [14,15,15,16,17]) 5 1 fun v4=>Yv 5 5 [] [(102,Z4 [14,15,15,16,17])] (Z9 4 (dc 4 [3] [0] [b3] (VV rd bs (((p+1)+1)+1) [14,15,15,16,17] (ZI:=ob)) ?_))))))
  rintro _ _ ⟨z3,rfl,rfl,Kx⟩
  have hon:=Kx
  simp only [YF,List.not_mem_nil,or_false] at hon
  refine Z9 6 (dc 6 [0] [0] [b3] (W7 rd bs ((((p+1)+1)+1)+1) 4 (ZI:=ob)) ?_)
  rintro _ _ ⟨k6,rfl,rfl,Bo⟩
  exact Z9 7 (Yt 7 [] [1] [b3] (A0 z3 k6) (Yv 2 2 [] [(99,Y3 b)] (Z9 8 (Yt 8 [] [] [] (G0 b YK (Zz z3 k6)) (Z9 9 (YM 9 5 [] [] b2 (Xp (Z7.mk (WF b.steps YK (Zz z3 k6)) b.result)) (de (ZG (r3 [1] [Y3 (Z7.mk (WF b.steps YK (Zz z3 k6)) b.result)] [0] [(b2,b2)] ⟨(Z7.mk (WF b.steps YK (Zz z3 k6)) b.result),((((p+1)+1)+1)+1)+1,rfl,rfl,(by first|exact ⟨XH.result hg _,by omega,by omega⟩|exact ⟨XH.kid hg hsk hck hyb.1,by omega,by omega⟩|exact ⟨XH.del hg,by omega,by omega⟩|exact ⟨XH.put hg,by omega,by omega⟩|exact ⟨XH.set hg hsk ⟨by have:=hys.1.1;omega,hys.1.2⟩,by omega,by omega⟩)⟩ (lr _))))))))))
 refine aE 12 (ZL 5 12 [0,1,2,3,4,5,6] [3,3] (dx 7 (Ws g1 b.steps.length c1 YK 5 (YK:Int)) (Uo 8 (Vu 1 g1 b.steps.length c1 5 (YK*5) (Zp (ZA b.steps)) (XC sk) 52 (YL sk) (by rw [hkn];exact Iy hsk)) (Z9 9 (dc 9 [0] [1] [b3] (OL rd bs (((p+1)+1)+1) sk (ZI:=ob)) ?_)))))
 rintro _ _ ⟨y3,p23,rfl,rfl,Jy⟩
 have hys:=Jy
 exact dx 10 (Ws g1 b.steps.length c1 YK 5 (YK:Int)) (Z9 11 (C9 11 1 [] [] g1 b.steps.length c1 5 (YK*5) (XC y3) (Zp (ZA b.steps)) (Zp (ZA (b.steps.set kk y3))) (by rw [QU];simp only [YS,Xv];omega) (by rw [hkn];exact FT hsk) (de (ar (XZ (Ty 0 2 0 (.slice (some ⟨g1,0,none⟩) b.steps.length c1) 5 b3 (ZA (b.steps.set kk y3)) [.ms g1 0 b.steps.length c1,.i b.result] (Xq _) rfl) (ZK 1 [0] (ZH 4 b2 [X0 (b.steps.set kk y3) (.slice (some ⟨g1,0,none⟩) b.steps.length c1),.i b.result] (ie (ZG (r3 [3] [.agg [X0 (b.steps.set kk y3) (.slice (some ⟨g1,0,none⟩) b.steps.length c1),.i b.result]] [0] [(b2,b2)] ⟨(Z7.mk (b.steps.set kk y3) b.result),p23,rfl,rfl,(by first|exact ⟨XH.result hg _,by omega,by omega⟩|exact ⟨XH.kid hg hsk hck hyb.1,by omega,by omega⟩|exact ⟨XH.del hg,by omega,by omega⟩|exact ⟨XH.put hg,by omega,by omega⟩|exact ⟨XH.set hg hsk ⟨by have:=hys.1.1;omega,hys.1.2⟩,by omega,by omega⟩)⟩ (Zd.agg (.cons (Zd.forget _ _) (.cons (lr _) .nil)))))))))))))
theorem Z7l (rd:Nat) (bs:LI) (p:Nat) (b:Z7) (ZI:∀z∈bs,0<=z/\z<=255) (hp:p+10*b.sz<=1000000000:=by exact ob) (hz:b.sz<=20000000:=by exact ob) (hg:b.rgb:=by exact ob):Zl 114 [.p rd 0,Y3 b] [Yy rd bs p] (fun r h=>∃(y:Z7) (p2:Nat),r=Y3 y/\h=[Yy rd bs p2]/\XH b y/\p<=p2/\p2<=p+(10*b.sz)):=by
 have key:∀k:Nat,∀(rd:Nat) (bs:LI) (p:Nat) (b2:Z7),(∀z∈bs,0<=z/\z<=255)->(p+(10*b2.sz)<=1000000000)->(b2.sz<=20000000)->(b2.rgb)->(b2.sz<k)->Zl 114 [.p rd 0,Y3 b2] [Yy rd bs p] (fun r h=>∃(y:Z7) (p2:Nat),r=Y3 y/\h=[Yy rd bs p2]/\XH b2 y/\p<=p2/\p2<=p+(10*b2.sz)):=by
  intro k
  induction k with
  | zero=>intro rd bs p b2 h1 h2 h3 h4 h5;omega
  | succ k ih=>
   intro rd bs p b2 h1 h2 h3 h4 h5
   by_cases h0:b2.steps.length=0
   ·exact Z7m rd bs p b2 h1 h2 h3 h4 h0
   ·exact Z7n rd bs p b2 h1 h2 h3 h4 om fun rd bs p b3 q1 q2 q3 q4 q5=>ih rd bs p b3 q1 q2 q3 q4 om
 exact key (b.sz+1) rd bs p b ZI hp hz hg om
theorem Z7o (rd:Nat) (bs:LI) (p:Nat) (n:Zi) (often:Nat) (q:Nat) (l:Nat) (ZI:∀z∈bs,0<=z/\z<=255) (hp:p+(10*q+20)<=1000000000:=by exact ob) (hzn:ZS n q l:=by exact ob) (hq:q<=9999000:=by exact ob) (hl:l<=100:=by exact ob) (ho:0<often:=by exact ob):Zl 72 [.p rd 0,Yo n,.i often] [Yy rd bs p] (fun r h=>∃(n2:Zi) (p2:Nat),r=Yo n2/\h=[Yy rd bs p2]/\ZS n2 (q+2) (l+1)/\p<=p2/\p2<=p+(10*q+20)):=by
 have hnl:=hzn.len
 refine ZF 64 Tryz.func72 (ar (iA (YQ n) fun b1=>iA [nl,nl] fun b2=>ie (YC 2 (ic [2] (JT rd bs p often (ZI:=ob)) ?_))))
 rintro _ _ ⟨YK,rfl,rfl,ZT⟩
 refine Y2 ((YK:Int)>0) (fun Za=>?_) (fun Za=>?_)
 ·exact Zu 1 [2] (ZH 1 b2 (YQ n) (ie (ZG (r3 [1] [Yo n] [0] [(b2,b2)] ⟨n,p+1,rfl,rfl,(by first|exact ⟨hzn.le om om,by omega,by omega⟩|exact ⟨hzn.set hx1k om om om om ⟨hz1.2.2.2,hzn.rb _ (ZY hx1k)⟩,by omega,by omega⟩|exact ⟨(hzn.le om om).ds had.1,by omega,by omega⟩|exact ⟨hzn.set hx2k om om om (by have:=hsb.1.1;omega) hsb.1.2,by omega,by omega⟩)⟩ (lr _)))))
 refine ak (Zu 3 [2] (iw (Up n.routines) (ic [0] (JT rd bs (p+1) n.routines.length (ZI:=ob)) ?_)))
 rintro _ _ ⟨X8,rfl,rfl,Yd⟩
 refine Z0 (YC 1 (ic [0] (W7 rd bs ((p+1)+1) 8 (ZI:=ob)) ?_))
 rintro _ _ ⟨k1,rfl,rfl,YE⟩
 refine ie (ab 0 (ar (YD (k1==0) Zq (fun Zf=>?_) (fun Zf=>?_))))
 ·refine aD 11 (ZL 6 11 [0,1,2,3,4] [2,2] ?_)
  obtain ⟨x1,Z3⟩:=Zt n.routines X8 om
  have hx1k:=Z3
  have hz1:=hzn.rt _ (ZY Z3)
  refine dx 5 (Zh none (X8:Int) 5 (Wp Z3)) (Zk 3 5 [6,7] (KV (fun fz gz F h=>∃(g1:Nat) (c1:Nat) (b3:Nat),F=sF [0,6,7] fz [(8,.p b3 0)]/\h=[.obj b3 [ZW n.decls,.ms g1 0 n.routines.length c1],.row (.slice (some ⟨g1,0,none⟩) n.routines.length c1) 5 (Zp (YU (n.routines.set X8 (Yb.mk x1.params x1.lent x1.result x1.body)))),Zc gz 0,Zc gz 1,Zc gz 2]) ?_ ?_))
  ·refine VI 8 9 ?_ ?_
   ·refine dc 8 [] [] [] (IM n X8 x1.body x1 (hr:=Z3)) ?_
    rintro _ _ ⟨g1,c1,rfl,rfl⟩
    exact Z9 9 (dA 9 [] [] [nl,nl] fun b3=>Z9 10 (YM 10 0 [] [] b3 [ZW n.decls,.ms g1 0 n.routines.length c1] (de (ZU ⟨g1,c1,b3,rfl,rfl⟩ (ZE 5 fl)))))
   refine dA 9 [2,2] [b1,b1] [nl,nl] fun b4=>Z9 8 (dc 8 [] [] [] (IM n X8 x1.body x1 (hr:=Z3)) ?_)
   rintro _ _ ⟨g2,c2,rfl,rfl⟩
   exact Z9 10 (YM 10 1 [] [] b4 [ZW n.decls,.ms g2 0 n.routines.length c2] (de (ZU ⟨g2,c2,b4,rfl,rfl⟩ (ZE 5 fl))))
  rintro F h ⟨g1,c1,b3,rfl,rfl⟩
  refine aD 14 (ZL 7 14 [0,1,2,3,4,5,6] [0,0] (dx 7 (Ws g1 n.routines.length c1 X8 5 (X8:Int)) (Zk 5 6 [8] (Uo 9 (Vu 1 g1 n.routines.length c1 5 (X8*5+1) (Zp (YU (n.routines.set X8 (Yb.mk x1.params x1.lent x1.result x1.body)))) [Z4 x1.lent] 31 (Z4 x1.lent) (Z5o om _)) (Z9 10 (dc 10 [2] [0] [b3] (Z7p rd bs (((p+1)+1)+1) x1.lent (ZI:=ob)) ?_))))))
  rintro _ _ ⟨zs1,p21,rfl,rfl,YI⟩
  have hsi:=YI
  exact dx 11 (Ws g1 n.routines.length c1 X8 5 (X8:Int)) (Zk 1 2 [12] (Z9 13 (C9 13 2 [] [] g1 n.routines.length c1 5 (X8*5+1) [Z4 zs1] (Zp (YU (n.routines.set X8 (Yb.mk x1.params x1.lent x1.result x1.body)))) (Zp (YU (n.routines.set X8 (Yb.mk x1.params zs1 x1.result x1.body)))) (by rw [FP,UD];simp only [YS,Xv];omega) (Z5q om _ _) (de (ar (XZ (Ty 0 1 1 (.slice (some ⟨g1,0,none⟩) n.routines.length c1) 5 b3 (YU (n.routines.set X8 (Yb.mk x1.params zs1 x1.result x1.body))) [ZW n.decls,.ms g1 0 n.routines.length c1] (T9 _) rfl) (ZK 1 [0] (ZH 3 b2 [ZW n.decls,WL (n.routines.set X8 (Yb.mk x1.params zs1 x1.result x1.body)) (.slice (some ⟨g1,0,none⟩) n.routines.length c1)] (ie (ZG (r3 [3] [.agg [ZW n.decls,WL (n.routines.set X8 (Yb.mk x1.params zs1 x1.result x1.body)) (.slice (some ⟨g1,0,none⟩) n.routines.length c1)]] [0] [(b2,b2)] ⟨(Zi.mk n.decls (n.routines.set X8 (Yb.mk x1.params zs1 x1.result x1.body))),p21,rfl,rfl,(by first|exact ⟨hzn.le om om,by omega,by omega⟩|exact ⟨hzn.set hx1k om om om om ⟨hz1.2.2.2,hzn.rb _ (ZY hx1k)⟩,by omega,by omega⟩|exact ⟨(hzn.le om om).ds had.1,by omega,by omega⟩|exact ⟨hzn.set hx2k om om om (by have:=hsb.1.1;omega) hsb.1.2,by omega,by omega⟩)⟩ (Zd.agg (.cons (lr _) (.cons (Zd.forget _ _) .nil))))))))))))))
 refine ar (YD (k1==1) Zq (fun ZB=>?_) (fun ZB=>?_))
 ·refine aD 6 (ZL 3 6 [0,2,3] [2] (Z9 1 (dc 1 [0] [1] [b1] (Z5x rd bs (((p+1)+1)+1) (ZI:=ob)) ?_)))
  rintro _ _ ⟨dz1,p22,rfl,rfl,X9⟩
  have had:=X9
  exact Zk 1 2 [4] (Z9 5 (YM 5 1 [] [] b2 [ZW dz1,KC n.routines] (de (ZG (r3 [1] [.agg [ZW dz1,KC n.routines]] [0] [(b2,b2)] ⟨(Zi.mk dz1 n.routines),p22,rfl,rfl,(by first|exact ⟨hzn.le om om,by omega,by omega⟩|exact ⟨hzn.set hx1k om om om om ⟨hz1.2.2.2,hzn.rb _ (ZY hx1k)⟩,by omega,by omega⟩|exact ⟨(hzn.le om om).ds had.1,by omega,by omega⟩|exact ⟨hzn.set hx2k om om om (by have:=hsb.1.1;omega) hsb.1.2,by omega,by omega⟩)⟩ (lr _))))))
 refine ak (aD 12 (ZL 6 12 [0,1,2,3,4,5] [2,2] ?_))
 obtain ⟨x2,Zs⟩:=Zt n.routines X8 om
 have hx2k:=Zs
 have hz2:=hzn.rt _ (ZY Zs)
 refine dx 6 (Zh none (X8:Int) 5 (Wp Zs)) (Zk 3 5 [7,8] (Z9 9 (dc 9 [0] [1] [b1] (Z7l rd bs (((p+1)+1)+1) x2.body (ZI:=ob) (hg:=⟨hz2.2.2.2,hzn.rb _ (ZY hx2k)⟩)) ?_)))
 rintro _ _ ⟨y1,p23,rfl,rfl,XG⟩
 have hsb:=XG
 exact Z9 10 (Yt 10 [] [] [] (OM n X8 y1 x2 (hr:=Zs)) (Z9 11 (YM 11 1 [] [] b2 (YQ (withR n X8 x2 y1)) (de (ZG (r3 [1] [Yo (withR n X8 x2 y1)] [0] [(b2,b2)] ⟨(withR n X8 x2 y1),p23,rfl,rfl,(by first|exact ⟨hzn.le om om,by omega,by omega⟩|exact ⟨hzn.set hx1k om om om om ⟨hz1.2.2.2,hzn.rb _ (ZY hx1k)⟩,by omega,by omega⟩|exact ⟨(hzn.le om om).ds had.1,by omega,by omega⟩|exact ⟨hzn.set hx2k om om om (by have:=hsb.1.1;omega) hsb.1.2,by omega,by omega⟩)⟩ (lr _)))))))
theorem Z8t (n:Zi) (f:Int) (hz:Vm n:=by exact ob) (hV:X4 n=true:=by exact ob) (hf:0<=f/\f<n.routines.length:=by exact ob) (hr:∀r∈n.routines,r.body.rng):Zl 74 [Yo n,.i f] [] (Yq (.b (Un n f))):=by
 obtain ⟨f0,rfl⟩:∃f0:Nat,f=(f0:Int):=⟨f.toNat,by omega⟩
 obtain ⟨rt,hrt⟩:=Zt n.routines f0 om
 have hrm:=ZY hrt
 obtain ⟨hok,hall⟩:=BQ hz hV
 rw [Z2h hV om (by simpa using hrt)]
 have hsg:VX n=true:=by rw [X4,W6] at hV;exact hV.1
 exact Z8u n f0 rt (hn:=hok) (hty:=Lw hsg) (hlt:=R4 hsg) (hz:=hz) (hs:=hsg) (hr:=hrt) (ht:=hall rt hrm) (hrr:=hr rt hrm)
theorem IX (n:Zi) (f:Int) (hz:Vm n:=by exact ob) (hr:∀r∈n.routines,r.body.rng):Zl 33 [Yo n,.i f] [] (Yq (.b (Un n f))):=by
 have hzl:=hz.len
 refine ZF 23 Tryz.func33 (ar (iA (YQ n) fun b1=>Z0 (Zu 1 [0] (Zw [] (IY n (hr:=hr)) (Xz 6 [1,2] [(10,.b (X4 n&&(decide (f>=0))))] (fun gz=>gz) ?_ (fun hj1=>?_))))))
 ·refine Xz 13 [1,2] [(17,.b ((X4 n&&(decide (f>=0)))&&(decide (f<(n.routines.length:Int)))))] (fun gz=>gz) ?_ (fun hj2=>?_)
  ·refine Xz 18 [] [(22,.b (((X4 n&&(decide (f>=0)))&&(decide (f<(n.routines.length:Int))))&&(Un n f)))] (fun gz=>gz) ?_ (fun hj3=>?_)
   ·exact Zo (ZZ (.b (((X4 n&&(decide (f>=0)))&&(decide (f<(n.routines.length:Int))))&&(Un n f))) (lb (by cases hb:Un n f with|false=>simp|true=>(obtain ⟨h1,h2,r,h3,_⟩:=Fe hb;have h4:=(Xi.1 h3).1;simp [h1];omega))))
   refine Z1 1 (ib (b:=((X4 n&&(decide (f>=0)))&&(decide (f<(n.routines.length:Int))))) 18 (fun Zb=>?_) (fun Zb=>?_))
   ·have ZT:((X4 n=true)/\(f>=0))/\(f<(n.routines.length:Int)):=((YG (YG Iff.rfl dq) dq)).1 Zb
    exact ZK 2 [0] (Zw [] (Z8t n f (hV:=(by first|exact ZT.1|exact ZT.1.1)) (hr:=hr)) (Z1 1 (Yp (wk [0] (Zv (Un n f) Zb fl)) hj3)))
   have Yd:¬(((X4 n=true)/\(f>=0))/\(f<(n.routines.length:Int))):=Y7 (YG (YG Iff.rfl dq) dq) Zb
   exact Z1 4 (Yp (wk [0] (Zv false Zb fl)) hj3)
  refine Z1 1 (ib (b:=(X4 n&&(decide (f>=0)))) 11 (fun Zx=>?_) (fun Zx=>?_))
  ·have YE:(X4 n=true)/\(f>=0):=((YG Iff.rfl dq)).1 Zx
   exact ZK 3 [0] (iw (Up n.routines) (Z1 2 (Yp (wk [0] (Zv (decide (f<(n.routines.length:Int))) Zx fl)) hj2)))
  have YI:¬((X4 n=true)/\(f>=0)):=Y7 (YG Iff.rfl dq) Zx
  exact Z1 6 (Yp (wk [0] (Zv false Zx fl)) hj2)
 refine Z1 1 (ib (b:=X4 n) 7 (fun Yl=>?_) (fun Yl=>?_))
 ·have X9:X4 n=true:=(Iff.rfl).1 Yl
  exact Z1 3 (Yp (wk [0] (Zv (decide (f>=0)) Yl fl)) hj1)
 have XG:¬(X4 n=true):=Y7 Iff.rfl Yl
 exact Z1 3 (Yp (wk [0] (Zv false Yl fl)) hj1)
theorem PL (n:Zi) (f:Int) (k:Int) (hz:Vm n:=by exact ob):Zl 81 [Yo n,.i f,.i k] [] (fun r h=>(∃(c:Nat) (wa:Hd) (wb:Hd) (wc:Hd) (wd:Hd) (we:Hd) (wf:Hd) (L:Zr) (ln:LI),r=.tup [.p c 0,.b true]/\h=[.obj c [.h wa,.h wb,.h wc,.h wd,.h we,.h wf,Z4 ln],rV wa L.vars,rV wb L.own,rV wc L.par,rV wd L.con,rV we L.fst,rV wf L.tok]/\Vs n f k=some L/\ln=Gv n f)∨(r=.tup [.any,.b false]/\h=[]/\Vs n f k=none)):=by
 have hzl:=hz.len
 refine ZF 64 Tryz.func81 (ar (iA (YQ n) fun b1=>Z0 (Yk 1 [0] (Zw [] (SM n) (Xz 12 [1,2,3] [(21,.b ((!X4 n)||(!(decide (0<=f/\f<=((n.routines.length:Int)-1))))))] (fun gz=>gz) ?_ (fun hj1=>?_))))))
 ·refine Z1 1 (ib (b:=((!X4 n)||(!(decide (0<=f/\f<=((n.routines.length:Int)-1)))))) 22 (fun Zb=>?_) (fun Zb=>?_))
  ·have ZT:(¬(X4 n=true))∨(¬(0<=f/\f<=((n.routines.length:Int)-1))):=((Yi (Yj Iff.rfl) (Yj dq))).1 Zb
   exact Z0 (XM (ar (ZO 1 [(35,.agg [.sl [] none,.sl [] none,.sl [] none,.sl [] none,.sl [] none,.sl [] none,.sl [] none])] (iA [.sl [] none,.sl [] none,.sl [] none,.sl [] none,.sl [] none,.sl [] none,.sl [] none] fun b2=>Zo (r2 [] [.p b2 0,.b false] (.inr ⟨rfl,rfl,(by first|exact F9 ZT|exact B9 hrx Za|exact F8 hV hfr hrx om om (DT Zs Zj YI)|exact ⟨DS hV hfr hrx om om Zj,(Br hrx).symm⟩)⟩) (Zd.tup (.cons (Zd.any _) (.cons (lr _) .nil))))))))
  have Yd:¬((¬(X4 n=true))∨(¬(0<=f/\f<=((n.routines.length:Int)-1)))):=Y7 (Yi (Yj Iff.rfl) (Yj dq)) Zb
  refine ZK 4 [0] ?_
  obtain ⟨x1,Z3⟩:=Zt n.routines f.toNat om
  have hq0:¬((¬(X4 n=true))∨(¬(0<=f/\f<=(n.routines.length:Int)-1))):=by assumption
  have hV:X4 n=true:=A5 fun z=>hq0 (.inl z)
  have hfr:0<=f:=by omega
  obtain ⟨hok,hall⟩:=BQ hz hV
  have hrm:=ZY Z3
  have hbz:=hz.body _ hrm
  have ZI:=U6 (x1).body
  have hbe:=(x1).body.sz_eq
  have hpl:=hok.params_at Z3
  have hll:=hok.lent_at Z3
  have hrx:=Z3
  refine Zm (Zh none f 5 (Wp Z3)) (Z1 3 (iw (Vp x1.body.steps) (Zw [] (UZ k 0 (x1.body.steps.length:Int)) (YD (!(decide (0<=k/\k<=(x1.body.steps.length:Int)))) (p:=¬(0<=k/\k<=(x1.body.steps.length:Int))) (Yj dq) (fun Za=>?_) (fun Za=>?_)))))
  ·exact ar (ZO 1 [(35,.agg [.sl [] none,.sl [] none,.sl [] none,.sl [] none,.sl [] none,.sl [] none,.sl [] none])] (iA [.sl [] none,.sl [] none,.sl [] none,.sl [] none,.sl [] none,.sl [] none,.sl [] none] fun b3=>Zo (r2 [] [.p b3 0,.b false] (.inr ⟨rfl,rfl,(by first|exact F9 ZT|exact B9 hrx Za|exact F8 hV hfr hrx om om (DT Zs Zj YI)|exact ⟨DS hV hfr hrx om om Zj,(Br hrx).symm⟩)⟩) (Zd.tup (.cons (Zd.any _) (.cons (lr _) .nil))))))
  refine ak (Zu 3 [0] (Zm (Zh none f 5 (Wp Z3)) (Z1 1 (ic [] (SF x1) ?_))))
  rintro _ _ ⟨c1,wa1,wb1,wc1,wd1,we1,wf1,rfl,rfl⟩
  refine Z0 (Yc (ab 0 (Y5 (fun fz gz m F h=>∃(j:Nat) (L2:Zr) (ka:Hd) (kb:Hd) (kc:Hd) (kd:Hd) (ke:Hd) (kf:Hd),((j:Int)<=k)/\(U3 n x1 j=some L2)/\F=sF [1,2,3,8] fz [(9,.i j)]/\h=[.obj c1 [.h ka,.h kb,.h kc,.h kd,.h ke,.h kf,Z4 x1.lent],Zc gz 7,rV ka L2.vars,rV kb L2.own,rV kc L2.par,rV kd L2.con,rV ke L2.fst,rV kf L2.tok]/\m=k.toNat-j) _ _ _ ⟨0,(Va x1),wa1,wb1,wc1,wd1,we1,wf1,ob,(N1 _ _),rfl,rfl,rfl⟩ (wk [0,6,0,0,0,0,0,0] (Yf fl)) ?_)))
  rintro m F h ⟨j,L2,ka,kb,kc,kd,ke,kf,Yh,Zj,rfl,rfl,rfl⟩
  refine X2 (Y2 ((j:Int)<k) (fun Zf=>?_) (fun Zf=>?_))
  ·refine ak (aq (ab 1 (aD 14 (ZL 9 14 [0,1,2,3,4] [1,1] (dx 5 (Zh none f 5 (Wp Z3)) (Zk 4 8 [6,7,8,9] ?_))))))
   obtain ⟨x2,Zs⟩:=Zt x1.body.steps j om
   refine dx 10 (Zh none (j:Int) 5 (Wx Zs)) (Zk 2 3 [11] (Z9 12 (dc 12 [0,1,1,1,1,1,1] [] [] (PJ c1 ka kb kc kd ke kf n x2 L2 x1.lent (1+4*x1.body.sz:Nat) hok ob (JF hz hV hrx Zj).ok ((JF hz hV hrx Zj).ty _ Zs) (by have:=(JF hz hV hrx Zj).len;have:=KI Zs;omega) (by have:=KI Zs;omega)) ?_)))
   rintro _ _ (⟨wa2,wb2,wc2,wd2,we2,wf2,M'1,rfl,rfl,YE⟩|⟨rfl,rfl,YI⟩)
   ·exact Zk 0 1 [13] (de (W9 (ak (az (Z1 1 (ZJ j (Z0 (ZM ⟨j+1,M'1,wa2,wb2,wc2,wd2,we2,wf2,ob,(DT Zs Zj YE),rfl,rfl,rfl⟩ (wk [0,6,0,0,0,0,0,0] (ZP j fl))))))))))
   exact Zk 0 1 [13] (de (XM (ar (Zo (r2 [] [.p c1 0,.b false] (.inr ⟨rfl,rfl,(by first|exact F9 ZT|exact B9 hrx Za|exact F8 hV hfr hrx om om (DT Zs Zj YI)|exact ⟨DS hV hfr hrx om om Zj,(Br hrx).symm⟩)⟩) (Zd.tup (.cons (Zd.any _) (.cons (lr _) .nil))))))))
  exact ax 0 (ar (Zo (r2 [0,1,1,1,1,1,1] [.p c1 0,.b true] (.inl ⟨c1,ka,kb,kc,kd,ke,kf,L2,_,rfl,rfl,(by first|exact F9 ZT|exact B9 hrx Za|exact F8 hV hfr hrx om om (DT Zs Zj YI)|exact ⟨DS hV hfr hrx om om Zj,(Br hrx).symm⟩)⟩) (lr _))))
 refine Z1 2 (ib (b:=(!X4 n)) 13 (fun Zx=>?_) (fun Zx=>?_))
 ·have X9:¬(X4 n=true):=((Yj Iff.rfl)).1 Zx
  exact Z1 8 (Yp (wk [0] (fc (x:=.b true) (lb (by rw [Zx];rfl)) fl)) hj1)
 have XG:¬(¬(X4 n=true)):=Y7 (Yj Iff.rfl) Zx
 exact ZK 3 [0] (iw (Up n.routines) (ia (((n.routines.length:Int)-1)) (((n.routines.length:Int))-(1)) (Zw [] (UZ f 0 ((n.routines.length:Int)-1)) (Z1 2 (Yp (wk [0] (fc (x:=.b (!(decide (0<=f/\f<=((n.routines.length:Int)-1))))) (lb (by rw [Zx];rfl)) fl)) hj1)))))
theorem Z2l (n:Zi) (f:Int) (rt:Yb) (hz:Vm n:=by exact ob) (hV:X4 n=true:=by exact ob) (hf:0<=f:=by exact ob) (hr:n.routines[f.toNat]? = some rt:=by exact ob):Zl 120 [Yo n,.i f] [] (fun r h=>∃(c:Nat) (wa:Hd) (wb:Hd) (wc:Hd),r=.p c 0/\h=[.obj c [ZW n.decls,YW n,Z4 rt.lent,Xf [],.h wa,.h wb,.h wc],rV wa ((Va rt).vars),rV wb ((Va rt).own),rV wc ((Va rt).tok)]):=by
 obtain ⟨f0,rfl⟩:∃f0:Nat,f=(f0:Int):=⟨f.toNat,by omega⟩
 exact Nt n f0 rt (hn:=(BQ hz hV).1) (hz:=hz) (hs:=by rw [X4,W6] at hV;exact hV.1) (hr:=by simpa using hr)
theorem Nv (n:Zi) (f:Int) (k:Int) (hz:Vm n:=by exact ob) (hr:∀r∈n.routines,r.body.rng):Zl 80 [Yo n,.i f,.i k] [] (fun r h=>(∃(c:Nat) (wa:Hd) (wb:Hd) (wc:Hd) (L:V4) (ln:LI),r=.p c 0/\h=[.obj c [ZW n.decls,YW n,Z4 ln,Xf [],.h wa,.h wb,.h wc],rV wa L.vars,rV wb L.own,rV wc L.tok]/\Vs n f k=some L/\ln=Gv n f)∨(r=.val (.pointer none)/\h=[]/\Vs n f k=none)):=by
 have hzl:=hz.len
 refine ZF 54 Tryz.func80 (ar (iA (YQ n) fun b1=>Z0 (Yk 1 [0] (Zw [] (IY n (hr:=hr)) (Xz 7 [1,2,3] [(14,.b ((!X4 n)||(decide (f<0))))] (fun gz=>gz) ?_ (fun hj1=>?_))))))
 ·refine Xz 14 [1,2,3] [(21,.b (((!X4 n)||(decide (f<0)))||(decide (f>=(n.routines.length:Int)))))] (fun gz=>gz) ?_ (fun hj2=>?_)
  ·refine Xz 18 [1,2,3] [(25,.b ((((!X4 n)||(decide (f<0)))||(decide (f>=(n.routines.length:Int))))||(decide (k<0))))] (fun gz=>gz) ?_ (fun hj3=>?_)
   ·refine Z1 1 (ib (b:=((((!X4 n)||(decide (f<0)))||(decide (f>=(n.routines.length:Int))))||(decide (k<0)))) 26 (fun Zb=>?_) (fun Zb=>?_))
    ·have ZT:(((¬(X4 n=true))∨(f<0))∨(f>=(n.routines.length:Int)))∨(k<0):=((Yi (Yi (Yi (Yj Iff.rfl) dq) dq) dq)).1 Zb
     exact Z0 (XM (ar (Zo (r1 [] (.inr ⟨rfl,rfl,(by first|exact Fa ZT|exact B9 hrx om|exact Ba hV hfr hrx om YI|exact ⟨Ba hV hfr hrx om YE,(Br hrx).symm⟩)⟩)))))
    have Yd:¬((((¬(X4 n=true))∨(f<0))∨(f>=(n.routines.length:Int)))∨(k<0)):=Y7 (Yi (Yi (Yi (Yj Iff.rfl) dq) dq) dq) Zb
    refine ZK 4 [0] ?_
    obtain ⟨x1,Z3⟩:=Zt n.routines f.toNat om
    have hV:X4 n=true:=A5 fun z=>Yd (.inl (.inl (.inl z)))
    have hfr:0<=f:=by omega
    obtain ⟨hok,hall⟩:=BQ hz hV
    have hrm:=ZY Z3
    have hbz:=hz.body _ hrm
    have hbe:=(x1).body.sz_eq
    have hpl:=hok.params_at Z3
    have hll:=hok.lent_at Z3
    have hrx:=Z3
    have hsg:VX n=true:=by rw [X4,W6] at hV;exact hV.1
    have hty:=Lw hsg
    have hlt:=R4 hsg
    obtain ⟨hk,hkv⟩:=Eu n.decls x1
    obtain ⟨vs,hvs,_⟩:=MG (k:=k.toNat) (hall _ hrm)
    have hrr:UM (x1).body.steps:=by have:=hr _ hrm;rw [(x1).body.rng_eq] at this;exact this
    have hst:=QF (x1).body.steps k.toNat
    refine Zm (Zh none f 5 (Wp Z3)) (Z1 3 (iw (Vp x1.body.steps) (Y2 (k>(x1.body.steps.length:Int)) (fun Za=>?_) (fun Za=>?_))))
    ·exact ar (Zo (r1 [] (.inr ⟨rfl,rfl,(by first|exact Fa ZT|exact B9 hrx om|exact Ba hV hfr hrx om YI|exact ⟨Ba hV hfr hrx om YE,(Br hrx).symm⟩)⟩)))
    refine ak (Zu 2 [0] (ic [] (Z2l n f x1 (hV:=hV) (hf:=hfr) (hr:=hrx)) ?_))
    rintro _ _ ⟨c1,wa1,wb1,wc1,rfl,rfl⟩
    refine Z0 (Yk 4 [4] (Zm (Zh none f 5 (Wp Z3)) (Z1 4 (Zm (Ja (es:=ZA x1.body.steps) (hv:=none) (l:=0) (m:=k) (sz:=5) (es':=ZA (x1.body.steps.take k.toNat)) kr om om (by simp<;>omega) (Xq _) (by first|(simp only [U7,VF,KX,KW];done)|(simp only [U7,VF,KX,KW];rfl)|(simp [KX,KW];done))) (ic [0,0,0,0] (Nu c1 wa1 wb1 wc1 n (Va x1) x1.lent [] (x1.body.steps.take k.toNat) 1 vs hok hty hlt ob hk (Ls x1) (by rw [hkv];exact hvs) (by rw [hkv];exact hty.params x1 hrm) (by rw [hkv,Xv];omega) om (Zf4 _ hrr)) ?_)))))
    rintro _ _ (⟨wa2,wb2,wc2,M'1,rfl,rfl,YE⟩|⟨rfl,rfl,YI⟩)
    ·exact Z0 (W9 (ak (ar (Zo (r1 [0,0,0,0] (.inl ⟨c1,wa2,wb2,wc2,M'1,x1.lent,rfl,rfl,(by first|exact Fa ZT|exact B9 hrx om|exact Ba hV hfr hrx om YI|exact ⟨Ba hV hfr hrx om YE,(Br hrx).symm⟩)⟩))))))
    exact Z0 (XM (ar (Zo (r1 [] (.inr ⟨rfl,rfl,(by first|exact Fa ZT|exact B9 hrx om|exact Ba hV hfr hrx om YI|exact ⟨Ba hV hfr hrx om YE,(Br hrx).symm⟩)⟩)))))
   refine Z1 1 (ib (b:=(((!X4 n)||(decide (f<0)))||(decide (f>=(n.routines.length:Int))))) 22 (fun Zx=>?_) (fun Zx=>?_))
   ·have X9:((¬(X4 n=true))∨(f<0))∨(f>=(n.routines.length:Int)):=((Yi (Yi (Yj Iff.rfl) dq) dq)).1 Zx
    exact Z1 3 (Yp (wk [0] (fc (x:=.b true) (lb (by rw [Zx];rfl)) fl)) hj3)
   have XG:¬(((¬(X4 n=true))∨(f<0))∨(f>=(n.routines.length:Int))):=Y7 (Yi (Yi (Yj Iff.rfl) dq) dq) Zx
   exact Z1 3 (Yp (wk [0] (fc (x:=.b (decide (k<0))) (lb (by rw [Zx];rfl)) fl)) hj3)
  refine Z1 1 (ib (b:=((!X4 n)||(decide (f<0)))) 15 (fun Yl=>?_) (fun Yl=>?_))
  ·have XY:(¬(X4 n=true))∨(f<0):=((Yi (Yj Iff.rfl) dq)).1 Yl
   exact Z1 6 (Yp (wk [0] (fc (x:=.b true) (lb (by rw [Yl];rfl)) fl)) hj2)
  have WQ:¬((¬(X4 n=true))∨(f<0)):=Y7 (Yi (Yj Iff.rfl) dq) Yl
  exact ZK 3 [0] (iw (Up n.routines) (Z1 2 (Yp (wk [0] (fc (x:=.b (decide (f>=(n.routines.length:Int)))) (lb (by rw [Yl];rfl)) fl)) hj2)))
 refine Z1 2 (ib (b:=(!X4 n)) 11 (fun Xk=>?_) (fun Xk=>?_))
 ·have V8:¬(X4 n=true):=((Yj Iff.rfl)).1 Xk
  exact Z1 3 (Yp (wk [0] (fc (x:=.b true) (lb (by rw [Xk];rfl)) fl)) hj1)
 have Uy:¬(¬(X4 n=true)):=Y7 (Yj Iff.rfl) Xk
 exact Z1 3 (Yp (wk [0] (fc (x:=.b (decide (f<0))) (lb (by rw [Xk];rfl)) fl)) hj1)
theorem H7 (n:Zi) (f:Int) (k:Int) (hz:Vm n:=by exact ob):Zl 37 [Yo n,.i f,.i k] [] (fun r h=>∃(v:Value),r=ZQ (YA n f k) v/\h=[.tail v 1]):=by
 refine ZF 23 Tryz.func37 (ar (iA (YQ n) fun b1=>Z0 (Zu 3 [0] (ic [] (PL n f k) ?_))))
 rintro _ _ (⟨c1,wa1,wb1,wc1,wd1,we1,wf1,L1,ln1,rfl,rfl,ZT⟩|⟨rfl,rfl,Yd⟩)
 ·obtain ⟨ha,hln⟩:=ZT
  obtain ⟨⟨e1,e2,e3,e4,e5⟩,hlv⟩:=DR hz ha
  refine Z0 (Yc (W9 (ak (Zu 4 [0] (OY [2] [rV wb1 L1.own] (Uh L1.own) NI (gL (v:=wb1) 0 gN) (U5 UH) ?_)))))
  rintro _ _ ⟨v1,rfl,rfl⟩
  exact Zo (r2 [0] [ZQ L1.own v1] ⟨v1,rfl,rfl⟩ (Zd.slh _ (Yr Z6 (by first|rw [AN ha]|(rw [Cu ha];rfl)))))
 have ha:=Yd
 exact Z0 (Yc (XM (ZD (QL 1 (ZG (r2 [0] [nl] ⟨(.slice none 0 0),rfl,rfl⟩ (Zd.slh _ (by first|rw [AN ha]|(rw [Cu ha];rfl)))))))))
theorem El (n:Zi) (f:Int) (k:Int) (hz:Vm n:=by exact ob) (hr:∀r∈n.routines,r.body.rng):Zl 35 [Yo n,.i f,.i k] [] (fun r h=>∃(v:Value),r=ZQ (YA n f k) v/\h=[.tail v 1]):=by
 refine ZF 18 Tryz.func35 (ar (iA (YQ n) fun b1=>Z0 (Zu 3 [0] (ic [] (Nv n f k (hr:=hr)) ?_))))
 rintro _ _ (⟨c1,wa1,wb1,wc1,L1,ln1,rfl,rfl,ZT⟩|⟨rfl,rfl,Yd⟩)
 ·obtain ⟨ha,hln⟩:=ZT
  obtain ⟨⟨e1,e2,e3,e4,e5⟩,hlv⟩:=DR hz ha
  exact Z0 (YC 1 (iQ false (ie (W9 (ak (JS [0] (CJ 6 2 (v:=wb1) (xs:=L1.own) (ZG (r2 [0] [ZQ L1.own wb1.v] ⟨wb1.v,rfl,rfl⟩ (Zd.slh _ (Yr Z6 (by first|rw [AN ha]|(rw [Cu ha];rfl)))))))))))))
 have ha:=Yd
 exact Z0 (YC 1 (iQ true (ie (XM (ZD (QL 1 (ZG (r2 [0] [nl] ⟨(.slice none 0 0),rfl,rfl⟩ (Zd.slh _ (by first|rw [AN ha]|(rw [Cu ha];rfl)))))))))))
theorem DB (n:Zi) (f:Int) (k:Int) (hz:Vm n:=by exact ob):Zl 40 [Yo n,.i f,.i k] [] (fun r h=>∃(v:Value),r=ZQ (YO n f k) v/\h=[.tail v 1]):=by
 refine ZF 23 Tryz.func40 (ar (iA (YQ n) fun b1=>Z0 (Zu 3 [0] (ic [] (PL n f k) ?_))))
 rintro _ _ (⟨c1,wa1,wb1,wc1,wd1,we1,wf1,L1,ln1,rfl,rfl,ZT⟩|⟨rfl,rfl,Yd⟩)
 ·obtain ⟨ha,hln⟩:=ZT
  obtain ⟨⟨e1,e2,e3,e4,e5⟩,hlv⟩:=DR hz ha
  refine Z0 (Yc (W9 (ak (Zu 4 [0] (OY [6] [rV wf1 L1.tok] (Uh L1.tok) NI (gL (v:=wf1) 0 gN) (U5 UH) ?_)))))
  rintro _ _ ⟨v1,rfl,rfl⟩
  exact Zo (r2 [0] [ZQ L1.tok v1] ⟨v1,rfl,rfl⟩ (Zd.slh _ (Yr Z6 (by first|rw [BP ha]|(rw [DG ha];rfl)))))
 have ha:=Yd
 exact Z0 (Yc (XM (ZD (QL 1 (ZG (r2 [0] [nl] ⟨(.slice none 0 0),rfl,rfl⟩ (Zd.slh _ (by first|rw [BP ha]|(rw [DG ha];rfl)))))))))
theorem Ek (n:Zi) (f:Int) (k:Int) (hz:Vm n:=by exact ob) (hr:∀r∈n.routines,r.body.rng):Zl 39 [Yo n,.i f,.i k] [] (fun r h=>∃(v:Value),r=ZQ (YO n f k) v/\h=[.tail v 1]):=by
 refine ZF 18 Tryz.func39 (ar (iA (YQ n) fun b1=>Z0 (Zu 3 [0] (ic [] (Nv n f k (hr:=hr)) ?_))))
 rintro _ _ (⟨c1,wa1,wb1,wc1,L1,ln1,rfl,rfl,ZT⟩|⟨rfl,rfl,Yd⟩)
 ·obtain ⟨ha,hln⟩:=ZT
  obtain ⟨⟨e1,e2,e3,e4,e5⟩,hlv⟩:=DR hz ha
  exact Z0 (YC 1 (iQ false (ie (W9 (ak (JS [0] (CJ 6 3 (v:=wc1) (xs:=L1.tok) (ZG (r2 [0] [ZQ L1.tok wc1.v] ⟨wc1.v,rfl,rfl⟩ (Zd.slh _ (Yr Z6 (by first|rw [BP ha]|(rw [DG ha];rfl)))))))))))))
 have ha:=Yd
 exact Z0 (YC 1 (iQ true (ie (XM (ZD (QL 1 (ZG (r2 [0] [nl] ⟨(.slice none 0 0),rfl,rfl⟩ (Zd.slh _ (by first|rw [BP ha]|(rw [DG ha];rfl)))))))))))
theorem JW (xs:LI) (ys:LI) (hxl:xs.length<=1000000000:=by exact ob) (hyl:ys.length<=1000000000:=by exact ob):Zl 36 [Z4 xs,Z4 ys] [] (Yq (.b (decide (xs=ys)))):=by
 refine ZF 26 Tryz.func36 (ZD (YC 1 (iw (Y6 xs) (Z1 1 (iw (Y6 ys) (YD ((xs.length:Int) != (ys.length:Int)) Ym (fun Za=>?_) (fun Za=>?_)))))))
 ·exact ar (Zo (ZZ (.b false) (lb (decide_eq_false (fun z=>Za (by rw [z]))).symm)))
 refine ak (Yc (ab 0 (Y5 (fun fz gz m F h=>∃(k:Nat),(k<=xs.length)/\(∀i,i<k->xs[i]? = ys[i]?)/\F=sF [0,1] fz [(5,.i k)]/\h=gz/\m=xs.length-k) _ _ _ ⟨0,ob,(fun i h=>absurd h om),rfl,rfl,rfl⟩ (wk [] (Yf fl)) ?_)))
 rintro m F h ⟨k,Yh,Zj,rfl,rfl,rfl⟩
 refine YC 2 (iw (Y6 xs) (Y2 ((k:Int)<(xs.length:Int)) (fun Zf=>?_) (fun Zf=>?_)))
 ·refine ak (aq (ab 1 (aD 9 (Zk 7 9 [0,1] ?_))))
  obtain ⟨x1,Z3⟩:=Zt xs k om
  refine dx 2 (Zh none (k:Int) 1 (Y0 Z3)) (Zk 3 6 [3,4,5] ?_)
  obtain ⟨x2,Zs⟩:=Zt ys k om
  refine dx 6 (Zh none (k:Int) 1 (Y0 Zs)) (Zk 0 2 [7,8] (de (ac (x1 != x2) Ym (fun ZB=>?_) (fun ZB=>?_))))
  ·exact ar (Zo (ZZ (.b false) (lb (decide_eq_false (fun z=>ZB (by rw [z,Zs] at Z3;cases Z3;rfl))).symm)))
  exact ak (az (Z1 1 (ZJ k (Z0 (ZM ⟨k+1,ob,(fun i h=>(Nat.lt_succ_iff_lt_or_eq.1 h).elim (Zj i) (fun z=>by rw [z,Z3,Zs,Vr.1 ZB])),rfl,rfl,rfl⟩ (wk [] (ZP k fl)))))))
 exact ax 0 (ar (Zo (ZZ (.b true) (lb (decide_eq_true (Z5b om (fun i hi=>Zj i om))).symm))))
theorem Zac (xs:LI) (n:Int) (hl:xs.length<=1000000000:=by exact ob):Zl 23 [Z4 xs,.i n] [] (Yq (.b (decide (n∈xs)))):=by
 refine ZF 18 Tryz.func23 (ZD (Yc (ab 0 (Y5 (fun fz gz m F h=>∃(k:Nat),(k<=xs.length)/\(n∉xs.take k)/\F=sF [0,1] fz [(5,.i k)]/\h=gz/\m=xs.length-k) _ _ _ ⟨0,ob,(by simp),rfl,rfl,rfl⟩ (wk [] (Yf fl)) ?_))))
 rintro m F h ⟨k,Yh,Zj,rfl,rfl,rfl⟩
 refine YC 2 (iw (Y6 xs) (Y2 ((k:Int)<(xs.length:Int)) (fun Za=>?_) (fun Za=>?_)))
 ·refine ak (aq (ab 1 (Y4 2 ?_)))
  obtain ⟨x1,Z3⟩:=Zt xs k om
  refine Zm (Zh none (k:Int) 1 (Y0 Z3)) (YD (x1==n) Zq (fun Zf=>?_) (fun Zf=>?_))
  ·exact ar (Zo (ZZ (.b true) (lb (by rw [eq_comm,dq];have:=Zf;subst this;exact ZY Z3))))
  exact ak (az (Z1 1 (ZJ k (Z0 (ZM ⟨k+1,ob,(Zb7 Z3 Zj Zf),rfl,rfl,rfl⟩ (wk [] (ZP k fl)))))))
 exact ax 0 (ar (Zo (ZZ (.b false) (lb (by rw [eq_comm,decide_eq_false_iff_not];rwa [Vd om] at Zj)))))
theorem PG (xs:LI) (hl:xs.length<=1000000000:=by exact ob) (hx:∀x∈xs,0<=x/\x<=1000000000):Zl 41 [Z4 xs] [] (Yq (.i (TA xs))):=by
 refine ZF 18 Tryz.func41 (ZD (ZD (Yc (ab 0 (Y5 (fun fz gz m F h=>∃(k:Nat) (z:Int),(k<=xs.length)/\(z+TA (xs.drop k)=TA xs)/\(0<=z/\z<=1000000000*k)/\F=sF [0] fz [(3,.i z),(4,.i k)]/\h=gz/\m=xs.length-k) _ _ _ ⟨0,0,ob,(by rw [Qs];omega),ob,rfl,rfl,rfl⟩ (wk [] (fr (Yf fl))) ?_)))))
 rintro m F h ⟨k,z,Yh,Zj,Zy,rfl,rfl,rfl⟩
 refine YC 2 (iw (Y6 xs) (Y2 ((k:Int)<(xs.length:Int)) (fun Za=>?_) (fun Za=>?_)))
 ·refine ak (aq (ab 1 (az (Z1 3 ?_))))
  obtain ⟨x1,Z3⟩:=Zt xs k om
  have hxb:=hx _ (ZY Z3)
  exact Zm (Zh none (k:Int) 1 (Y0 Z3)) (Z1 1 (ia ((z+x1)) ((z)+(x1)) (Z0 (az (Z1 1 (ZJ k (Z0 (ZM ⟨k+1,(z+x1),ob,(by rw [Ya Z3,TA] at Zj;omega),ob,rfl,rfl,rfl⟩ (wk [] (fr (ZP k fl)))))))))))
 exact ax 0 (ar (Zo (ZZ (.i z) (li (by rw [Xn om,TA] at Zj;omega)))))
theorem Z5w (rd:Nat) (bs:LI) (p:Nat) (ZI:∀z∈bs,0<=z/\z<=255) (hp:p+147500000<=1000000000:=by exact ob):Zl 78 [.p rd 0] [Yy rd bs p] (fun r h=>∃(n2:Zi) (p2:Nat),r=Yo n2/\h=[Yy rd bs p2]/\ZS n2 7330632 11/\p<=p2/\p2<=p+147500000):=by
 refine ZF 7 Tryz.func78 (ar (iA [nl,nl] fun b1=>ie (Y4 2 (ic [1] (Z5z rd bs p (ZI:=ob)) ?_))))
 rintro _ _ ⟨n1,p21,rfl,rfl,ZT⟩
 have hbf:=ZT.1.zs
 refine ic [0] (Z7o rd bs p21 n1 14 7330630 10 (ZI:=ob) (hzn:=hbf)) ?_
 rintro _ _ ⟨n21,p22,rfl,rfl,Yd⟩
 have hsf:=Yd
 exact ZH 1 b1 (YQ n21) (ie (ZG (r3 [1] [Yo n21] [0] [(b1,b1)] ⟨n21,p22,rfl,rfl,⟨hsf.1,by omega,by omega⟩⟩ (lr _))))
theorem II (code:LI) (hcl:code.length<=1048576:=by exact ob) (hcb:∀z∈code,0<=z/\z<=255):Zl 34 [VA code] [] (fun r h=>∃(n2:Zi) (zf:Int) (zk:Int),r=.tup [Yo n2,.i zf,.i zk]/\h=[]/\ZS n2 7330632 11/\(-1<=zf/\zf<=1000000000)/\(-1<=zk/\zk<=1000000000)):=by
 refine ZF 48 Tryz.func34 (ar (iA [nl,nl] fun b1=>Z0 (Y4 1 (ic [] (Z75 code (hc:=hcb)) ?_))))
 rintro _ _ ⟨rd1,bs1,rfl,rfl,ZT⟩
 have hnr:=ZT
 refine Z0 (Y4 1 (ic [0] (Z5w rd1 bs1 0 (ZI:=hnr)) ?_))
 rintro _ _ ⟨n21,p21,rfl,rfl,Yd⟩
 have hab:=Yd
 have hal:=hab.1.len
 refine iA [nl,nl] fun b2=>ZH 0 b2 (YQ n21) (ie (Zu 3 [0] (iw (Up n21.routines) (ic [1] (W7 rd1 bs1 p21 (n21.routines.length:Int) (ZI:=hnr)) ?_))))
 rintro _ _ ⟨k1,rfl,rfl,YE⟩
 have hk:=YE.lt om
 refine Z0 (Zu 3 [1] ?_)
 obtain ⟨x1,Z3⟩:=Zt n21.routines k1.toNat om
 have hz1:=hab.1.rt _ (ZY Z3)
 have hzl:=Gt (x1).body
 have hze:=(x1).body.sz_eq
 refine Zm (Zh none k1 5 (Wp Z3)) (Z1 3 (iw (Vp x1.body.steps) (Z0 (aD 25 (ZL 16 25 [0,1,2,3,4,5,8,9,10] [1] (da 11 (((x1.body.steps.length+1:Nat):Int)) (((x1.body.steps.length:Int))+(1)) (Zk 13 15 [13,14] (da 15 (((x1.body.steps.length+1:Nat):Int)) (((x1.body.steps.length:Int))+(1)) (Zk 10 12 [17,18] (da 19 (((x1.body.steps.length+1:Nat):Int)) (((x1.body.steps.length:Int))+(1)) (Z9 6 (dL 6 [1] [b2] (Z6 [k1,k1,k1,k1,-1,4]) 6 1 fun v1=>Yv 8 8 [] [(32,Z4 [k1,k1,k1,k1,-1,4])] (Z9 7 (dc 7 [1] [0] [b2] (VV rd1 bs1 (p21+1) [k1,k1,k1,k1,-1,4] (ZI:=hnr)) ?_))))))))))))))
 rintro _ _ ⟨z1,rfl,rfl,YI⟩
 have hon:=YI
 simp only [YF,List.not_mem_nil,or_false] at hon
 refine Z9 12 (dc 12 [0] [0] [b2] (W7 rd1 bs1 ((p21+1)+1) ((x1.body.steps.length+1:Nat):Int) (ZI:=hnr)) ?_)
 rintro _ _ ⟨k2,rfl,rfl,X9⟩
 have hk:=X9.lt om
 refine Z9 16 (dc 16 [0] [0] [b2] (W7 rd1 bs1 (((p21+1)+1)+1) ((x1.body.steps.length+1:Nat):Int) (ZI:=hnr)) ?_)
 rintro _ _ ⟨k3,rfl,rfl,XG⟩
 have hk:=XG.lt om
 refine Z9 20 (dL 20 [1] [b2] (Z6 [k2,k3,(x1.body.steps.length:Int),0,((x1.body.steps.length+1:Nat):Int),-1]) 6 1 fun v2=>Yv 4 4 [] [(46,Z4 [k2,k3,(x1.body.steps.length:Int),0,((x1.body.steps.length+1:Nat):Int),-1])] (Z9 21 (dc 21 [1] [0] [b2] (VV rd1 bs1 ((((p21+1)+1)+1)+1) [k2,k3,(x1.body.steps.length:Int),0,((x1.body.steps.length+1:Nat):Int),-1] (ZI:=hnr)) ?_)))
 rintro _ _ ⟨z2,rfl,rfl,XY⟩
 have hon:=XY
 simp only [YF,List.not_mem_nil,or_false] at hon
 exact Z9 22 (YM 22 4 [] [] b1 (YQ n21) (Zk 0 2 [23,24] (de (ZG (r3 [] [Yo n21,.i z1,.i z2] [0] [(b1,b1)] ⟨n21,z1,z2,rfl,rfl,⟨hab.1,by omega,by omega⟩⟩ (lr _))))))
theorem IH (code:LI) (hcl:code.length<=1048576:=by exact ob) (hcb:∀z∈code,0<=z/\z<=255):Zl 38 [VA code] [] (fun r h=>∃(n2:Zi) (zf:Int) (zk:Int),r=.tup [Yo n2,.i zf,.i zk]/\h=[]/\ZS n2 7330632 11/\(-1<=zf/\zf<=1000000000)/\(-1<=zk/\zk<=1000000000)):=by
 refine ZF 10 Tryz.func38 (ar (iA [nl,nl] fun b1=>Z0 (Y4 1 (ic [] (II code (hcl:=hcl) (hcb:=hcb)) ?_))))
 rintro _ _ ⟨n21,zf1,zk1,rfl,rfl,ZT⟩
 exact Z1 3 (ZH 0 b1 (YQ n21) (Zo (r3 [] [Yo n21,.i zf1,.i zk1] [0] [(b1,b1)] ⟨n21,zf1,zk1,rfl,rfl,ob⟩ (lr _))))
theorem Zaa (code:LI) (hcb:∀z∈code,0<=z/\z<=255):Zl 8 [VA code] [] (Yq (.b true)):=by
 refine ZF 99 Tryz.func8 (ZD (YC 1 (iw (Qf code) (Y2 ((code.length:Int)>1048576) (fun Za=>?_) (fun Za=>?_)))))
 ·exact ar (Zo (A3))
 have hcl:code.length<=1048576:=by omega
 refine ak (Y4 1 (ic [] (II code (hcl:=hcl) (hcb:=hcb)) ?_))
 rintro _ _ ⟨n21,zf1,zk1,rfl,rfl,ZT⟩
 obtain ⟨hzs,⟨hf1,hf2⟩,hk1,hk2⟩:=ZT
 have hzn:=hzs.sz om om
 have hln:=hzs.len
 have hol:=VO hzn zf1 zk1
 have htl:=VZ hzn zf1 zk1
 refine Z1 4 (iA [nl,nl] fun b1=>ZH 0 b1 (YQ n21) (Z0 (Zu 3 [0] (ic [] (El n21 zf1 zk1 (hr:=(fun r hr=>(hzs.rt r hr).2.2.2))) ?_))))
 rintro _ _ ⟨v1,rfl,rfl⟩
 refine Z0 (Yk 4 [1] (ic [] (H7 n21 zf1 zk1) ?_))
 rintro _ _ ⟨v2,rfl,rfl⟩
 refine ZO 0 [(24,Z4 (YA n21 zf1 zk1)),(28,Z4 (YA n21 zf1 zk1))] (Zw [] (JW (YA n21 zf1 zk1) (YA n21 zf1 zk1) (hxl:=(by have h1:=VO hzn zf1 zk1;have h2:=VZ hzn zf1 zk1;omega)) (hyl:=(by have h1:=VO hzn zf1 zk1;have h2:=VZ hzn zf1 zk1;omega))) (Xz 11 [3,4,5,6] [(34,.b ((!(decide ((YA n21 zf1 zk1)=(YA n21 zf1 zk1))))||(decide (zf1<0))))] (fun gz=>gz) ?_ (fun hj1=>?_)))
 ·refine Xz 18 [3,4,5,6] [(41,.b (((!(decide ((YA n21 zf1 zk1)=(YA n21 zf1 zk1))))||(decide (zf1<0)))||(decide (zf1>=(n21.routines.length:Int)))))] (fun gz=>gz) ?_ (fun hj2=>?_)
  ·refine Xj [3,4,5,6] [(46,.b ((((!(decide ((YA n21 zf1 zk1)=(YA n21 zf1 zk1))))||(decide (zf1<0)))||(decide (zf1>=(n21.routines.length:Int))))||(!X4 n21)))] (fun gz=>gz) ?_ ?_
   ·refine Z1 1 (ib (b:=(((!(decide ((YA n21 zf1 zk1)=(YA n21 zf1 zk1))))||(decide (zf1<0)))||(decide (zf1>=(n21.routines.length:Int))))) 42 (fun Zb=>?_) (fun Zb=>?_))
    ·have Yd:((¬((YA n21 zf1 zk1)=(YA n21 zf1 zk1)))∨(zf1<0))∨(zf1>=(n21.routines.length:Int)):=((Yi (Yi (Yj dq) dq) dq)).1 Zb
     exact Z0 (ZE 3 (fc (x:=.b true) (lb (by rw [Zb];rfl)) fl))
    have YE:¬(((¬((YA n21 zf1 zk1)=(YA n21 zf1 zk1)))∨(zf1<0))∨(zf1>=(n21.routines.length:Int))):=Y7 (Yi (Yi (Yj dq) dq) dq) Zb
    exact ZK 1 [2] (Zw [] (IY n21 (hr:=(fun r hr=>(hzs.rt r hr).2.2.2))) (Z0 (ZE 3 (fc (x:=.b (!X4 n21)) (lb (by rw [Zb];rfl)) fl))))
   refine ac ((((!(decide ((YA n21 zf1 zk1)=(YA n21 zf1 zk1))))||(decide (zf1<0)))||(decide (zf1>=(n21.routines.length:Int))))||(!X4 n21)) (p:=(((¬((YA n21 zf1 zk1)=(YA n21 zf1 zk1)))∨(zf1<0))∨(zf1>=(n21.routines.length:Int)))∨(¬(X4 n21=true))) (Yi (Yi (Yi (Yj dq) dq) dq) (Yj Iff.rfl)) (fun Zf=>?_) (fun Zf=>?_)
   ·refine Zu 4 [2] (ic [] (H7 n21 zf1 zk1) ?_)
    rintro _ _ ⟨v3,rfl,rfl⟩
    exact ZO 0 [(47,Z4 (YA n21 zf1 zk1)),(51,Z4 (YA n21 zf1 zk1))] (Zw [] (JW (YA n21 zf1 zk1) (YA n21 zf1 zk1) (hxl:=(by have h1:=VO hzn zf1 zk1;have h2:=VZ hzn zf1 zk1;omega)) (hyl:=(by have h1:=VO hzn zf1 zk1;have h2:=VZ hzn zf1 zk1;omega))) (Zo (ZZ (.b (decide ((YA n21 zf1 zk1)=(YA n21 zf1 zk1)))) (lb (by first|(simp;done)|(rw [hoz];simp)|(exfalso;omega)|(exfalso;have hq:=WB ((hal j _ Zs).symm.trans YJ);first|(rw [Ze ZV] at hq;omega)|(rw [Z8 ZV] at hq;omega))|(exfalso;have hq:=WB ((hal j _ Zs).symm.trans WK);first|(rw [Ze ZV] at hq;omega)|(rw [Z8 ZV] at hq;omega)))))))
   have hV:X4 n21=true:=A5 fun z=>Zf (.inr z)
   have hol0:=VO hzn zf1 0
   refine ak (Zu 2 [2] (ic [] (El n21 zf1 0 (hr:=(fun r hr=>(hzs.rt r hr).2.2.2))) ?_))
   rintro _ _ ⟨v4,rfl,rfl⟩
   refine Z0 (Zu 3 [3] ?_)
   obtain ⟨x1,Z3⟩:=Zt n21.routines zf1.toNat om
   have hrm:=ZY Z3
   have hpl:=hzn.params _ hrm
   have hlt:=hzn.lent _ hrm
   obtain ⟨hoz,hal⟩:=Zbz hV om Z3
   refine Zm (Zh none zf1 5 (Wp Z3)) (Z1 1 (iA [nl,nl,.i 0,nl,.i 0] fun b2=>?_))
   refine ZH 0 b2 (K4 x1) (ie (Yc (ab 0 (Y5 (fun fz gz m F h=>∃(j:Nat),(j<=x1.params.length)/\F=sF [8] fz [(7,Z4 (YA n21 zf1 0)),(9,.i j)]/\h=[Zc gz 0]/\m=x1.params.length-j) _ _ _ ⟨0,ob,rfl,rfl,rfl⟩ (wk [0] (fc (x:=ZQ (YA n21 zf1 0) v4) (Zd.forget _ _) (Yf fl))) ?_))))
   rintro m F h ⟨j,Yh,rfl,rfl,rfl⟩
   refine Yk 3 [0] (iw (Y6 x1.params) (Y2 ((j:Int)<(x1.params.length:Int)) (fun ZB=>?_) (fun ZB=>?_)))
   ·refine ak (aq (ab 1 (ZD (Yk 3 [0] ?_))))
    obtain ⟨x2,Zs⟩:=Zt x1.params j om
    refine Zm (Zh none (j:Int) 1 (Y0 Zs)) (Xj [7,8,9,10] [(80,.b ((x2 != 0)&&(!(decide ((j:Int)∈x1.lent)))))] (fun gz=>gz) ?_ ?_)
    ·refine Z1 3 (ib (b:=(x2 != 0)) 74 (fun Zx=>?_) (fun Zx=>?_))
     ·have YI:x2≠0:=(Ym).1 Zx
      exact ZK 3 [0] (Zw [] (Zac x1.lent (j:Int)) (Z0 (wk [0] (fc (x:=.b (!(decide ((j:Int)∈x1.lent)))) (lb (by rw [Zx];rfl)) fl))))
     have X9:¬(x2≠0):=Y7 Ym Zx
     exact Z0 (wk [0] (fc (x:=.b false) (lb (by rw [Zx];rfl)) fl))
    refine ac ((x2 != 0)&&(!(decide ((j:Int)∈x1.lent)))) (p:=(x2≠0)/\(¬((j:Int)∈x1.lent))) (YG Ym (Yj dq)) (fun ZV=>?_) (fun ZV=>?_)
    ·refine UT (Y4 2 (io (.i (((YA n21 zf1 0).length:Nat):Int)) (.i (((Z6 (YA n21 zf1 0)).length:Nat):Int)) (li (by rw [Y6])) (Z1 2 (ib (b:=(decide ((j:Int)>=(((YA n21 zf1 0).length:Nat):Int)))) 85 (fun Yl=>?_) (fun Yl=>?_)))))
     ·have XG:(j:Int)>=(((YA n21 zf1 0).length:Nat):Int):=(dq).1 Yl
      exact Z0 (XM (ar (Zo (ZZ (.b false) (lb (by first|(simp;done)|(rw [hoz];simp)|(exfalso;omega)|(exfalso;have hq:=WB ((hal j _ Zs).symm.trans YJ);first|(rw [Ze ZV] at hq;omega)|(rw [Z8 ZV] at hq;omega))|(exfalso;have hq:=WB ((hal j _ Zs).symm.trans WK);first|(rw [Ze ZV] at hq;omega)|(rw [Z8 ZV] at hq;omega))))))))
     have XY:¬((j:Int)>=(((YA n21 zf1 0).length:Nat):Int)):=Y7 dq Yl
     refine Z1 2 ?_
     obtain ⟨x3,YJ⟩:=Zt (YA n21 zf1 0) j om
     refine Zm (Zh none (j:Int) 1 (Y0 YJ)) (YD (x3 != 1) Ym (fun Xd=>?_) (fun Xd=>?_))
     ·exact ar (Zo (ZZ (.b false) (lb (by first|(simp;done)|(rw [hoz];simp)|(exfalso;omega)|(exfalso;have hq:=WB ((hal j _ Zs).symm.trans YJ);first|(rw [Ze ZV] at hq;omega)|(rw [Z8 ZV] at hq;omega))|(exfalso;have hq:=WB ((hal j _ Zs).symm.trans WK);first|(rw [Ze ZV] at hq;omega)|(rw [Z8 ZV] at hq;omega))))))
     exact ak (az (Z1 1 (ZJ j (Z0 (ZM ⟨j+1,ob,rfl,rfl,rfl⟩ (wk [0] (fr (ZP j fl))))))))
    refine ak (Y4 2 (io (.i (((YA n21 zf1 0).length:Nat):Int)) (.i (((Z6 (YA n21 zf1 0)).length:Nat):Int)) (li (by rw [Y6])) (Z1 2 (ib (b:=(decide ((j:Int)>=(((YA n21 zf1 0).length:Nat):Int)))) 85 (fun Xk=>?_) (fun Xk=>?_)))))
    ·have WQ:(j:Int)>=(((YA n21 zf1 0).length:Nat):Int):=(dq).1 Xk
     exact Z0 (XM (ar (Zo (ZZ (.b false) (lb (by first|(simp;done)|(rw [hoz];simp)|(exfalso;omega)|(exfalso;have hq:=WB ((hal j _ Zs).symm.trans YJ);first|(rw [Ze ZV] at hq;omega)|(rw [Z8 ZV] at hq;omega))|(exfalso;have hq:=WB ((hal j _ Zs).symm.trans WK);first|(rw [Ze ZV] at hq;omega)|(rw [Z8 ZV] at hq;omega))))))))
    have V8:¬((j:Int)>=(((YA n21 zf1 0).length:Nat):Int)):=Y7 dq Xk
    refine Z1 2 ?_
    obtain ⟨x4,WK⟩:=Zt (YA n21 zf1 0) j om
    refine Zm (Zh none (j:Int) 1 (Y0 WK)) (YD (x4 != 0) Ym (fun Xe=>?_) (fun Xe=>?_))
    ·exact ar (Zo (ZZ (.b false) (lb (by first|(simp;done)|(rw [hoz];simp)|(exfalso;omega)|(exfalso;have hq:=WB ((hal j _ Zs).symm.trans YJ);first|(rw [Ze ZV] at hq;omega)|(rw [Z8 ZV] at hq;omega))|(exfalso;have hq:=WB ((hal j _ Zs).symm.trans WK);first|(rw [Ze ZV] at hq;omega)|(rw [Z8 ZV] at hq;omega))))))
    exact ak (az (Z1 1 (ZJ j (Z0 (ZM ⟨j+1,ob,rfl,rfl,rfl⟩ (wk [0] (fr (ZP j fl))))))))
   exact ax 0 (Y4 1 (io (.i (((YA n21 zf1 0).length:Nat):Int)) (.i (((Z6 (YA n21 zf1 0)).length:Nat):Int)) (li (by rw [Y6])) (ZK 2 [0] (iw (Y6 x1.params) (Zo (ZZ (.b ((((YA n21 zf1 0).length:Nat):Int)==(x1.params.length:Int))) (lb (by first|(simp;done)|(rw [hoz];simp)|(exfalso;omega)|(exfalso;have hq:=WB ((hal j _ Zs).symm.trans YJ);first|(rw [Ze ZV] at hq;omega)|(rw [Z8 ZV] at hq;omega))|(exfalso;have hq:=WB ((hal j _ Zs).symm.trans WK);first|(rw [Ze ZV] at hq;omega)|(rw [Z8 ZV] at hq;omega))))))))))
  refine Z1 1 (ib (b:=((!(decide ((YA n21 zf1 zk1)=(YA n21 zf1 zk1))))||(decide (zf1<0)))) 35 (fun Wi=>?_) (fun Wi=>?_))
  ·have Uy:(¬((YA n21 zf1 zk1)=(YA n21 zf1 zk1)))∨(zf1<0):=((Yi (Yj dq) dq)).1 Wi
   exact Z1 6 (Yp (ZE 3 (fc (x:=.b true) (lb (by rw [Wi];rfl)) fl)) hj2)
  have UU:¬((¬((YA n21 zf1 zk1)=(YA n21 zf1 zk1)))∨(zf1<0)):=Y7 (Yi (Yj dq) dq) Wi
  exact ZK 3 [2] (iw (Up n21.routines) (Z1 2 (Yp (ZE 3 (fc (x:=.b (decide (zf1>=(n21.routines.length:Int)))) (lb (by rw [Wi];rfl)) fl)) hj2)))
 refine Z1 2 (ib (b:=(!(decide ((YA n21 zf1 zk1)=(YA n21 zf1 zk1))))) 31 (fun WA=>?_) (fun WA=>?_))
 ·have UV:¬((YA n21 zf1 zk1)=(YA n21 zf1 zk1)):=((Yj dq)).1 WA
  exact Z1 3 (Yp (ZE 3 (fc (x:=.b true) (lb (by rw [WA];rfl)) fl)) hj1)
 have Qj:¬(¬((YA n21 zf1 zk1)=(YA n21 zf1 zk1))):=Y7 (Yj dq) WA
 exact Z1 3 (Yp (ZE 3 (fc (x:=.b (decide (zf1<0))) (lb (by rw [WA];rfl)) fl)) hj1)
theorem Za7 (code:LI) (hcb:∀z∈code,0<=z/\z<=255):Zl 9 [VA code] [] (Yq (.b true)):=by
 refine ZF 71 Tryz.func9 (ZD (YC 1 (iw (Qf code) (Y2 ((code.length:Int)>1048576) (fun Za=>?_) (fun Za=>?_)))))
 ·exact ar (Zo (A3))
 have hcl:code.length<=1048576:=by omega
 refine ak (Y4 1 (ic [] (IH code (hcl:=hcl) (hcb:=hcb)) ?_))
 rintro _ _ ⟨n21,zf1,zk1,rfl,rfl,ZT⟩
 obtain ⟨hzs,⟨hf1,hf2⟩,hk1,hk2⟩:=ZT
 have hzn:=hzs.sz om om
 have hln:=hzs.len
 have hol:=VO hzn zf1 zk1
 have htl:=VZ hzn zf1 zk1
 refine Z1 4 (iA [nl,nl] fun b1=>ZH 0 b1 (YQ n21) (Z0 (Zu 3 [0] (ic [] (Ek n21 zf1 zk1 (hr:=(fun r hr=>(hzs.rt r hr).2.2.2))) ?_))))
 rintro _ _ ⟨v1,rfl,rfl⟩
 refine Z0 (Yk 4 [1] (ic [] (DB n21 zf1 zk1) ?_))
 rintro _ _ ⟨v2,rfl,rfl⟩
 refine ZO 0 [(21,Z4 (YO n21 zf1 zk1)),(25,Z4 (YO n21 zf1 zk1))] (Zw [] (JW (YO n21 zf1 zk1) (YO n21 zf1 zk1) (hxl:=(by have h1:=VO hzn zf1 zk1;have h2:=VZ hzn zf1 zk1;omega)) (hyl:=(by have h1:=VO hzn zf1 zk1;have h2:=VZ hzn zf1 zk1;omega))) (YD (!(decide ((YO n21 zf1 zk1)=(YO n21 zf1 zk1)))) (p:=¬((YO n21 zf1 zk1)=(YO n21 zf1 zk1))) (Yj dq) (fun Zf=>?_) (fun Zf=>?_)))
 ·refine Zu 4 [2] (ic [] (DB n21 zf1 zk1) ?_)
  rintro _ _ ⟨v3,rfl,rfl⟩
  exact ZO 0 [(28,Z4 (YO n21 zf1 zk1)),(32,Z4 (YO n21 zf1 zk1))] (Zw [] (JW (YO n21 zf1 zk1) (YO n21 zf1 zk1) (hxl:=(by have h1:=VO hzn zf1 zk1;have h2:=VZ hzn zf1 zk1;omega)) (hyl:=(by have h1:=VO hzn zf1 zk1;have h2:=VZ hzn zf1 zk1;omega))) (Zo (ZZ (.b (decide ((YO n21 zf1 zk1)=(YO n21 zf1 zk1)))) (lb (by first|(simp;done)|(exfalso;exact absurd (Hg hzn (f:=zf1) (k:=zk1)) om)|(exfalso;obtain ⟨h1,h2⟩:=Mz hzn (ZY Z3);omega))))))
 refine ak (YC 1 (io (.i (((YO n21 zf1 zk1).length:Nat):Int)) (.i (((Z6 (YO n21 zf1 zk1)).length:Nat):Int)) (li (by rw [Y6])) (ZK 3 [2] (ic [] (El n21 zf1 zk1 (hr:=(fun r hr=>(hzs.rt r hr).2.2.2))) ?_))))
 rintro _ _ ⟨v4,rfl,rfl⟩
 refine io (.i (((YA n21 zf1 zk1).length:Nat):Int)) (.i (((Z6 (YA n21 zf1 zk1)).length:Nat):Int)) (li (by rw [Y6])) (YD ((((YO n21 zf1 zk1).length:Nat):Int) != (((YA n21 zf1 zk1).length:Nat):Int)) Ym (fun ZB=>?_) (fun ZB=>?_))
 ·exact ar (Zo (ZZ (.b false) (lb (by first|(simp;done)|(exfalso;exact absurd (Hg hzn (f:=zf1) (k:=zk1)) om)|(exfalso;obtain ⟨h1,h2⟩:=Mz hzn (ZY Z3);omega)))))
 refine ak (Yc (ab 0 (Y5 (fun fz gz m F h=>∃(j:Nat),(j<=(YO n21 zf1 zk1).length)/\F=sF [5] fz [(6,Z4 (YO n21 zf1 zk1)),(7,.i j)]/\h=[]/\m=(YO n21 zf1 zk1).length-j) _ _ _ ⟨0,ob,rfl,rfl,rfl⟩ (wk [] (fc (x:=ZQ (YO n21 zf1 zk1) v1) (Zd.forget _ _) (Yf fl))) ?_)))
 rintro m F h ⟨j,Yh,rfl,rfl,rfl⟩
 refine YC 2 (io (.i (((YO n21 zf1 zk1).length:Nat):Int)) (.i (((Z6 (YO n21 zf1 zk1)).length:Nat):Int)) (li (by rw [Y6])) (Y2 ((j:Int)<(((YO n21 zf1 zk1).length:Nat):Int)) (fun ZV=>?_) (fun ZV=>?_)))
 ·refine ak (aq (ab 1 (Y4 2 ?_)))
  obtain ⟨x1,Z3⟩:=Zt (YO n21 zf1 zk1) j om
  refine Zm (Zh none (j:Int) 1 (Y0 Z3)) (Xz 12 [5,6,7] [(59,.b ((decide (x1<(-1)))||(decide (x1>3))))] (fun gz=>gz) ?_ (fun hj1=>?_))
  ·refine Xj [5,6,7] [(70,.b (((decide (x1<(-1)))||(decide (x1>3)))||((zk1==0)&&(x1 != (-1)))))] (fun gz=>gz) ?_ ?_
   ·refine Z1 1 (ib (b:=((decide (x1<(-1)))||(decide (x1>3)))) 60 (fun Zb=>?_) (fun Zb=>?_))
    ·have Yd:(x1<(-1))∨(x1>3):=((Yi dq dq)).1 Zb
     exact Z0 (wk [] (fc (x:=.b true) (lb (by rw [Zb];rfl)) fl))
    have YE:¬((x1<(-1))∨(x1>3)):=Y7 (Yi dq dq) Zb
    refine Z1 3 (ib (b:=(zk1==0)) 63 (fun Zx=>?_) (fun Zx=>?_))
    ·have YI:zk1=0:=(Zq).1 Zx
     exact Z1 2 (Zm (Zh none (j:Int) 1 (Y0 Z3)) (Z0 (wk [] (Zv (x1 != (-1)) (And.intro Zb Zx) fl))))
    have X9:¬(zk1=0):=Y7 Zq Zx
    exact Z0 (wk [] (Zv false (And.intro Zb Zx) fl))
   refine ac (((decide (x1<(-1)))||(decide (x1>3)))||((zk1==0)&&(x1 != (-1)))) (p:=((x1<(-1))∨(x1>3))∨((zk1=0)/\(x1≠(-1)))) (Yi (Yi dq dq) (YG Zq Ym)) (fun Xd=>?_) (fun Xd=>?_)
   ·exact ar (Zo (ZZ (.b false) (lb (by first|(simp;done)|(exfalso;exact absurd (Hg hzn (f:=zf1) (k:=zk1)) om)|(exfalso;obtain ⟨h1,h2⟩:=Mz hzn (ZY Z3);omega)))))
   exact ak (az (Z1 1 (ZJ j (Z0 (ZM ⟨j+1,ob,rfl,rfl,rfl⟩ (wk [] (fr (ZP j fl))))))))
  refine Z1 3 (ib (b:=(decide (x1<(-1)))) 53 (fun Yl=>?_) (fun Yl=>?_))
  ·have XG:x1<(-1):=(dq).1 Yl
   exact Z1 6 (Yp (wk [] (fc (x:=.b true) (lb (by rw [Yl];rfl)) fl)) hj1)
  have XY:¬(x1<(-1)):=Y7 dq Yl
  exact Z1 2 (Zm (Zh none (j:Int) 1 (Y0 Z3)) (Z1 3 (Yp (wk [] (fc (x:=.b (decide (x1>3))) (lb (by rw [Yl];rfl)) fl)) hj1)))
 exact ax 0 (ar (Zo (A3)))
theorem Za8 (code:LI) (hcb:∀z∈code,0<=z/\z<=255):Zl 10 [VA code] [] (Yq (.b true)):=by
 refine ZF 66 Tryz.func10 (ZD (YC 1 (iw (Qf code) (Y2 ((code.length:Int)>1048576) (fun Za=>?_) (fun Za=>?_)))))
 ·exact ar (Zo (A3))
 have hcl:code.length<=1048576:=by omega
 refine ak (Y4 1 (ic [] (IH code (hcl:=hcl) (hcb:=hcb)) ?_))
 rintro _ _ ⟨n21,zf1,zk1,rfl,rfl,ZT⟩
 obtain ⟨hzs,⟨hf1,hf2⟩,hk1,hk2⟩:=ZT
 have hzn:=hzs.sz om om
 have hln:=hzs.len
 have hol:=VO hzn zf1 zk1
 have htl:=VZ hzn zf1 zk1
 refine Z1 4 (iA [nl,nl] fun b1=>ZH 0 b1 (YQ n21) (Z0 (Zu 3 [0] (ic [] (Ek n21 zf1 zk1 (hr:=(fun r hr=>(hzs.rt r hr).2.2.2))) ?_))))
 rintro _ _ ⟨v1,rfl,rfl⟩
 refine Z0 (Yk 4 [1] (ic [] (DB n21 zf1 zk1) ?_))
 rintro _ _ ⟨v2,rfl,rfl⟩
 refine ZO 0 [(22,Z4 (YO n21 zf1 zk1)),(26,Z4 (YO n21 zf1 zk1))] (Zw [] (JW (YO n21 zf1 zk1) (YO n21 zf1 zk1) (hxl:=(by have h1:=VO hzn zf1 zk1;have h2:=VZ hzn zf1 zk1;omega)) (hyl:=(by have h1:=VO hzn zf1 zk1;have h2:=VZ hzn zf1 zk1;omega))) (Xj [3,4,5,6] [(34,.b ((!(decide ((YO n21 zf1 zk1)=(YO n21 zf1 zk1))))||(!(Un n21 zf1))))] (fun gz=>gz) ?_ ?_))
 ·refine Z1 2 (ib (b:=(!(decide ((YO n21 zf1 zk1)=(YO n21 zf1 zk1))))) 29 (fun Zb=>?_) (fun Zb=>?_))
  ·have Yd:¬((YO n21 zf1 zk1)=(YO n21 zf1 zk1)):=((Yj dq)).1 Zb
   exact Z0 (ZE 3 (fc (x:=.b true) (lb (by rw [Zb];rfl)) fl))
  have YE:¬(¬((YO n21 zf1 zk1)=(YO n21 zf1 zk1))):=Y7 (Yj dq) Zb
  exact ZK 2 [2] (Zw [] (IX n21 zf1 (hr:=(fun r hr=>(hzs.rt r hr).2.2.2))) (Z0 (ZE 3 (fc (x:=.b (!(Un n21 zf1))) (lb (by rw [Zb];rfl)) fl))))
 refine ac ((!(decide ((YO n21 zf1 zk1)=(YO n21 zf1 zk1))))||(!(Un n21 zf1))) (p:=(¬((YO n21 zf1 zk1)=(YO n21 zf1 zk1)))∨(¬((Un n21 zf1)=true))) (Yi (Yj dq) (Yj Iff.rfl)) (fun Zf=>?_) (fun Zf=>?_)
 ·refine Zu 4 [2] (ic [] (DB n21 zf1 zk1) ?_)
  rintro _ _ ⟨v3,rfl,rfl⟩
  exact ZO 0 [(35,Z4 (YO n21 zf1 zk1)),(39,Z4 (YO n21 zf1 zk1))] (Zw [] (JW (YO n21 zf1 zk1) (YO n21 zf1 zk1) (hxl:=(by have h1:=VO hzn zf1 zk1;have h2:=VZ hzn zf1 zk1;omega)) (hyl:=(by have h1:=VO hzn zf1 zk1;have h2:=VZ hzn zf1 zk1;omega))) (Zo (ZZ (.b (decide ((YO n21 zf1 zk1)=(YO n21 zf1 zk1)))) (lb (by first|(simp;done)|(exfalso;exact absurd (hoe4 _ (ZY Z3)) om)|exact decide_eq_true om)))))
 have hbal:Un n21 zf1=true:=A5 fun z=>Zf (.inr z)
 obtain ⟨hV,hfz,xr,hxr,hbr⟩:=Fe hbal
 have hfl:=(Xi.1 hxr).1
 have hrm:=ZY hxr
 have hbz:=hzn.body _ hrm
 have hbe:=xr.body.sz_eq
 have ZI:=Gt xr.body
 have hff:(zf1.toNat:Int)=zf1:=by omega
 have hoe:=Rt hzn hV hxr hbr
 rw [hff] at hoe
 obtain ⟨hoe1,hoe2,hoe3,hoe4,hoe5⟩:=hoe
 have hte:=VZ hzn zf1 (xr.body.steps.length:Int)
 have hoee:=VO hzn zf1 (xr.body.steps.length:Int)
 refine ak (aD 12 (ZL 7 12 [0,1,2,3,4] [2,2] (dx 5 (Zh none zf1 5 (Wp hxr)) (Zk 3 6 [6,7,8] (dw 9 (Vp xr.body.steps) (Z9 10 (dc 10 [] [] [] (Ek n21 zf1 (xr.body.steps.length:Int) (hr:=(fun r hr=>(hzs.rt r hr).2.2.2))) ?_)))))))
 rintro _ _ ⟨v4,rfl,rfl⟩
 refine Zk 0 1 [11] (de (Yc (ab 0 (Y5 (fun fz gz m F h=>∃(j:Nat),(j<=(YO n21 zf1 (xr.body.steps.length:Int)).length)/\F=sF [] fz [(7,Z4 (YO n21 zf1 (xr.body.steps.length:Int))),(8,.i j)]/\h=[]/\m=(YO n21 zf1 (xr.body.steps.length:Int)).length-j) _ _ _ ⟨0,ob,rfl,rfl,rfl⟩ (wk [] (fc (x:=ZQ (YO n21 zf1 (xr.body.steps.length:Int)) v4) (Zd.forget _ _) (Yf fl))) ?_))))
 rintro m F h ⟨j,Yh,rfl,rfl,rfl⟩
 refine YC 2 (io (.i (((YO n21 zf1 (xr.body.steps.length:Int)).length:Nat):Int)) (.i (((Z6 (YO n21 zf1 (xr.body.steps.length:Int))).length:Nat):Int)) (li (by rw [Y6])) (Y2 ((j:Int)<(((YO n21 zf1 (xr.body.steps.length:Int)).length:Nat):Int)) (fun ZB=>?_) (fun ZB=>?_)))
 ·refine ak (aq (ab 1 (Y4 2 ?_)))
  obtain ⟨x1,Z3⟩:=Zt (YO n21 zf1 (xr.body.steps.length:Int)) j om
  refine Zm (Zh none (j:Int) 1 (Y0 Z3)) (YD (x1 != (-1)) Ym (fun ZV=>?_) (fun ZV=>?_))
  ·exact ar (Zo (ZZ (.b false) (lb (by first|(simp;done)|(exfalso;exact absurd (hoe4 _ (ZY Z3)) om)|exact decide_eq_true om))))
  exact ak (az (Z1 1 (ZJ j (Z0 (ZM ⟨j+1,ob,rfl,rfl,rfl⟩ (wk [] (fr (ZP j fl))))))))
 exact ax 0 (Y4 1 (io (.i (((YO n21 zf1 (xr.body.steps.length:Int)).length:Nat):Int)) (.i (((Z6 (YO n21 zf1 (xr.body.steps.length:Int))).length:Nat):Int)) (li (by rw [Y6])) (Zo (ZZ (.b (decide ((((YO n21 zf1 (xr.body.steps.length:Int)).length:Nat):Int)>0))) (lb (by first|(simp;done)|(exfalso;exact absurd (hoe4 _ (ZY Z3)) om)|exact decide_eq_true om))))))
theorem Za9 (code:LI) (hcb:∀z∈code,0<=z/\z<=255):Zl 11 [VA code] [] (Yq (.b true)):=by
 refine ZF 91 Tryz.func11 (ZD (YC 1 (iw (Qf code) (Y2 ((code.length:Int)>1048576) (fun Za=>?_) (fun Za=>?_)))))
 ·exact ar (Zo (A3))
 have hcl:code.length<=1048576:=by omega
 refine ak (Y4 1 (ic [] (IH code (hcl:=hcl) (hcb:=hcb)) ?_))
 rintro _ _ ⟨n21,zf1,zk1,rfl,rfl,ZT⟩
 obtain ⟨hzs,⟨hf1,hf2⟩,hk1,hk2⟩:=ZT
 have hzn:=hzs.sz om om
 have hln:=hzs.len
 have hol:=VO hzn zf1 zk1
 have htl:=VZ hzn zf1 zk1
 refine Z1 4 (iA [nl,nl] fun b1=>ZH 0 b1 (YQ n21) (Z0 (Zu 3 [0] (ic [] (Ek n21 zf1 zk1 (hr:=(fun r hr=>(hzs.rt r hr).2.2.2))) ?_))))
 rintro _ _ ⟨v1,rfl,rfl⟩
 refine Z0 (Yk 4 [1] (ic [] (DB n21 zf1 zk1) ?_))
 rintro _ _ ⟨v2,rfl,rfl⟩
 refine ZO 0 [(23,Z4 (YO n21 zf1 zk1)),(27,Z4 (YO n21 zf1 zk1))] (Zw [] (JW (YO n21 zf1 zk1) (YO n21 zf1 zk1) (hxl:=(by have h1:=VO hzn zf1 zk1;have h2:=VZ hzn zf1 zk1;omega)) (hyl:=(by have h1:=VO hzn zf1 zk1;have h2:=VZ hzn zf1 zk1;omega))) (Xj [3,4,5,6] [(35,.b ((!(decide ((YO n21 zf1 zk1)=(YO n21 zf1 zk1))))||(!(Un n21 zf1))))] (fun gz=>gz) ?_ ?_))
 ·refine Z1 2 (ib (b:=(!(decide ((YO n21 zf1 zk1)=(YO n21 zf1 zk1))))) 30 (fun Zb=>?_) (fun Zb=>?_))
  ·have Yd:¬((YO n21 zf1 zk1)=(YO n21 zf1 zk1)):=((Yj dq)).1 Zb
   exact Z0 (ZE 3 (fc (x:=.b true) (lb (by rw [Zb];rfl)) fl))
  have YE:¬(¬((YO n21 zf1 zk1)=(YO n21 zf1 zk1))):=Y7 (Yj dq) Zb
  exact ZK 2 [2] (Zw [] (IX n21 zf1 (hr:=(fun r hr=>(hzs.rt r hr).2.2.2))) (Z0 (ZE 3 (fc (x:=.b (!(Un n21 zf1))) (lb (by rw [Zb];rfl)) fl))))
 refine ac ((!(decide ((YO n21 zf1 zk1)=(YO n21 zf1 zk1))))||(!(Un n21 zf1))) (p:=(¬((YO n21 zf1 zk1)=(YO n21 zf1 zk1)))∨(¬((Un n21 zf1)=true))) (Yi (Yj dq) (Yj Iff.rfl)) (fun Zf=>?_) (fun Zf=>?_)
 ·refine Zu 4 [2] (ic [] (DB n21 zf1 zk1) ?_)
  rintro _ _ ⟨v3,rfl,rfl⟩
  exact ZO 0 [(36,Z4 (YO n21 zf1 zk1)),(40,Z4 (YO n21 zf1 zk1))] (Zw [] (JW (YO n21 zf1 zk1) (YO n21 zf1 zk1) (hxl:=(by have h1:=VO hzn zf1 zk1;have h2:=VZ hzn zf1 zk1;omega)) (hyl:=(by have h1:=VO hzn zf1 zk1;have h2:=VZ hzn zf1 zk1;omega))) (Zo (ZZ (.b (decide ((YO n21 zf1 zk1)=(YO n21 zf1 zk1)))) (lb (by first|(simp;done)|(exfalso;omega)|(exfalso;have hv:=WB (hq.2.symm.trans Zs);omega)|(exfalso;have hv:=WB (hq.2.symm.trans YJ);omega))))))
 have hbal:Un n21 zf1=true:=A5 fun z=>Zf (.inr z)
 obtain ⟨hV,hfz,xr,hxr,hbr⟩:=Fe hbal
 have hfl:=(Xi.1 hxr).1
 have hrm:=ZY hxr
 have hbz:=hzn.body _ hrm
 have hbe:=xr.body.sz_eq
 have ZI:=Gt xr.body
 have hff:(zf1.toNat:Int)=zf1:=by omega
 refine ak (Zu 3 [2] (Zm (Zh none zf1 5 (Wp hxr)) (Z0 (Yc (ab 0 (Y5 (fun fz gz m F h=>∃(j:Nat),(j<=xr.body.steps.length)/\F=sF [3,4,7] fz [(8,.i j)]/\h=[Zc gz 2]/\m=xr.body.steps.length-j) _ _ _ ⟨0,ob,rfl,rfl,rfl⟩ (wk [2] (Yf fl)) ?_))))))
 rintro m F h ⟨j,Yh,rfl,rfl,rfl⟩
 refine YC 2 (iw (Vp xr.body.steps) (Y2 ((j:Int)<(xr.body.steps.length:Int)) (fun ZB=>?_) (fun ZB=>?_)))
 ·refine ak (aq (ab 1 (Y4 2 ?_)))
  obtain ⟨x1,Z3⟩:=Zt xr.body.steps j om
  refine Zm (Zh none (j:Int) 5 (Wx Z3)) (Y2 (x1.into>0) (fun ZV=>?_) (fun ZV=>?_))
  ·have hq:=Z9y hzn hV hxr hbr Z3 ZV
   rw [hff] at hq
   have htj:=VZ hzn zf1 (j:Int)
   have hsj:=KI Z3
   have haj:=Qc x1
   refine Zu 3 [0] (ic [] (Ek n21 zf1 (j:Int) (hr:=(fun r hr=>(hzs.rt r hr).2.2.2))) ?_)
   rintro _ _ ⟨v4,rfl,rfl⟩
   refine Z0 (aD 26 (Zk 24 26 [0,1] (dx 2 (Zh none (j:Int) 5 (Wx Z3)) (Zk 20 23 [3,4,5] (dn 6 (.i (((YO n21 zf1 (j:Int)).length:Nat):Int)) (.i (((Z6 (YO n21 zf1 (j:Int))).length:Nat):Int)) (li (by rw [Y6])) (Zk 17 19 [7,8] (db (b:=(decide (x1.into>(((YO n21 zf1 (j:Int)).length:Nat):Int)))) 73 (fun Zx=>?_) (fun Zx=>?_))))))))
   ·have YI:x1.into>(((YO n21 zf1 (j:Int)).length:Nat):Int):=(dq).1 Zx
    exact Zk 0 17 [9,10,11,12,13,14,15,16,17,18,19,20,21,22,23,24,25] (de (XM (ar (Zo (ZZ (.b false) (lb (by first|(simp;done)|(exfalso;omega)|(exfalso;have hv:=WB (hq.2.symm.trans Zs);omega)|(exfalso;have hv:=WB (hq.2.symm.trans YJ);omega))))))))
   have X9:¬(x1.into>(((YO n21 zf1 (j:Int)).length:Nat):Int)):=Y7 dq Zx
   refine Zk 14 17 [9,10,11] (dx 12 (Zh none (j:Int) 5 (Wx Z3)) (Zk 11 13 [13,14] (da 15 ((x1.into-1)) ((x1.into)-(1)) ?_)))
   obtain ⟨x2,Zs⟩:=Zt (YO n21 zf1 (j:Int)) ((x1.into-1).toNat) om
   refine dx 16 (Zh (some v4) (x1.into-1) 1 (Y0 Zs)) (Zk 6 9 [17,18,19] (dx 20 (Zh none (j:Int) 5 (Wx Z3)) (Zk 3 5 [21,22] (dw 23 (Y6 x1.args) (Zk 0 2 [24,25] (de (ac (x2 != (x1.args.length:Int)) Ym (fun Xd=>?_) (fun Xd=>?_))))))))
   ·exact ar (Zo (ZZ (.b false) (lb (by first|(simp;done)|(exfalso;omega)|(exfalso;have hv:=WB (hq.2.symm.trans Zs);omega)|(exfalso;have hv:=WB (hq.2.symm.trans YJ);omega)))))
   exact ak (az (Z1 1 (ZJ j (Z0 (ZM ⟨j+1,ob,rfl,rfl,rfl⟩ (wk [1] (ZP j fl)))))))
  exact ak (az (Z1 1 (ZJ j (Z0 (ZM ⟨j+1,ob,rfl,rfl,rfl⟩ (wk [0] (ZP j fl)))))))
 exact ax 0 (ar (Zo (A3)))
theorem Zab (code:LI) (hcb:∀z∈code,0<=z/\z<=255):Zl 12 [VA code] [] (Yq (.b true)):=by
 refine ZF 83 Tryz.func12 (ZD (YC 1 (iw (Qf code) (Y2 ((code.length:Int)>1048576) (fun Za=>?_) (fun Za=>?_)))))
 ·exact ar (Zo (A3))
 have hcl:code.length<=1048576:=by omega
 refine ak (Y4 1 (ic [] (II code (hcl:=hcl) (hcb:=hcb)) ?_))
 rintro _ _ ⟨n21,zf1,zk1,rfl,rfl,ZT⟩
 obtain ⟨hzs,⟨hf1,hf2⟩,hk1,hk2⟩:=ZT
 have hzn:=hzs.sz om om
 have hln:=hzs.len
 have hol:=VO hzn zf1 zk1
 have htl:=VZ hzn zf1 zk1
 refine Z1 4 (iA [nl,nl] fun b1=>ZH 0 b1 (YQ n21) (Z0 (Zu 3 [0] (ic [] (El n21 zf1 zk1 (hr:=(fun r hr=>(hzs.rt r hr).2.2.2))) ?_))))
 rintro _ _ ⟨v1,rfl,rfl⟩
 refine Z0 (Yk 4 [1] (ic [] (H7 n21 zf1 zk1) ?_))
 rintro _ _ ⟨v2,rfl,rfl⟩
 refine ZO 0 [(22,Z4 (YA n21 zf1 zk1)),(26,Z4 (YA n21 zf1 zk1))] (Zw [] (JW (YA n21 zf1 zk1) (YA n21 zf1 zk1) (hxl:=(by have h1:=VO hzn zf1 zk1;have h2:=VZ hzn zf1 zk1;omega)) (hyl:=(by have h1:=VO hzn zf1 zk1;have h2:=VZ hzn zf1 zk1;omega))) (Xj [3,4,5,6] [(34,.b ((!(decide ((YA n21 zf1 zk1)=(YA n21 zf1 zk1))))||(!(Un n21 zf1))))] (fun gz=>gz) ?_ ?_))
 ·refine Z1 2 (ib (b:=(!(decide ((YA n21 zf1 zk1)=(YA n21 zf1 zk1))))) 29 (fun Zb=>?_) (fun Zb=>?_))
  ·have Yd:¬((YA n21 zf1 zk1)=(YA n21 zf1 zk1)):=((Yj dq)).1 Zb
   exact Z0 (ZE 3 (fc (x:=.b true) (lb (by rw [Zb];rfl)) fl))
  have YE:¬(¬((YA n21 zf1 zk1)=(YA n21 zf1 zk1))):=Y7 (Yj dq) Zb
  exact ZK 2 [2] (Zw [] (IX n21 zf1 (hr:=(fun r hr=>(hzs.rt r hr).2.2.2))) (Z0 (ZE 3 (fc (x:=.b (!(Un n21 zf1))) (lb (by rw [Zb];rfl)) fl))))
 refine ac ((!(decide ((YA n21 zf1 zk1)=(YA n21 zf1 zk1))))||(!(Un n21 zf1))) (p:=(¬((YA n21 zf1 zk1)=(YA n21 zf1 zk1)))∨(¬((Un n21 zf1)=true))) (Yi (Yj dq) (Yj Iff.rfl)) (fun Zf=>?_) (fun Zf=>?_)
 ·refine Zu 4 [2] (ic [] (H7 n21 zf1 zk1) ?_)
  rintro _ _ ⟨v3,rfl,rfl⟩
  exact ZO 0 [(35,Z4 (YA n21 zf1 zk1)),(39,Z4 (YA n21 zf1 zk1))] (Zw [] (JW (YA n21 zf1 zk1) (YA n21 zf1 zk1) (hxl:=(by have h1:=VO hzn zf1 zk1;have h2:=VZ hzn zf1 zk1;omega)) (hyl:=(by have h1:=VO hzn zf1 zk1;have h2:=VZ hzn zf1 zk1;omega))) (Zo (ZZ (.b (decide ((YA n21 zf1 zk1)=(YA n21 zf1 zk1)))) (lb (by first|(simp;done)|(rw [hoe2 ZV];rfl)|exact absurd (hoe3 ZV).1 XY|(rw [<-WB ((hoe3 ZV).2.symm.trans Z3)];rfl)|(exfalso;omega))))))
 have hbal:Un n21 zf1=true:=A5 fun z=>Zf (.inr z)
 obtain ⟨hV,hfz,xr,hxr,hbr⟩:=Fe hbal
 have hfl:=(Xi.1 hxr).1
 have hrm:=ZY hxr
 have hbz:=hzn.body _ hrm
 have hbe:=xr.body.sz_eq
 have ZI:=Gt xr.body
 have hff:(zf1.toNat:Int)=zf1:=by omega
 have hoe:=Rt hzn hV hxr hbr
 rw [hff] at hoe
 obtain ⟨hoe1,hoe2,hoe3,hoe4,hoe5⟩:=hoe
 have hte:=VZ hzn zf1 (xr.body.steps.length:Int)
 have hoee:=VO hzn zf1 (xr.body.steps.length:Int)
 refine ak (Zu 3 [2] (Zm (Zh none zf1 5 (Wp hxr)) (Z1 1 (iA [nl,nl,.i 0,nl,.i 0] fun b2=>ZH 0 b2 (K4 xr) (ie (Zu 5 [3,0] (iw (Vp xr.body.steps) (ic [] (El n21 zf1 (xr.body.steps.length:Int) (hr:=(fun r hr=>(hzs.rt r hr).2.2.2))) ?_))))))))
 rintro _ _ ⟨v4,rfl,rfl⟩
 refine Z0 (X2 (Xj [7,8] [(64,.b ((decide (xr.body.result<0))||(decide (xr.body.result>=(((YA n21 zf1 (xr.body.steps.length:Int)).length:Nat):Int)))))] (fun gz=>gz) ?_ ?_))
 ·refine ZK 5 [1] (ib (b:=(decide (xr.body.result<0))) 57 (fun Zx=>?_) (fun Zx=>?_))
  ·have YI:xr.body.result<0:=(dq).1 Zx
   exact Z0 (ZE 5 (fc (x:=.b true) (lb (by rw [Zx];rfl)) fl))
  have X9:¬(xr.body.result<0):=Y7 dq Zx
  exact ZK 4 [1] (io (.i (((YA n21 zf1 (xr.body.steps.length:Int)).length:Nat):Int)) (.i (((Z6 (YA n21 zf1 (xr.body.steps.length:Int))).length:Nat):Int)) (li (by rw [Y6])) (Z0 (ZE 5 (fc (x:=.b (decide (xr.body.result>=(((YA n21 zf1 (xr.body.steps.length:Int)).length:Nat):Int)))) (lb (by rw [Zx];rfl)) fl))))
 refine ac ((decide (xr.body.result<0))||(decide (xr.body.result>=(((YA n21 zf1 (xr.body.steps.length:Int)).length:Nat):Int)))) (p:=(xr.body.result<0)∨(xr.body.result>=(((YA n21 zf1 (xr.body.steps.length:Int)).length:Nat):Int))) (Yi dq dq) (fun ZB=>?_) (fun ZB=>?_)
 ·exact ar (Zo (ZZ (.b false) (lb (by first|(simp;done)|(rw [hoe2 ZV];rfl)|exact absurd (hoe3 ZV).1 XY|(rw [<-WB ((hoe3 ZV).2.symm.trans Z3)];rfl)|(exfalso;omega)))))
 refine ak (X2 (VD [1] (ac (xr.result==0) Zq (fun ZV=>?_) (fun ZV=>?_))))
 ·exact ar (ZO 1 [(68,Z4 (YA n21 zf1 (xr.body.steps.length:Int)))] (Zw [] (PG (YA n21 zf1 (xr.body.steps.length:Int)) (hx:=(Rs hzn))) (Zo (ZZ (.b ((TA (YA n21 zf1 (xr.body.steps.length:Int)))==0)) (lb (by first|(simp;done)|(rw [hoe2 ZV];rfl)|exact absurd (hoe3 ZV).1 XY|(rw [<-WB ((hoe3 ZV).2.symm.trans Z3)];rfl)|(exfalso;omega)))))))
 refine ak (ar (ZO 1 [(71,Z4 (YA n21 zf1 (xr.body.steps.length:Int)))] (Zw [] (PG (YA n21 zf1 (xr.body.steps.length:Int)) (hx:=(Rs hzn))) (Z1 2 (ib (b:=((TA (YA n21 zf1 (xr.body.steps.length:Int)))==1)) 74 (fun Yl=>?_) (fun Yl=>?_))))))
 ·have XG:(TA (YA n21 zf1 (xr.body.steps.length:Int)))=1:=(Zq).1 Yl
  refine ZK 4 [1] ?_
  obtain ⟨x1,Z3⟩:=Zt (YA n21 zf1 (xr.body.steps.length:Int)) xr.body.result.toNat om
  exact Zm (Zh (some v4) xr.body.result 1 (Y0 Z3)) (Zo (ZZ (.b (x1==1)) (lb (by first|(simp;done)|(rw [hoe2 ZV];rfl)|exact absurd (hoe3 ZV).1 XY|(rw [<-WB ((hoe3 ZV).2.symm.trans Z3)];rfl)|(exfalso;omega)))))
 have XY:¬((TA (YA n21 zf1 (xr.body.steps.length:Int)))=1):=Y7 Zq Yl
 exact Zo (ZZ (.b false) (lb (by first|(simp;done)|(rw [hoe2 ZV];rfl)|exact absurd (hoe3 ZV).1 XY|(rw [<-WB ((hoe3 ZV).2.symm.trans Z3)];rfl)|(exfalso;omega))))
end Go.Abs
