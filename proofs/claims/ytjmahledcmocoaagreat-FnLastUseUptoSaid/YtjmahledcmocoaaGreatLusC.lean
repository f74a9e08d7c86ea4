/-
  A part of the proof of FnLastUseUptoSaid (see the last file): no condition.
-/
import Derived.Test.YtjmahledcmocoaaGreatLusB
set_option linter.all false
set_option linter.unusedVariables false
set_option linter.unusedSimpArgs false
set_option linter.unusedSectionVars false
set_option maxRecDepth 10000
set_option maxHeartbeats 4000000
namespace Go.Abs
open Go.Proofs
theorem S1 (code:LI) (hl:code.length<=1048576:=by exact ob) (hc:∀z∈code,0<=z/\z<=255):Zf 52 [V7 code] [] (fun r h=>∃(rd:Nat) (bs:LI),r=.p rd 0/\h=[.obj rd [V7 bs,.i 0]]/\∀z∈bs,0<=z/\z<=255):=by
 refine ZD 11 Tryz.func52 (Ya (X4 1 (iw (Qg code) (Z1 (XC (fun fz gz F h=>F=sF [] fz [(0,V7 (if (code.length:Int)>2000 then (code.take 2000) else code))]/\h=gz) ?_ ?_)))))
 ·refine VA ((code.length:Int)>2000) (fun Z9=>?_) (fun Z9=>?_)
  ·exact az (Z2 1 (Zm (Ke (es:=Uz code) (hv:=none) (l:=0) (m:=2000) (sz:=1) (es':=Uz (code.take 2000)) kr om (by simp<;>omega) (by simp<;>omega) (PA _) (by first|(simp only [VV,Va,EQ,EP];done)|(simp only [VV,Va,EQ,EP];rfl)|(simp [EQ,EP];done))) (Z1 (ZJ ⟨rfl,rfl⟩ (wk [] (fc (x:=V7 (code.take 2000)) (Ze.sl _ (Ys Uz (by first|rfl|(rw [Zw Z9])|(rw [Zp Z9])|(simp [Z9];done)|(rw [Xc];simp [Z9];done)|omega))) fl))))))
  exact ak (ZJ ⟨rfl,rfl⟩ (wk [] (fc (x:=V7 code) (Ze.sl _ (Ys Uz (by first|rfl|(rw [Zw Z9])|(rw [Zp Z9])|(simp [Z9];done)|(rw [Xc];simp [Z9];done)|omega))) fl)))
 rintro F h ⟨rfl,rfl⟩
 exact Yg 2 (iA [V7 (if (code.length:Int)>2000 then (code.take 2000) else code),.i 0] fun b1=>Zs (r1 [0] ⟨b1,(if (code.length:Int)>2000 then (code.take 2000) else code),rfl,rfl,(by first|exact hc|exact fun z hz=>hc z (Ts hz)|(split<;>first|exact hc|exact fun z hz=>hc z (Ts hz)))⟩))
theorem XN (rd:Nat) (bs:LI) (p:Nat) (mx:Int) (Zt:∀z∈bs,0<=z/\z<=255) (hp:p+1<=1000000000:=by exact ob):Zf 79 [.p rd 0,.i mx] [Yc rd bs p] (fun r h=>∃(k:Int),r=.i k/\h=[.obj rd [V7 bs,.i (p+1:Nat)]]/\Pk mx k):=by
 refine ZD 99 Tryz.func79 (Ya (Zo 5 [0] (ZG p (Z2 2 (ZA 0 rd [V7 bs,.i (p+1:Nat)] (ie (X7 (XM [0,1] [(24,.b ((decide (mx<1))||((bs.length:Int)==0)))] (fun gz=>gz) ?_ ?_))))))))
 ·refine Z2 3 (ib (b:=(decide (mx<1))) 17 (fun Zb=>?_) (fun Zb=>?_))
  ·exact Z1 (wk [0] (ZM true Zb fl))
  exact ZU 4 [0] (iw (Qg bs) (Z1 (wk [0] (ZM ((bs.length:Int)==0) Zb fl))))
 refine ac ((decide (mx<1))||((bs.length:Int)==0)) (p:=(mx<1)∨((bs.length:Int)=0)) (Xo dq Zz) (fun Z9=>?_) (fun Z9=>?_)
 ·exact ar (Zs (r1 [0] ⟨0,rfl,rfl,Pk.zero⟩))
 refine ak (Zo 4 [0] (ia ((p:Int)) ((((p+1:Nat):Int))-(1)) (Z1 (Y6 5 [0] (iw (Qg bs) (ZT ((p:Int)<(bs.length:Int)) (fun Zg=>?_) (fun Zg=>?_)))))))
 ·refine Zo 5 [0] ?_
  obtain ⟨x1,Z5⟩:=Zq bs p om
  have hz:=Zt _ (ZW Z5)
  exact Zm (Zh none (p:Int) 1 (AO Z5)) (Z2 1 (Zm (B5 x1 om) (Z2 1 (Zm (BY x1 mx om om) (Zs (r1 [0] ⟨(x1 % mx),rfl,rfl,(Pk.rem om om)⟩))))))
 have hq1:p / bs.length<=p:=Nat.div_le_self _ _
 have hq0:(0:Int)<=((p / bs.length:Nat):Int):=Int.natCast_nonneg _
 refine ak (aD 46 (ZH 37 46 [0,1,2,3,4,5,6,7,8] [0,0] (dw 9 (Qg bs) (dx 10 (Dm p bs.length om om) ?_))))
 obtain ⟨x2,Zv⟩:=Zq bs (p % bs.length) (Nat.mod_lt _ om)
 have hz:=Zt _ (ZW Zv)
 refine dx 11 (Zh none ((p % bs.length:Nat):Int) 1 (AO Zv)) (Zk 33 34 [12] (dx 13 (B5 x2 om) (da 14 ((x2*131)) ((x2)*(131)) (ZH 26 31 [15,16,17,18,19] [0] (da 20 (((p*7:Nat):Int)) (((p:Int))*(7)) (da 21 (((p*7+3:Nat):Int)) ((((p*7:Nat):Int))+(3)) (ZH 20 24 [22,23,24,25] [0] (dw 26 (Qg bs) (dx 27 (Dm (p*7+3) bs.length om om) ?_)))))))))
 obtain ⟨x3,X3⟩:=Zq bs ((p*7+3) % bs.length) (Nat.mod_lt _ om)
 have hz3:=Zt _ (ZW X3)
 exact dx 28 (Zh none (((p*7+3) % bs.length:Nat):Int) 1 (AO X3)) (Zk 16 17 [29] (dx 30 (B5 x3 om) (da 31 ((x3*1117)) ((x3)*(1117)) (da 32 (((x2*131)+(x3*1117))) (((x2*131))+((x3*1117))) (Zk 12 13 [33] (da 34 (((p*29:Nat):Int)) (((p:Int))*(29)) (da 35 ((((x2*131)+(x3*1117))+((p*29:Nat):Int))) ((((x2*131)+(x3*1117)))+(((p*29:Nat):Int))) (ZH 5 10 [36,37,38,39,40] [0] (dw 41 (Qg bs) (dx 42 (Af p bs.length om om) (da 43 ((((p / bs.length:Nat):Int)*53)) ((((p / bs.length:Nat):Int))*(53)) (da 44 (((((x2*131)+(x3*1117))+((p*29:Nat):Int))+(((p / bs.length:Nat):Int)*53))) (((((x2*131)+(x3*1117))+((p*29:Nat):Int)))+((((p / bs.length:Nat):Int)*53))) (Zk 0 1 [45] (de (Yg 2 (Zm (Fz ((((x2*131)+(x3*1117))+((p*29:Nat):Int))+(((p / bs.length:Nat):Int)*53)) 64 om om) (Zm (IQ ((((x2*131)+(x3*1117))+((p*29:Nat):Int))+(((p / bs.length:Nat):Int)*53)) (((((x2*131)+(x3*1117))+((p*29:Nat):Int))+(((p / bs.length:Nat):Int)*53)) / 64)) (Z1 (Yg 2 (Zm (BY (J6 ((((x2*131)+(x3*1117))+((p*29:Nat):Int))+(((p / bs.length:Nat):Int)*53)) (((((x2*131)+(x3*1117))+((p*29:Nat):Int))+(((p / bs.length:Nat):Int)*53)) / 64)) mx om (E9 ⟨by omega,by omega⟩ ⟨by omega,by omega⟩).1) (Zs (r1 [0] ⟨((J6 ((((x2*131)+(x3*1117))+((p*29:Nat):Int))+(((p / bs.length:Nat):Int)*53)) (((((x2*131)+(x3*1117))+((p*29:Nat):Int))+(((p / bs.length:Nat):Int)*53)) / 64)) % mx),rfl,rfl,(Pk.rem (E9 ⟨by omega,by omega⟩ ⟨by omega,by omega⟩).1 om)⟩))))))))))))))))))))))
theorem WW (rd:Nat) (bs:LI) (p:Nat) (xs:LI) (Zt:∀z∈bs,0<=z/\z<=255) (hp:p+1<=1000000000:=by exact ob) (hx:0<xs.length/\xs.length<=1000000:=by exact ob):Zf 62 [.p rd 0,Z6 xs] [Yc rd bs p] (fun r h=>∃(z:Int),r=.i z/\h=[.obj rd [V7 bs,.i (p+1:Nat)]]/\z∈xs):=by
 refine ZD 12 Tryz.func62 (Ya (Yg 3 (iw (Ye xs) (ic [0] (XN rd bs p (xs.length:Int) (Zt:=ob)) ?_))))
 rintro _ _ ⟨k1,rfl,rfl,ZX⟩
 have hk:=ZX.lt om
 obtain ⟨x1,Z5⟩:=Zq xs k1.toNat om
 exact Zm (Zh none k1 1 (ZZ Z5)) (Zs (r1 [0] ⟨x1,rfl,rfl,(ZW Z5)⟩))
theorem UO (fs:LI) :Zf 144 [Z6 fs] [] (Yt (CE (Y7.mk fs))):=by
 exact ZD 5 Tryz.func144 (ar (iA [nl] fun b1=>ie (Yg 2 (ZA 0 b1 [Z6 fs] (ie (ZK (r3 [] [.agg [Z6 fs]] [0] [(b1,b1)] ⟨rfl,rfl⟩ (Ze.agg (.cons (Ze.sl _ (Ys Z7 ob)) .nil)))))))))
theorem If (rd:Nat) (bs:LI) (p:Nat) (Zt:∀z∈bs,0<=z/\z<=255) (hp:p+1<=1000000000:=by exact ob):Zf 143 [.p rd 0] [Yc rd bs p] (fun r h=>∃(ds:List Zd) (v:Hd),r=.h v/\h=[rK v 3 (Zc (X0 ds)),.obj rd [V7 bs,.i (p+1:Nat)]]/\GD ds):=by
 refine ZD 51 Tryz.func143 (Ya (ar (iL (Z7 []) 0 1 fun v1=>ZE 0 [(8,Z6 [])] (Zu [] (UO []) (iL (Z7 [0,1]) 2 1 fun v2=>ZE 0 [(10,Z6 [0,1])] (Zu [] (UO [0,1]) (iL (Wo [Y7.mk [],Y7.mk [0,1]]) 2 1 fun v3=>Z2 1 (iA [.i 0,.i 0,nl] fun b1=>ZA 0 b1 [.i 0,.i 0,DA [Y7.mk [],Y7.mk [0,1]] v3] (ie (ar (iL (Z7 []) 0 1 fun v4=>ZE 0 [(14,Z6 [])] (Zu [] (UO []) (iL (Z7 [3,0,3]) 3 1 fun v5=>ZE 0 [(16,Z6 [3,0,3])] (Zu [] (UO [3,0,3]) (iL (Wo [Y7.mk [],Y7.mk [3,0,3]]) 2 1 fun v6=>Z2 1 (iA [.i 0,.i 0,nl] fun b2=>ZA 0 b2 [.i 0,.i 0,DA [Y7.mk [],Y7.mk [3,0,3]] v6] (ie (ar (iL (Z7 [1,3]) 2 1 fun v7=>ZE 0 [(20,Z6 [1,3])] (Zu [] (UO [1,3]) (iL (Wo [Y7.mk [1,3]]) 1 1 fun v8=>Z2 2 (iL (Z7 [1,1,0]) 3 1 fun v9=>ZE 0 [(25,Z6 [1,1,0])] (Zu [] (UO [1,1,0]) (iL (Z7 [0]) 1 1 fun v10=>ZE 0 [(27,Z6 [0])] (Zu [] (UO [0]) (iL (Z7 [3]) 1 1 fun v11=>ZE 0 [(29,Z6 [3])] (Zu [] (UO [3]) (iL (Wo [Y7.mk [1,1,0],Y7.mk [0],Y7.mk [3]]) 3 1 fun v12=>ZE 2 [(23,.agg [.i 0,.i 0,Qm [Y7.mk [1,3]]]),(24,.agg [.i 1,.i 0,.sl [] none]),(32,.agg [.i 0,.i 0,Qm [Y7.mk [1,1,0],Y7.mk [0],Y7.mk [3]]]),(33,.agg [.i 0,.i 1,.sl [] none])] (iL (X0 [Zd.mk 0 0 [Y7.mk [1,3]],Zd.mk 1 0 [],Zd.mk 0 0 [Y7.mk [1,1,0],Y7.mk [0],Y7.mk [3]],Zd.mk 0 1 []]) 4 3 fun v13=>Z1 (ar (TZ 3 [(35,.agg [.i 0,.i 0,Qm [Y7.mk [],Y7.mk [0,1]]]),(36,.agg [.i 0,.i 0,.sl [] none]),(37,.agg [.i 0,.i 0,Qm [Y7.mk [],Y7.mk [3,0,3]]])] [11,7] (Sy (Zc (X0 [Zd.mk 0 0 [Y7.mk [],Y7.mk [0,1]],Zd.mk 0 0 [],Zd.mk 0 0 [Y7.mk [],Y7.mk [3,0,3]]])) 3 3 fun g1=>Z1 (Yg 1 (ic [16] (XN rd bs p 5 (Zt:=ob)) ?_))))))))))))))))))))))))))))))))))
 rintro _ _ ⟨k1,rfl,rfl,ZX⟩
 have hk:=ZX.lt om
 refine Z1 (X7 (ZT (k1<4) (fun Z9=>?_) (fun Z9=>?_)))
 ·refine az (Z2 3 ?_)
  obtain ⟨x1,Z5⟩:=Zq [Zd.mk 0 0 [Y7.mk [1,3]],Zd.mk 1 0 [],Zd.mk 0 0 [Y7.mk [1,1,0],Y7.mk [0],Y7.mk [3]],Zd.mk 0 1 []] k1.toNat (by show k1.toNat<4;omega)
  exact Zm (Zh (some v13) k1 3 (U1 Z5)) (Z2 1 (iL (X0 [x1]) 1 3 fun v14=>ZE 0 [(48,YM [x1])] (Dh 2 3 (⟨some ⟨g1,0,none⟩,3,3⟩:Hd) 3 (Zc (X0 [Zd.mk 0 0 [Y7.mk [],Y7.mk [0,1]],Zd.mk 0 0 [],Zd.mk 0 0 [Y7.mk [],Y7.mk [3,0,3]]])) (X0 [x1]) none rfl (KE _) (CU _) (by simp [X0]) (by simp<;>omega) fun v15=>Z1 (ar (Zs (r1 [0,1] ⟨([Kz,Zd.mk 0 0 [],KA]++[x1]),v15,rfl,rfl,(GD.four Z5)⟩ (eq:=(rr (ls:=Zc (X0 [Zd.mk 0 0 [Y7.mk [],Y7.mk [0,1]],Zd.mk 0 0 [],Zd.mk 0 0 [Y7.mk [],Y7.mk [3,0,3]]])++Zc (X0 [x1])) (F7 _ _) (rc rz)))))))))
 exact ak (ar (Zs (r1 [1,0] ⟨[Kz,Zd.mk 0 0 [],KA],(⟨some ⟨g1,0,none⟩,3,3⟩:Hd),rfl,rfl,GD.three⟩ (eq:=(rr (ls:=Zc (X0 [Zd.mk 0 0 [Y7.mk [],Y7.mk [0,1]],Zd.mk 0 0 [],Zd.mk 0 0 [Y7.mk [],Y7.mk [3,0,3]]])) rfl (rc rz))))))
theorem RG (rd:Nat) (bs:LI) (p:Nat) (Zt:∀z∈bs,0<=z/\z<=255) (hp:p+1<=1000000000:=by exact ob):Zf 143 [.p rd 0] [Yc rd bs p] (fun r h=>∃(ds:List Zd) (v:Value),r=K7 ds v/\h=[.tail v 3,.obj rd [V7 bs,.i (p+1:Nat)]]/\GD ds):=(If rd bs p Zt hp).frz (es:=X0) (hs:=fun _=>[.obj rd [V7 bs,.i (p+1:Nat)]]) KE om
theorem Rf (rd:Nat) (bs:LI) (p:Nat) (Zt:∀z∈bs,0<=z/\z<=255) (hp:p+5<=1000000000:=by exact ob):Zf 113 [.p rd 0] [Yc rd bs p] (fun r h=>∃(dz:List Zd) (p2:Nat),r=YM dz/\h=[Yc rd bs p2]/\AD dz/\p<=p2/\p2<=p+5):=by
 refine ZD 89 Tryz.func113 (Ya (Yg 1 (ic [0] (If rd bs p (Zt:=ob)) ?_)))
 rintro _ _ ⟨ds1,v1,rfl,rfl,ZX⟩
 have hgl:=ZX.len
 have hga:=ZX.ad
 refine Dg 0 ds1.length (v:=v1) (A5 _) om (fun g1 c1 he1=>?_)
 subst he1
 refine Z1 (Yg 2 (io (.i ds1.length) (.i ds1.length) (lr _) (ic [1] (XN rd bs (p+1) (ds1.length:Int) (Zt:=ob)) ?_)))
 rintro _ _ ⟨k1,rfl,rfl,Y9⟩
 have qhp2:=Y9.lt om
 refine Z1 (X4 1 (ic [0] (XN rd bs ((p+1)+1) 14 (Zt:=ob)) ?_))
 rintro _ _ ⟨k2,rfl,rfl,YL⟩
 have qhp3:=YL.lt om
 refine ie (ab 0 (Ya (Kx (fun fz gz F h=>∃(dq:List Zd) (vq:Hd) (pq:Nat),(AD dq)/\(p<=pq/\pq<=p+5)/\F=sF [] fz [(3,.h vq)]/\h=[Yc rd bs pq,rK vq 3 (Zc (X0 dq))]) (fun _ _=>rfl) ?_ ?_)))
 ·refine ac (k2==0) Zz (fun Z9=>?_) (fun Z9=>?_)
  ·refine az (Z2 3 (iL (Z7 [-1,5,0,2]) 4 1 fun v2=>ZE 0 [(18,Z6 [-1,5,0,2])] (ic [1] (WW rd bs (((p+1)+1)+1) [-1,5,0,2] (Zt:=ob)) ?_)))
   rintro _ _ ⟨z1,rfl,rfl,YX⟩
   refine Z2 1 (iL (Z7 [0,1,5]) 3 1 fun v3=>ZE 0 [(21,Z6 [0,1,5])] (ic [1] (WW rd bs ((((p+1)+1)+1)+1) [0,1,5] (Zt:=ob)) ?_))
   rintro _ _ ⟨z2,rfl,rfl,X9⟩
   exact Z2 1 (Zm (XS g1 ds1.length c1 k1.toNat 3 k1) (ZE 0 [(23,.agg [.i z1,.i z2,.sl [] none])] (BU 3 g1 ds1.length c1 3 (k1.toNat * 3) [.i z1,.i z2,.sl [] none] (Zc (X0 ds1)) (Zc (X0 (ds1.set k1.toNat (Zd.mk z1 z2 [])))) (by rw [A5];simp only [YD,X8];omega) (D4 (Zd.mk z1 z2 []) om) (ie (ZJ ⟨(ds1.set k1.toNat (Zd.mk z1 z2 [])),(⟨some ⟨g1,0,none⟩,ds1.length,c1⟩:Hd),((((p+1)+1)+1)+1)+1,(hga.set _ (by simp)),ob,rfl,rfl⟩ (wk [1,0] fl))))))
  refine ar (YR (k2==1) Zz (fun Zg=>?_) (fun Zg=>?_))
  ·refine az (Z2 3 (iL (Z7 [-1,0,4,5]) 4 1 fun v4=>ZE 0 [(30,Z6 [-1,0,4,5])] (ic [1] (WW rd bs (((p+1)+1)+1) [-1,0,4,5] (Zt:=ob)) ?_)))
   rintro _ _ ⟨z3,rfl,rfl,XV⟩
   exact iL (Z7 [z3]) 1 1 fun v5=>ZE 0 [(32,Z6 [z3])] (Zu [] (UO [z3]) (iL (Z7 [0,0,0,0]) 4 1 fun v6=>ZE 0 [(34,Z6 [0,0,0,0])] (Zu [] (UO [0,0,0,0]) (iL (Z7 []) 0 1 fun v7=>ZE 0 [(36,Z6 [])] (Zu [] (UO []) (iL (Wo [Y7.mk [z3],Y7.mk [0,0,0,0],Y7.mk []]) 3 1 fun v8=>Z2 1 (Zm (XS g1 ds1.length c1 k1.toNat 3 k1) (ZE 0 [(39,.agg [.i 0,.i 0,Qm [Y7.mk [z3],Y7.mk [0,0,0,0],Y7.mk []]])] (BU 6 g1 ds1.length c1 3 (k1.toNat * 3) [.i 0,.i 0,Qm [Y7.mk [z3],Y7.mk [0,0,0,0],Y7.mk []]] (Zc (X0 ds1)) (Zc (X0 (ds1.set k1.toNat (Zd.mk 0 0 [Y7.mk [z3],Y7.mk [0,0,0,0],Y7.mk []])))) (by rw [A5];simp only [YD,X8];omega) (D4 (Zd.mk 0 0 [Y7.mk [z3],Y7.mk [0,0,0,0],Y7.mk []]) om) (ie (ZJ ⟨(ds1.set k1.toNat (Zd.mk 0 0 [Y7.mk [z3],Y7.mk [0,0,0,0],Y7.mk []])),(⟨some ⟨g1,0,none⟩,ds1.length,c1⟩:Hd),(((p+1)+1)+1)+1,(hga.set _ (by simp)),ob,rfl,rfl⟩ (wk [5,0] fl))))))))))))
  refine ar (YR (k2==2) Zz (fun ZF=>?_) (fun ZF=>?_))
  ·exact az (Z2 3 (ia ((k1+1)) ((k1)+(1)) (iL (Z7 [k1+1]) 1 1 fun v9=>ZE 0 [(47,Z6 [k1+1])] (Zu [] (UO [k1+1]) (iL (Wo [Y7.mk [k1+1]]) 1 1 fun v10=>Z2 1 (Zm (XS g1 ds1.length c1 k1.toNat 3 k1) (ZE 0 [(50,.agg [.i 0,.i 0,Qm [Y7.mk [k1+1]]])] (BU 3 g1 ds1.length c1 3 (k1.toNat * 3) [.i 0,.i 0,Qm [Y7.mk [k1+1]]] (Zc (X0 ds1)) (Zc (X0 (ds1.set k1.toNat (Zd.mk 0 0 [Y7.mk [(k1+1)]])))) (by rw [A5];simp only [YD,X8];omega) (D4 (Zd.mk 0 0 [Y7.mk [(k1+1)]]) om) (ie (ZJ ⟨(ds1.set k1.toNat (Zd.mk 0 0 [Y7.mk [(k1+1)]])),(⟨some ⟨g1,0,none⟩,ds1.length,c1⟩:Hd),((p+1)+1)+1,(hga.set _ (by simp)),ob,rfl,rfl⟩ (wk [3,0] fl)))))))))))
  refine ar (YR (k2==3) Zz (fun Yq=>?_) (fun Yq=>?_))
  ·refine az (Z2 2 (iL (Z7 [0,2,1]) 3 1 fun v11=>ZE 0 [(56,Z6 [0,2,1])] (ic [1] (WW rd bs (((p+1)+1)+1) [0,2,1] (Zt:=ob)) ?_)))
   rintro _ _ ⟨z4,rfl,rfl,Wu⟩
   exact ZE 1 [(58,.agg [.i 2,.i z4,.sl [] none])] (iL (X0 [Zd.mk 2 z4 []]) 1 3 fun v12=>ZE 0 [(59,YM [Zd.mk 2 z4 []])] (Dh 3 ds1.length (⟨some ⟨g1,0,none⟩,ds1.length,c1⟩:Hd) 3 (Zc (X0 ds1)) (X0 [Zd.mk 2 z4 []]) none (A5 _) (KE _) (CU _) (by simp [X0]) (by simp<;>omega) fun v13=>Z1 (ZJ ⟨(ds1++[Zd.mk 2 z4 []]),v13,(((p+1)+1)+1)+1,(hga.app (by simp;omega) (by simp)),ob,rfl,rfl⟩ (wk [2,0] fl (e:=(rc (rr (ls:=Zc (X0 ds1)++Zc (X0 [Zd.mk 2 z4 []])) (F7 _ _) rz)))))))
  refine ar (YR (k2==4) Zz (fun XH=>?_) (fun XH=>?_))
  ·refine az (Z2 3 (ic [0] (XN rd bs (((p+1)+1)+1) 2 (Zt:=ob)) ?_))
   rintro _ _ ⟨k3,rfl,rfl,V5⟩
   have qhp8:=V5.lt om
   refine iL (Z7 []) 0 1 fun v14=>ZE 0 [(67,Z6 [])] (Zu [] (UO []) (iL (Z7 [2]) 1 1 fun v15=>ZE 0 [(69,Z6 [2])] (Zu [] (UO [2]) (iL (Z7 []) 0 1 fun v16=>ZE 0 [(71,Z6 [])] (Zu [] (UO []) (iL (Z7 []) 0 1 fun v17=>ZE 0 [(73,Z6 [])] (Zu [] (UO []) (iL (Wo [Y7.mk [],Y7.mk [2],Y7.mk [],Y7.mk []]) 4 1 fun v18=>Z2 1 (ic [5] (XN rd bs ((((p+1)+1)+1)+1) 3 (Zt:=ob)) ?_)))))))))
   rintro _ _ ⟨k4,rfl,rfl,Vm⟩
   have qhp9:=Vm.lt om
   exact Zm (Ke (es:=Wo [Y7.mk [],Y7.mk [2],Y7.mk [],Y7.mk []]) (hv:=some v18) (l:=k4) (m:=(((Wo [Y7.mk [],Y7.mk [2],Y7.mk [],Y7.mk []]).length:Nat):Int)) (sz:=1) (es':=Wo ([Y7.mk [],Y7.mk [2],Y7.mk [],Y7.mk []].drop k4.toNat)) kr om (by simp<;>omega) (by simp<;>omega) (ES _) (by first|(simp only [VV,Va,ET,ER];done)|(simp only [VV,Va,ET,ER];rfl)|(simp [ET,ER];done))) (Z2 1 (Zm (XS g1 ds1.length c1 k1.toNat 3 k1) (BU 6 g1 ds1.length c1 3 (k1.toNat * 3) [.i k3,.i 0,Qm ([Y7.mk [],Y7.mk [2],Y7.mk [],Y7.mk []].drop k4.toNat)] (Zc (X0 ds1)) (Zc (X0 (ds1.set k1.toNat (Zd.mk k3 0 ([Y7.mk [],Y7.mk [2],Y7.mk [],Y7.mk []].drop k4.toNat))))) (by rw [A5];simp only [YD,X8];omega) (D4 (Zd.mk k3 0 ([Y7.mk [],Y7.mk [2],Y7.mk [],Y7.mk []].drop k4.toNat)) om) (ie (ZJ ⟨(ds1.set k1.toNat (Zd.mk k3 0 ([Y7.mk [],Y7.mk [2],Y7.mk [],Y7.mk []].drop k4.toNat))),(⟨some ⟨g1,0,none⟩,ds1.length,c1⟩:Hd),((((p+1)+1)+1)+1)+1,(hga.set _ ⟨by simp,fun c hc=>(by decide:∀c∈[Y7.mk [],Y7.mk [2],Y7.mk [],Y7.mk []],c.fields.length<=4) c (List.mem_of_mem_drop hc)⟩),ob,rfl,rfl⟩ (wk [1,0] fl))))))
  refine ar (YR (k2==5) Zz (fun XI=>?_) (fun XI=>?_))
  ·exact az (ZE 3 [(84,.agg [.i 0,.i 0,.sl [] none]),(85,.agg [.i 3,.i 0,.sl [] none])] (iL (X0 [Zd.mk 0 0 [],Zd.mk 3 0 []]) 2 3 fun v19=>ZE 0 [(86,YM [Zd.mk 0 0 [],Zd.mk 3 0 []])] (Dh 2 ds1.length (⟨some ⟨g1,0,none⟩,ds1.length,c1⟩:Hd) 3 (Zc (X0 ds1)) (X0 [Zd.mk 0 0 [],Zd.mk 3 0 []]) none (A5 _) (KE _) (CU _) (by simp [X0]) (by simp<;>omega) fun v20=>Z1 (ZJ ⟨(ds1++[Zd.mk 0 0 [],Zd.mk 3 0 []]),v20,((p+1)+1)+1,(hga.app (by simp;omega) (by simp)),ob,rfl,rfl⟩ (wk [2,0] fl (e:=(rc (rr (ls:=Zc (X0 ds1)++Zc (X0 [Zd.mk 0 0 [],Zd.mk 3 0 []])) (F7 _ _) rz))))))))
  exact ak (ZJ ⟨ds1,(⟨some ⟨g1,0,none⟩,ds1.length,c1⟩:Hd),((p+1)+1)+1,hga,ob,rfl,rfl⟩ (wk [0,0] fl))
 rintro F h ⟨dq,vq,pq,Qj,Fw,rfl,rfl⟩
 exact Ya (Z09 2 1 (v:=vq) (X0 dq) (KE _) (ZK (r2 [1] [K7 dq vq.v] ⟨dq,pq,rfl,rfl,⟨Qj,Fw⟩⟩ (Ze.forget _ _))))
theorem Z4p (ds:List Zd) (n:Nat) (hz:JQ ds:=by exact ob) (hn:n<ds.length:=by exact ob):Zf 268 [YM ds,.i n] [] (Yt (.b (JX ds n))):=by
 have hl_ds:ds.length<=4294967296:=by have:=hz.len;omega
 refine ZD 100 Tryz.func268 (Ya (Yg 2 ?_))
 obtain ⟨x1,Z5⟩:=Zq ds n om
 have hdo:=HC Z5
 have hz1:=hz.cons_at Z5
 refine Zm (Zh none (n:Int) 3 (U1 Z5)) (Z2 1 (iA [.i 0,.i 0,nl] fun b1=>ZA 0 b1 (FE x1) (ie (Y6 2 [0] (iw (QX x1.cons) (ZT ((x1.cons.length:Int)>0) (fun Z9=>?_) (fun Z9=>?_)))))))
 ·refine Y6 2 [0] (iw (QX x1.cons) (WQ 9 [0,5] [(24,.b ((decide ((x1.cons.length:Int)>3))||(x1.frm != 0)))] (fun gz=>gz) ?_ (fun hj1=>?_)))
  ·refine XM [0,5] [(29,.b (((decide ((x1.cons.length:Int)>3))||(x1.frm != 0))||(x1.to_ != 0)))] (fun gz=>gz) ?_ ?_
   ·refine Z2 1 (ib (b:=((decide ((x1.cons.length:Int)>3))||(x1.frm != 0))) 25 (fun Zb=>?_) (fun Zb=>?_))
    ·have ZX:((x1.cons.length:Int)>3)∨(x1.frm≠0):=((Xo dq Xd)).1 Zb
     exact Z1 (wk [0] (ZM true Zb fl))
    have Y9:¬(((x1.cons.length:Int)>3)∨(x1.frm≠0)):=YS (Xo dq Xd) Zb
    exact Vx [0] (wk [0] (ZM (x1.to_ != 0) Zb fl))
   refine ac (((decide ((x1.cons.length:Int)>3))||(x1.frm != 0))||(x1.to_ != 0)) (p:=(((x1.cons.length:Int)>3)∨(x1.frm≠0))∨(x1.to_≠0)) (Xo (Xo dq Xd) Xd) (fun Zg=>?_) (fun Zg=>?_)
   ·exact ar (Zs (Y3 (.b false) (lb (by clear Z5;first|rfl|omega|grind [KC]))))
   refine ak (Y1 (ab 0 (Y0 (fun fz gz m F h=>∃(k:Nat),(k<=x1.cons.length)/\(Qv ds.length (x1.cons.drop k)=Qv ds.length x1.cons)/\F=sF [0,5] fz [(6,.i k)]/\h=gz/\m=x1.cons.length-k) _ _ _ ⟨0,ob,ob,rfl,rfl,rfl⟩ (wk [0] (Yd fl)) ?_)))
   rintro m F h ⟨k,Yf,Zi,rfl,rfl,rfl⟩
   refine Y6 3 [0] (iw (QX x1.cons) (ZT ((k:Int)<(x1.cons.length:Int)) (fun ZF=>?_) (fun ZF=>?_)))
   ·refine ak (aq (ab 1 (Zo 3 [0] ?_)))
    obtain ⟨x2,Zv⟩:=Zq x1.cons k om
    refine Zm (Zh none (k:Int) 1 (CT Zv)) (Z2 2 (iw (Ye x2.fields) (XM [0,5,6] [(55,.b ((decide ((x2.fields.length:Int)>3))||(!VY ds.length x2.fields)))] (fun gz=>gz) ?_ ?_)))
    ·refine Z2 2 (ib (b:=(decide ((x2.fields.length:Int)>3))) 45 (fun ZP=>?_) (fun ZP=>?_))
     ·have YL:(x2.fields.length:Int)>3:=(dq).1 ZP
      exact Z1 (wk [0] (ZM true ZP fl))
     have YX:¬((x2.fields.length:Int)>3):=YS dq ZP
     exact ZU 4 [0] (Zm (Zh none (k:Int) 1 (CT Zv)) (Z2 2 (Zu [] (MI ds x2.fields) (Z1 (wk [0] (ZM (!VY ds.length x2.fields) ZP fl))))))
    refine ac ((decide ((x2.fields.length:Int)>3))||(!VY ds.length x2.fields)) (p:=((x2.fields.length:Int)>3)∨(¬(VY ds.length x2.fields=true))) (Xo dq (Xh Iff.rfl)) (fun Yq=>?_) (fun Yq=>?_)
    ·refine Ya ?_
     rw [Yo Zv] at Zi
     exact ZK (Y3 (.b false) (lb (by clear Z5 Zv;first|rfl|omega|grind [Qv,AJ,KC])))
    refine ak (az (Z2 1 (ZG k (Z1 ?_))))
    have hdr:=Yo Zv
    exact ZI ⟨k+1,ob,(by rw [hdr] at Zi;clear hdr Z5 Zv;grind [Qv,AJ]),rfl,rfl,rfl⟩ (wk [0] (ZL k fl))
   refine ax 0 (Ya ?_)
   try rw [Xz (xs:=x1.cons) (k:=k) om] at Zi
   exact ZK (Y3 (.b true) (lb (by clear Z5;first|rfl|omega|grind [Qv,AJ,KC])))
  refine Z2 2 (ib (b:=(decide ((x1.cons.length:Int)>3))) 20 (fun YW=>?_) (fun YW=>?_))
  ·have X9:(x1.cons.length:Int)>3:=(dq).1 YW
   exact Z2 4 (Xm (wk [0] (ZM true YW fl)) hj1)
  have XV:¬((x1.cons.length:Int)>3):=YS dq YW
  exact ZU 4 [0] (Xm (wk [0] (ZM (x1.frm != 0) YW fl)) hj1)
 refine ak (Y1 (ab 2 (Y0 (fun fz gz m F h=>∃(j:Nat),(j<=n)/\(JY x1 ((ds.take n).drop j)=JY x1 (ds.take n))/\F=sF [0,1,5] fz [(7,.i j)]/\h=gz/\m=n-j) _ _ _ ⟨0,ob,ob,rfl,rfl,rfl⟩ (wk [0] (Yd fl)) ?_)))
 rintro m F h ⟨j,VZ,Wi,rfl,rfl,rfl⟩
 refine X7 (ZT ((j:Int)<(n:Int)) (fun XH=>?_) (fun XH=>?_))
 ·refine ak (aq (ab 3 (aD 27 (Zk 25 27 [0,1] ?_))))
  obtain ⟨x3,X3⟩:=Zq ds j om
  refine dx 2 (Zh none (j:Int) 3 (U1 X3)) (Zk 22 24 [3,4] (dw 5 (QX x3.cons) (AN [0,1,5,7] [(87,.b (((x3.cons.length:Int)==0)&&((x3.frm==x1.frm)&&(x3.to_==x1.to_))))] (fun gz=>gz) ?_ ?_)))
  ·refine Zk 19 21 [6,7] (db (b:=((x3.cons.length:Int)==0)) 68 (fun We=>?_) (fun We=>?_))
   ·have Wu:(x3.cons.length:Int)=0:=(Zz).1 We
    refine Zk 17 19 [8,9] (dx 10 (Zh none (j:Int) 3 (U1 X3)) (ZH 9 16 [11,12,13,14,15,16,17] [0] (db (b:=(x3.frm==x1.frm)) 78 (fun Uk=>?_) (fun Uk=>?_))))
    ·have V5:x3.frm=x1.frm:=(Zz).1 Uk
     exact Zk 7 9 [18,19] (dx 20 (Zh none (j:Int) 3 (U1 X3)) (ZH 0 6 [21,22,23,24,25,26] [0] (de (wk [0] (ZM (x3.to_==x1.to_) (And.intro We Uk) fl)))))
    have Vm:¬(x3.frm=x1.frm):=YS Zz Uk
    exact Zk 0 9 [18,19,20,21,22,23,24,25,26] (de (wk [0] (ZM false (And.intro We Uk) fl)))
   have US:¬((x3.cons.length:Int)=0):=YS Zz We
   exact Zk 0 19 [8,9,10,11,12,13,14,15,16,17,18,19,20,21,22,23,24,25,26] (de (wk [0] (ZM false We fl)))
  refine ac (((x3.cons.length:Int)==0)&&((x3.frm==x1.frm)&&(x3.to_==x1.to_))) (p:=((x3.cons.length:Int)=0)/\((x3.frm=x1.frm)/\(x3.to_=x1.to_))) (Xv Zz (Xv Zz Zz)) (fun XI=>?_) (fun XI=>?_)
  ·refine Ya ?_
   rw [Yo (show (ds.take n)[j]? = some x3 by rw [T5,Zw om];exact X3),JY,Zw om] at Wi
   exact ZK (Y3 (.b false) (lb (by clear Z5 X3;first|rfl|omega|grind [KC])))
  refine ak (az (Z2 1 (ZG j (hb:=(by have:=hz.len;omega)) (Z1 ?_))))
  have hdr:=Yo X3
  exact ZI ⟨j+1,ob,(by rw [Yo (show (ds.take n)[j]? = some x3 by rw [T5,Zw om];exact X3),JY,Zp om] at Wi;exact Wi),rfl,rfl,rfl⟩ (wk [0] (ZL j fl))
 refine ax 2 (Zo 3 [0] (iw (Tw ds) (Zu [] (Ub x1.frm 0 (ds.length:Int)) (WQ 12 [] [(99,.b ((decide (0<=x1.frm/\x1.frm<=(ds.length:Int)))&&(decide (0<=x1.to_/\x1.to_<=(ds.length:Int)))))] (fun gz=>gz) ?_ (fun hj2=>?_)))))
 ·refine Z1 ?_
  rw [Xz (show (ds.take n).length<=j by rw [Wr];omega),JY] at Wi
  exact ZK (Y3 (.b ((decide (0<=x1.frm/\x1.frm<=(ds.length:Int)))&&(decide (0<=x1.to_/\x1.to_<=(ds.length:Int))))) (lb (by clear Z5;first|rfl|omega|grind [KC])))
 refine Z2 1 (ib (b:=(decide (0<=x1.frm/\x1.frm<=(ds.length:Int)))) 93 (fun TU=>?_) (fun TU=>?_))
 ·have UT:0<=x1.frm/\x1.frm<=(ds.length:Int):=(dq).1 TU
  exact ZU 3 [0] (iw (Tw ds) (Zu [] (Ub x1.to_ 0 (ds.length:Int)) (Z2 1 (Xm (wk [0] (ZM (decide (0<=x1.to_/\x1.to_<=(ds.length:Int))) TU fl)) hj2))))
 have UU:¬(0<=x1.frm/\x1.frm<=(ds.length:Int)):=YS dq TU
 exact Z2 6 (Xm (wk [0] (ZM false TU fl)) hj2)
theorem Z4v (ds:List Zd) (hz:JQ ds:=by exact ob):Zf 222 [YM ds] [] (Yt (.b (Q6 ds))):=by
 have hzl:=hz.len
 refine ZD 17 Tryz.func222 (Ya (X4 1 (iw (Tw ds) (ZT ((ds.length:Int)>4) (fun Z9=>?_) (fun Z9=>?_)))))
 ·exact ar (Zs (Y3 (.b false) (lb (by first|rfl|omega|grind [Q6]))))
 refine ak (Y1 (ab 0 (Y0 (fun fz gz m F h=>∃(k:Nat),(k<=ds.length)/\(QW ds (ds.drop k) k=QW ds ds 0)/\F=sF [0] fz [(3,.i k)]/\h=gz/\m=ds.length-k) _ _ _ ⟨0,ob,ob,rfl,rfl,rfl⟩ (wk [] (Yd fl)) ?_)))
 rintro m F h ⟨k,Yf,Zi,rfl,rfl,rfl⟩
 refine X4 2 (iw (Tw ds) (ZT ((k:Int)<(ds.length:Int)) (fun Zg=>?_) (fun Zg=>?_)))
 ·refine ak (aq (ab 1 (Yg 2 (Zu [] (Z4p ds k) (YR (!JX ds k) (p:=¬(JX ds k=true)) (Xh Iff.rfl) (fun ZF=>?_) (fun ZF=>?_))))))
  ·refine Ya ?_
   try rw [Xz (xs:=ds) (k:=k) om] at Zi
   obtain ⟨x1,Z5⟩:=Zq ds k om
   rw [Yo Z5] at Zi
   exact ZK (Y3 (.b false) (lb (by first|rfl|omega|grind [QW,Q6])))
  refine ak (az (Z2 1 (ZG k (Z1 ?_))))
  obtain ⟨x1,Z5⟩:=Zq ds k om
  have hdr:=Yo Z5
  exact ZI ⟨k+1,ob,(by rw [hdr] at Zi;clear hdr ;grind [QW]),rfl,rfl,rfl⟩ (wk [] (ZL k fl))
 refine ax 0 (Ya ?_)
 try rw [Xz (xs:=ds) (k:=k) om] at Zi
 exact ZK (Y3 (.b true) (lb (by first|rfl|omega|grind [QW,Q6])))
theorem Z4g (n:Zx) (hz:n.routines.length<=4194304:=by exact ob):Zf 171 [Yl n] [] (Yt (.agg [YM n.decls,.sl (Vl (n.routines.map UH)) none])):=by
 refine ZD 35 Tryz.func171 (ar (iA (YN n) fun b1=>iA [nl,nl] fun b2=>ie (Zo 2 [1] (iL (Vl []) 0 5 fun v1=>Z2 1 (iA [nl,nl] fun b3=>?_)))))
 refine ZA 0 b3 [YM n.decls,.sl (Vl []) (some v1)] (ie (Y1 (ab 0 (Y0 (fun fz gz m F h=>∃(k:Nat) (v:Value),(k<=n.routines.length)/\F=sF [1,2,3] fz [(4,.i k)]/\h=[.obj b3 [YM n.decls,.sl (Vl ((n.routines.take k).map UH)) (some v)],Za gz 2,Za gz 3,.tail v 5]/\m=n.routines.length-k) _ _ _ ⟨0,v1,ob,rfl,rfl,rfl⟩ (wk [0,1,1,0] (Yd fl)) ?_))))
 rintro m F h ⟨k,v,Yf,rfl,rfl,rfl⟩
 refine Y6 3 [2] (iw (Up n.routines) (ZT ((k:Int)<(n.routines.length:Int)) (fun Z9=>?_) (fun Z9=>?_)))
 ·refine ak (aq (ab 1 (aE 19 (ZH 14 19 [0,1,2,3,4] [0,2] ?_))))
  obtain ⟨x1,Z5⟩:=Zq n.routines k om
  refine dx 5 (Zh none (k:Int) 5 (WB Z5)) (ZH 8 13 [6,7,8,9,10] [2] (dx 11 (Zh none (k:Int) 5 (WB Z5)) (Yh 4 7 [12,13,14] [(30,.agg [Z6 x1.params,.i x1.result,.i 0,.i 0,.sl [] none])] (Z8 15 (dL 15 [0] [b3] (Vl [Sg.mk x1.params x1.result]) 1 5 fun v2=>Yh 3 3 [] [(31,.sl (Vl [Sg.mk x1.params x1.result]) none)] (Z8 16 (dp 16 4 [] [] (Vl ((n.routines.take (k+1)).map UH)) (Vl ((n.routines.take k).map UH)) (Vl [Sg.mk x1.params x1.result]) v none 5 (HH _) (HH _) (PI _) (by simp<;>omega) (by rw [Vh Z5];simp [Vl,UH]) fun v3=>Zk 1 2 [17] (Z8 18 (Yy 18 2 [] [] b3 [YM n.decls,.sl (Vl ((n.routines.take (k+1)).map UH)) (some v3)] (de (az (Z2 1 (ZG k (Z1 ?_))))))))))))))
  have hdr:=Yo Z5
  exact ZI ⟨k+1,v3,ob,rfl,rfl,rfl⟩ (wk [0,2,2,0] (ZL k fl))
 exact ax 0 (Zo 1 [0] (ZA 1 b2 [YM n.decls,.sl (Vl ((n.routines.take k).map UH)) (some v)] (ie (ZK (r3 [] [.agg [YM n.decls,.sl (Vl ((n.routines.take k).map UH)) (some v)]] [0] [(b2,b2)] ⟨rfl,rfl⟩ (Ze.agg (.cons (lr _) (.cons (Ze.sl _ (Ys Vl (by rw [show k=n.routines.length by omega,Va]))) .nil))))))))
theorem Z4u (ds:List Zd) (fs:List Sg) (hz:JQ ds:=by exact ob) (hf:∀f∈fs,f.params.length<=4194304):Zf 170 [.agg [YM ds,.sl (Vl fs) none]] [] (Yt (.b (QJ ds fs))):=by
 have hzl:=hz.len
 refine ZD 64 Tryz.func170 (ar (iA [YM ds,.sl (Vl fs) none] fun b1=>Z1 (Y6 2 [0] (Zu [] (Z4v ds) (XM [1] [(15,.b ((!Q6 ds)||(!(decide (1<=(fs.length:Int)/\(fs.length:Int)<=4)))))] (fun gz=>gz) ?_ ?_)))))
 ·refine Z2 2 (ib (b:=(!Q6 ds)) 9 (fun Zb=>?_) (fun Zb=>?_))
  ·have ZX:¬(Q6 ds=true):=((Xh Iff.rfl)).1 Zb
   exact Z1 (wk [0] (ZM true Zb fl))
  have Y9:¬(¬(Q6 ds=true)):=YS (Xh Iff.rfl) Zb
  exact ZU 2 [0] (iw (HI fs) (Zu [] (Ub (fs.length:Int) 1 4) (Z1 (wk [0] (ZM (!(decide (1<=(fs.length:Int)/\(fs.length:Int)<=4))) Zb fl)))))
 refine ac ((!Q6 ds)||(!(decide (1<=(fs.length:Int)/\(fs.length:Int)<=4)))) (p:=(¬(Q6 ds=true))∨(¬(1<=(fs.length:Int)/\(fs.length:Int)<=4))) (Xo (Xh Iff.rfl) (Xh dq)) (fun Z9=>?_) (fun Z9=>?_)
 ·exact ar (Zs (Y3 (.b false) (lb (by first|rfl|omega|grind [QJ]))))
 refine ak (Y1 (ab 0 (Y0 (fun fz gz m F h=>∃(k:Nat),(k<=fs.length)/\(J2 ds.length (fs.drop k)=J2 ds.length fs)/\F=sF [1] fz [(3,.i k)]/\h=gz/\m=fs.length-k) _ _ _ ⟨0,ob,ob,rfl,rfl,rfl⟩ (wk [0] (Yd fl)) ?_)))
 rintro m F h ⟨k,Yf,Zi,rfl,rfl,rfl⟩
 refine Y6 3 [0] (iw (HI fs) (ZT ((k:Int)<(fs.length:Int)) (fun Zg=>?_) (fun Zg=>?_)))
 ·refine ak (aq (ab 1 (Zo 3 [0] ?_)))
  obtain ⟨x1,Z5⟩:=Zq fs k om
  refine Zm (Zh none (k:Int) 5 (EY Z5)) (Z2 1 (iA [nl,.i 0,.i 0,.i 0,nl] fun b2=>ZA 0 b2 [Z6 x1.params,.i x1.result,.i 0,.i 0,.sl [] none] (ie (Zo 2 [0] (iw (Ye x1.params) (WQ 12 [1,3,4] [(39,.b ((decide ((x1.params.length:Int)>3))||(!VY ds.length x1.params)))] (fun gz=>gz) ?_ (fun hj1=>?_)))))))
  ·refine XM [1,3] [(48,.b (((decide ((x1.params.length:Int)>3))||(!VY ds.length x1.params))||(!(decide (0<=x1.result/\x1.result<=(ds.length:Int))))))] (fun gz=>gz) ?_ ?_
   ·refine Z2 1 (ib (b:=((decide ((x1.params.length:Int)>3))||(!VY ds.length x1.params))) 40 (fun ZP=>?_) (fun ZP=>?_))
    ·have YL:((x1.params.length:Int)>3)∨(¬(VY ds.length x1.params=true)):=((Xo dq (Xh Iff.rfl))).1 ZP
     exact Z1 (wk [0,0] (ZM true ZP fl))
    have YX:¬(((x1.params.length:Int)>3)∨(¬(VY ds.length x1.params=true))):=YS (Xo dq (Xh Iff.rfl)) ZP
    exact ZU 4 [0,1] (iw (Tw ds) (Zu [] (Ub x1.result 0 (ds.length:Int)) (Z1 (wk [0,0] (ZM (!(decide (0<=x1.result/\x1.result<=(ds.length:Int)))) ZP fl)))))
   refine ac (((decide ((x1.params.length:Int)>3))||(!VY ds.length x1.params))||(!(decide (0<=x1.result/\x1.result<=(ds.length:Int))))) (p:=(((x1.params.length:Int)>3)∨(¬(VY ds.length x1.params=true)))∨(¬(0<=x1.result/\x1.result<=(ds.length:Int)))) (Xo (Xo dq (Xh Iff.rfl)) (Xh dq)) (fun ZF=>?_) (fun ZF=>?_)
   ·refine Ya ?_
    rw [Yo Z5] at Zi
    exact ZK (Y3 (.b false) (lb (by clear Z5;first|rfl|omega|grind [J2,Ap,QJ])))
   refine ak (az (Z2 1 (ZG k (Z1 ?_))))
   have hdr:=Yo Z5
   exact ZI ⟨k+1,ob,(by rw [hdr] at Zi;clear hdr Z5;grind [J2,Ap]),rfl,rfl,rfl⟩ (wk [1] (ZL k fl))
  refine Z2 2 (ib (b:=(decide ((x1.params.length:Int)>3))) 32 (fun YW=>?_) (fun YW=>?_))
  ·have X9:(x1.params.length:Int)>3:=(dq).1 YW
   exact Z2 7 (Xm (wk [0,0] (ZM true YW fl)) hj1)
  have XV:¬((x1.params.length:Int)>3):=YS dq YW
  exact ZU 4 [1,0] (Zu [] (MI ds x1.params) (Z2 2 (Xm (wk [0,0] (ZM (!VY ds.length x1.params) YW fl)) hj1)))
 refine ax 0 (Zo 2 [0] ?_)
 obtain ⟨x2,Zv⟩:=Zq fs 0 om
 have hfo:=PV Zv
 refine Zm (Zh none 0 5 (EY Zv)) (Z2 2 (iw (Ye x2.params) (WQ 15 [] [(63,.b (((x2.params.length:Int)==0)&&(x2.result==0)))] (fun gz=>gz) ?_ (fun hj2=>?_))))
 ·refine Z1 ?_
  try rw [Xz (xs:=fs) (k:=k) om] at Zi
  exact ZK (Y3 (.b (((x2.params.length:Int)==0)&&(x2.result==0))) (lb (by clear Zv;first|rfl|omega|grind [J2,Ap,QJ])))
 refine Z2 2 (ib (b:=((x2.params.length:Int)==0)) 56 (fun We=>?_) (fun We=>?_))
 ·have Wu:(x2.params.length:Int)=0:=(Zz).1 We
  exact ZU 2 [0] (Zm (Zh none 0 5 (EY Zv)) (Z2 4 (Xm (wk [0] (ZM (x2.result==0) We fl)) hj2)))
 have V5:¬((x2.params.length:Int)=0):=YS Zz We
 exact Z2 7 (Xm (wk [0] (ZM false We fl)) hj2)
theorem Z4r (ps:LI) (ls:LI) (hl_ps:ps.length<=4294967296:=by exact ob) (hl_ls:ls.length<=4294967296:=by exact ob):Zf 172 [Z6 ps,Z6 ls] [] (Yt (.b (Cr ps ls))):=by
 refine ZD 47 Tryz.func172 (Ya (Y1 (ab 0 (Y0 (fun fz gz m F h=>∃(k:Nat),(k<=ls.length)/\(KU ps (ls.drop k) (if k=0 then none else ls[k-1]?)=Cr ps ls)/\F=sF [0,1] fz [(5,.i k)]/\h=gz/\m=ls.length-k) _ _ _ ⟨0,ob,ob,rfl,rfl,rfl⟩ (wk [] (Yd fl)) ?_))))
 rintro m F h ⟨k,Yf,Zi,rfl,rfl,rfl⟩
 refine X4 2 (iw (Ye ls) (ZT ((k:Int)<(ls.length:Int)) (fun Z9=>?_) (fun Z9=>?_)))
 ·refine ak (aq (ab 1 (aD 35 (Zk 33 35 [0,1] ?_))))
  obtain ⟨x1,Z5⟩:=Zq ls k om
  refine dx 2 (Zh none (k:Int) 1 (ZZ Z5)) (Zk 30 32 [3,4] (dw 5 (Ye ps) (da 6 (((ps.length:Int)-1)) (((ps.length:Int))-(1)) (Z8 7 (Yp 7 [] [] [] (Ub x1 0 ((ps.length:Int)-1)) (Zk 25 27 [8,9] (db (b:=(!(decide (0<=x1/\x1<=((ps.length:Int)-1))))) 21 (fun Zb=>?_) (fun Zb=>?_))))))))
  ·have ZX:¬(0<=x1/\x1<=((ps.length:Int)-1)):=((Xh dq)).1 Zb
   refine Zk 0 25 [10,11,12,13,14,15,16,17,18,19,20,21,22,23,24,25,26,27,28,29,30,31,32,33,34] (de (Vj (Ya ?_)))
   rw [Yo Z5] at Zi
   exact ZK (Y3 (.b false) (lb (by have hq:=FL (ps:=ps) (v:=x1) (r:=ls.drop (k+1)) (prev:=if k=0 then none else ls[k-1]?);rw [<-Zi,hq];rintro ⟨q1,q2,q3⟩;first|omega|(rw [hps] at q2;exact q2 (Ys some om))|(have:=q3 _ (by rw [Zp om,hls]);omega))))
  have Y9:¬(¬(0<=x1/\x1<=((ps.length:Int)-1))):=YS (Xh dq) Zb
  refine Zk 22 25 [10,11,12] (dx 13 (Zh none (k:Int) 1 (ZZ Z5)) (Zk 20 21 [14] ?_))
  obtain ⟨x2,Zv⟩:=Zq ps x1.toNat om
  have hps:=Zv
  refine dx 15 (Zh none x1 1 (ZZ Zv)) (Zk 15 19 [16,17,18,19] (db (b:=(x2==0)) 31 (fun ZP=>?_) (fun ZP=>?_)))
  ·have YL:x2=0:=(Zz).1 ZP
   refine Zk 0 15 [20,21,22,23,24,25,26,27,28,29,30,31,32,33,34] (de (Vj (Ya ?_)))
   rw [Yo Z5] at Zi
   exact ZK (Y3 (.b false) (lb (by have hq:=FL (ps:=ps) (v:=x1) (r:=ls.drop (k+1)) (prev:=if k=0 then none else ls[k-1]?);rw [<-Zi,hq];rintro ⟨q1,q2,q3⟩;first|omega|(rw [hps] at q2;exact q2 (Ys some om))|(have:=q3 _ (by rw [Zp om,hls]);omega))))
  have YX:¬(x2=0):=YS Zz ZP
  refine Zk 12 15 [20,21,22] (db (b:=(decide ((k:Int)>0))) 34 (fun YW=>?_) (fun YW=>?_))
  ·have X9:(k:Int)>0:=(dq).1 YW
   refine Zk 10 12 [23,24] (dx 25 (Zh none (k:Int) 1 (ZZ Z5)) (Zk 6 9 [26,27,28] (da 29 (((k-1:Nat):Int)) (((k:Int))-(1)) ?_)))
   obtain ⟨x3,X3⟩:=Zq ls (k-1) om
   have hls:=X3
   refine dx 30 (Zh none ((k-1:Nat):Int) 1 (ZZ X3)) (Zk 0 4 [31,32,33,34] (de (VA (x1<=x3) (fun Zg=>?_) (fun Zg=>?_))))
   ·refine Ya ?_
    rw [Yo Z5] at Zi
    exact ZK (Y3 (.b false) (lb (by have hq:=FL (ps:=ps) (v:=x1) (r:=ls.drop (k+1)) (prev:=if k=0 then none else ls[k-1]?);rw [<-Zi,hq];rintro ⟨q1,q2,q3⟩;first|omega|(rw [hps] at q2;exact q2 (Ys some om))|(have:=q3 _ (by rw [Zp om,hls]);omega))))
   refine ak (az (Z2 1 (ZG k (Z1 ?_))))
   have hl1:ls[k+1-1]? = some x1:=Z5
   have hlc:(0<=x1/\x1<=(ps.length:Int)-1)/\ps[x1.toNat]?≠some 0/\(∀p,(if k=0 then none else ls[k-1]?)=some p->p<x1):=⟨by omega,by rw [hps];intro q;cases q;omega,fun p hp=>by first|(rw [Zp om,hls] at hp;cases hp;omega)|(rw [Zw om] at hp;cases hp)⟩
   have hdr:=Yo Z5
   exact ZI ⟨k+1,ob,(by have hq:=Ld (r:=ls.drop (k+1)) hlc;rw [hdr,hq] at Zi;rw [Zp om,hl1];exact Zi),rfl,rfl,rfl⟩ (wk [] (ZL k fl))
  have XV:¬((k:Int)>0):=YS dq YW
  refine Zk 0 12 [23,24,25,26,27,28,29,30,31,32,33,34] (de (Wz (ak (az (Z2 1 (ZG k (Z1 ?_)))))))
  have hl1:ls[k+1-1]? = some x1:=Z5
  have hlc:(0<=x1/\x1<=(ps.length:Int)-1)/\ps[x1.toNat]?≠some 0/\(∀p,(if k=0 then none else ls[k-1]?)=some p->p<x1):=⟨by omega,by rw [hps];intro q;cases q;omega,fun p hp=>by first|(rw [Zp om,hls] at hp;cases hp;omega)|(rw [Zw om] at hp;cases hp)⟩
  have hdr:=Yo Z5
  exact ZI ⟨k+1,ob,(by have hq:=Ld (r:=ls.drop (k+1)) hlc;rw [hdr,hq] at Zi;rw [Zp om,hl1];exact Zi),rfl,rfl,rfl⟩ (wk [] (ZL k fl))
 refine ax 0 (Ya ?_)
 try rw [Xz (xs:=ls) (k:=k) om] at Zi
 exact ZK (Y3 (.b true) (lb (by first|rfl|omega|grind [KU])))
theorem Z4s (n:Zx) (hz:JQ n.decls:=by exact ob) (hr:∀r∈n.routines,r.params.length<=4194304/\r.lent.length<=4194304):Zf 127 [Yl n] [] (Yt (.b (K6 n))):=by
 have hzl:=hz.len
 refine ZD 35 Tryz.func127 (ar (iA (YN n) fun b1=>Z1 (Y6 2 [0] (iw (Up n.routines) (XM [1] [(13,.b ((decide ((n.routines.length:Int)>4))||(!QJ n.decls (n.routines.map UH))))] (fun gz=>gz) ?_ ?_)))))
 ·refine Z2 2 (ib (b:=(decide ((n.routines.length:Int)>4))) 8 (fun Zb=>?_) (fun Zb=>?_))
  ·have ZX:(n.routines.length:Int)>4:=(dq).1 Zb
   exact Z1 (wk [0] (ZM true Zb fl))
  have Y9:¬((n.routines.length:Int)>4):=YS dq Zb
  exact ZU 1 [0] (Zu [] (Z4g n) (Zu [] (Z4u n.decls (n.routines.map UH) (hf:=(by intro f hf;obtain ⟨r,h1,rfl⟩:=Wg.1 hf;exact (hr r h1).1))) (Z1 (wk [0] (ZM (!QJ n.decls (n.routines.map UH)) Zb fl)))))
 refine ac ((decide ((n.routines.length:Int)>4))||(!QJ n.decls (n.routines.map UH))) (p:=((n.routines.length:Int)>4)∨(¬(QJ n.decls (n.routines.map UH)=true))) (Xo dq (Xh Iff.rfl)) (fun Z9=>?_) (fun Z9=>?_)
 ·exact ar (Zs (Y3 (.b false) (lb (by first|rfl|omega|grind [K6]))))
 refine ak (Y1 (ab 0 (Y0 (fun fz gz m F h=>∃(k:Nat),(k<=n.routines.length)/\(Ah (n.routines.drop k)=Ah n.routines)/\F=sF [1] fz [(3,.i k)]/\h=gz/\m=n.routines.length-k) _ _ _ ⟨0,ob,ob,rfl,rfl,rfl⟩ (wk [0] (Yd fl)) ?_)))
 rintro m F h ⟨k,Yf,Zi,rfl,rfl,rfl⟩
 refine Y6 3 [0] (iw (Up n.routines) (ZT ((k:Int)<(n.routines.length:Int)) (fun Zg=>?_) (fun Zg=>?_)))
 ·refine ak (aq (ab 1 (aD 14 (ZH 11 14 [0,1,2] [0] ?_))))
  obtain ⟨x1,Z5⟩:=Zq n.routines k om
  refine dx 3 (Zh none (k:Int) 5 (WB Z5)) (ZH 5 10 [4,5,6,7,8] [0] (dx 9 (Zh none (k:Int) 5 (WB Z5)) (Zk 2 4 [10,11] (Z8 12 (Yp 12 [] [] [] (Z4r x1.params x1.lent (hl_ps:=(by have:=hr _ (ZW Z5);omega)) (hl_ls:=(by have:=hr _ (ZW Z5);omega))) (Zk 0 1 [13] (de (ac (!Cr x1.params x1.lent) (p:=¬(Cr x1.params x1.lent=true)) (Xh Iff.rfl) (fun ZF=>?_) (fun ZF=>?_)))))))))
  ·refine Ya ?_
   rw [Yo Z5] at Zi
   exact ZK (Y3 (.b false) (lb (by clear Z5;first|rfl|omega|grind [Ah,K6])))
  refine ak (az (Z2 1 (ZG k (Z1 ?_))))
  have hdr:=Yo Z5
  exact ZI ⟨k+1,ob,(by rw [hdr] at Zi;clear hdr Z5;grind [Ah]),rfl,rfl,rfl⟩ (wk [0] (ZL k fl))
 refine ax 0 (Ya ?_)
 try rw [Xz (xs:=n.routines) (k:=k) om] at Zi
 exact ZK (Y3 (.b true) (lb (by first|rfl|omega|grind [Ah,K6])))
theorem Qp (op:Int) :Zf 169 [.i op] [] (Yt (.b (XF op))):=by
 exact ZD 5 Tryz.func169 (Ya (Yg 1 (Zu [] (Ub op 0 11) (Zs (Y3 (.b (decide (0<=op/\op<=11))) (lb (by first|rfl|omega|grind [XF])))))))
theorem Z45 (op:Int) :Zf 210 [.i op] [] (Yt (.b (UR op))):=by
 refine ZD 21 Tryz.func210 (Ya (ar (WQ 6 [0] [(8,.b ((op==0)||(op==6)))] (fun gz=>gz) ?_ (fun hj1=>?_))))
 ·refine WQ 10 [0] [(12,.b (((op==0)||(op==6))||(op==8)))] (fun gz=>gz) ?_ (fun hj2=>?_)
  ·refine WQ 14 [0] [(16,.b ((((op==0)||(op==6))||(op==8))||(op==9)))] (fun gz=>gz) ?_ (fun hj3=>?_)
   ·refine WQ 18 [] [(20,.b (((((op==0)||(op==6))||(op==8))||(op==9))||(op==10)))] (fun gz=>gz) ?_ (fun hj4=>?_)
    ·exact Zs (Y3 (.b (((((op==0)||(op==6))||(op==8))||(op==9))||(op==10))) (lb (by rw [UR];simp only [Bool.or_assoc])))
    refine Z2 1 (ib (b:=((((op==0)||(op==6))||(op==8))||(op==9))) 17 (fun Zb=>?_) (fun Zb=>?_))
    ·exact Z2 3 (Xm (wk [] (ZM true Zb fl)) hj4)
    exact Z2 3 (Xm (wk [] (ZM (op==10) Zb fl)) hj4)
   refine Z2 1 (ib (b:=(((op==0)||(op==6))||(op==8))) 13 (fun ZP=>?_) (fun ZP=>?_))
   ·exact Z2 3 (Xm (wk [] (ZM true ZP fl)) hj3)
   exact Z2 3 (Xm (wk [] (ZM (op==9) ZP fl)) hj3)
  refine Z2 1 (ib (b:=((op==0)||(op==6))) 9 (fun YW=>?_) (fun YW=>?_))
  ·exact Z2 3 (Xm (wk [] (ZM true YW fl)) hj2)
  exact Z2 3 (Xm (wk [] (ZM (op==8) YW fl)) hj2)
 refine Z2 3 (ib (b:=(op==0)) 5 (fun We=>?_) (fun We=>?_))
 ·exact Z2 3 (Xm (wk [] (ZM true We fl)) hj1)
 exact Z2 3 (Xm (wk [] (ZM (op==6) We fl)) hj1)
theorem JH (us:LI) (args:LI) (tys:LI) (hl_us:us.length<=4294967296:=by exact ob) (hl_args:args.length<=4294967296:=by exact ob) (hl_tys:tys.length<=4294967296:=by exact ob):Zf 212 [Z6 us,Z6 args,Z6 tys] [] (Yt (.b (Wm us args tys))):=by
 refine ZD 42 Tryz.func212 (Ya (X4 1 (iw (Ye args) (Z2 1 (iw (Ye tys) (YR ((args.length:Int) != (tys.length:Int)) Xd (fun Z9=>?_) (fun Z9=>?_)))))))
 ·exact ar (Zs (Y3 (.b false) (lb (Nh om).symm)))
 refine ak (Y1 (ab 0 (Y0 (fun fz gz m F h=>∃(k:Nat),(k<=args.length)/\(Q4 us (args.drop k) (tys.drop k)=Wm us args tys)/\F=sF [0,1,2] fz [(7,.i k)]/\h=gz/\m=args.length-k) _ _ _ ⟨0,ob,ob,rfl,rfl,rfl⟩ (wk [] (Yd fl)) ?_)))
 rintro m F h ⟨k,Yf,Zi,rfl,rfl,rfl⟩
 refine X4 2 (iw (Ye args) (ZT ((k:Int)<(args.length:Int)) (fun Zg=>?_) (fun Zg=>?_)))
 ·refine ak (aq (ab 1 (aD 23 (Zk 21 23 [0,1] ?_))))
  obtain ⟨x1,Z5⟩:=Zq args k om
  refine dx 2 (Zh none (k:Int) 1 (ZZ Z5)) (Zk 18 20 [3,4] (dw 5 (Ye us) (da 6 (((us.length:Int)-1)) (((us.length:Int))-(1)) (Z8 7 (Yp 7 [] [] [] (Ub x1 0 ((us.length:Int)-1)) (Zk 13 15 [8,9] (db (b:=(!(decide (0<=x1/\x1<=((us.length:Int)-1))))) 28 (fun Zb=>?_) (fun Zb=>?_))))))))
  ·have ZX:¬(0<=x1/\x1<=((us.length:Int)-1)):=((Xh dq)).1 Zb
   refine Zk 0 13 [10,11,12,13,14,15,16,17,18,19,20,21,22] (de (Vj (Ya ?_)))
   obtain ⟨y,hy⟩:=Zq tys k om
   exact ZK (Y3 (.b false) (lb (by rw [<-Zi];exact (Ng Z5 hy (by rw [Ks ZX];simp)).symm)))
  have Y9:¬(¬(0<=x1/\x1<=((us.length:Int)-1))):=YS (Xh dq) Zb
  refine Zk 10 13 [10,11,12] (dx 13 (Zh none (k:Int) 1 (ZZ Z5)) (Zk 8 9 [14] ?_))
  obtain ⟨x2,Zv⟩:=Zq us x1.toNat om
  refine dx 15 (Zh none x1 1 (ZZ Zv)) (Zk 4 7 [16,17,18] ?_)
  obtain ⟨x3,X3⟩:=Zq tys k om
  refine dx 19 (Zh none (k:Int) 1 (ZZ X3)) (Zk 0 3 [20,21,22] (de (ac (x2 != x3) Xd (fun ZF=>?_) (fun ZF=>?_))))
  ·exact ar (Zs (Y3 (.b false) (lb (by rw [<-Zi];exact (Ng Z5 X3 (by rw [Jh om Zv];simpa using ZF)).symm))))
  refine ak (az (Z2 1 (ZG k (Z1 ?_))))
  have hdr:=Yo Z5
  exact ZI ⟨k+1,ob,(by rw [<-Zi];exact (Z5j Z5 X3 (by rw [Jh om Zv];congr 1;omega)).symm),rfl,rfl,rfl⟩ (wk [] (ZL k fl))
 exact ax 0 (ar (Zs (Y3 (.b true) (lb (by rw [<-Zi];exact (Z5i om om).symm)))))
theorem Z4q (us:LI) (s:Z3) (hl_us:us.length<=4294967296:=by exact ob):Zf 211 [Z6 us,Ym s] [] (Yt (.b (UJ us s.op s.into))):=by
 refine ZD 27 Tryz.func211 (ar (iA (Xf s) fun b1=>Z1 (X7 (Vx [0] (ac (s.into==0) Zz (fun Z9=>?_) (fun Z9=>?_))))))
 ·exact ar (Zs (Y3 (.b true) (lb (by rw [UJ,Zw Z9]))))
 refine ak (ar (WQ 10 [0,3] [(17,.b ((s.op==6)&&(decide (1<=s.into/\s.into<=(us.length:Int)))))] (fun gz=>gz) ?_ (fun hj1=>?_)))
 ·refine Z2 1 (ib (b:=((s.op==6)&&(decide (1<=s.into/\s.into<=(us.length:Int))))) 18 (fun Zb=>?_) (fun Zb=>?_))
  ·have ZX:(s.op=6)/\(1<=s.into/\s.into<=(us.length:Int)):=((Xv Zz dq)).1 Zb
   refine ZU 3 [0] (ia ((s.into-1)) ((s.into)-(1)) ?_)
   obtain ⟨x1,Z5⟩:=Zq us ((s.into-1).toNat) om
   exact Zm (Zh none (s.into-1) 1 (ZZ Z5)) (Zs (Y3 (.b (decide (x1>0))) (lb (by rw [UJ,Zp Z9];first|(rw [Zw om,Jh om Z5];rfl)|(rw [Zw om,Ks om];rfl)|(rw [Zp om])|(by_cases q:s.op=6;rw [Zw q,Ks om];rfl;rw [Zp q])))))
  have Y9:¬((s.op=6)/\(1<=s.into/\s.into<=(us.length:Int))):=YS (Xv Zz dq) Zb
  exact Zs (Y3 (.b false) (lb (by rw [UJ,Zp Z9];first|(rw [Zw om,Jh om Z5];rfl)|(rw [Zw om,Ks om];rfl)|(rw [Zp om])|(by_cases q:s.op=6;rw [Zw q,Ks om];rfl;rw [Zp q]))))
 refine ZU 4 [0] (ib (b:=(s.op==6)) 11 (fun ZP=>?_) (fun ZP=>?_))
 ·have YL:s.op=6:=(Zz).1 ZP
  exact ZU 3 [0] (iw (Ye us) (Zu [] (Ub s.into 1 (us.length:Int)) (Z2 1 (Xm (wk [0] (ZM (decide (1<=s.into/\s.into<=(us.length:Int))) ZP fl)) hj1))))
 have YX:¬(s.op=6):=YS Zz ZP
 exact Z2 6 (Xm (wk [0] (ZM false ZP fl)) hj1)
theorem Z4e (n:Zx) (us:LI) (s:Z3) (hn:Xk n:=by exact ob) (hl_us:us.length<=4294967296:=by exact ob) (ha:s.args.length<=1000000000:=by exact ob):Zf 215 [Yl n,Z6 us,Ym s] [] (Yt (.i (Ka n us s.op s.num s.args))):=by
 have hrl:=hn.len
 have hdl:=hn.decls.len
 refine ZD 69 Tryz.func215 (ar (iA (YN n) fun b1=>iA (Xf s) fun b2=>Z1 (Y6 4 [0,1] (iw (Up n.routines) (ia (((n.routines.length:Int)-1)) (((n.routines.length:Int))-(1)) (Zu [] (Ub s.num 0 ((n.routines.length:Int)-1)) (YR (!(decide (0<=s.num/\s.num<=((n.routines.length:Int)-1)))) (p:=¬(0<=s.num/\s.num<=((n.routines.length:Int)-1))) (Xh dq) (fun Z9=>?_) (fun Z9=>?_))))))))
 ·exact ar (Zs (Y3 (.i (-1)) (li (Z2r om).symm)))
 refine ak (Zo 4 [1,0] ?_)
 obtain ⟨x1,Z5⟩:=Zq n.routines s.num.toNat om
 have hrp:=hn.params_at Z5
 have hrt:=hn.lent_at Z5
 have hre:Ka n us s.op s.num s.args=JB n.decls us s.op s.args x1:=Z2q om Z5
 refine Zm (Zh none s.num 5 (WB Z5)) (Z2 1 (iA [nl,nl,.i 0,nl,.i 0] fun b3=>ZA 0 b3 (K4 x1) (ie (Zo 2 [0] (iw (Ye x1.params) (Z1 (X7 (Vx [1] (ac (s.op==9) Zz (fun Zg=>?_) (fun Zg=>?_))))))))))
 ·refine Y6 5 [1,0] (Zu [] (JH us s.args x1.params) (YR (!Wm us s.args x1.params) (p:=¬(Wm us s.args x1.params=true)) (Xh Iff.rfl) (fun ZF=>?_) (fun ZF=>?_)))
  ·exact ar (Zs (Y3 (.i (-1)) (li (by clear Z5;first|rfl|omega|grind [JB,BA]))))
  exact ak (A7 [0] (ZK (Y3 (.i x1.result) (li (by clear Z5;first|rfl|omega|grind [JB,BA])))))
 refine ak (aq (aD 20 (AN [3,7,8] [(57,.b (((x1.params.length:Int)==0)||((decide ((x1.lent.length:Int)>0))||(!Wm us s.args (x1.params.take (x1.params.length-1))))))] (fun gz=>gz) ?_ ?_)))
 ·refine Zk 17 20 [0,1,2] (db (b:=((x1.params.length:Int)==0)) 40 (fun Zb=>?_) (fun Zb=>?_))
  ·have ZX:(x1.params.length:Int)=0:=(Zz).1 Zb
   exact Zk 0 17 [3,4,5,6,7,8,9,10,11,12,13,14,15,16,17,18,19] (de (ZV 3 (ZM true Zb fl)))
  have Y9:¬((x1.params.length:Int)=0):=YS Zz Zb
  refine ZH 15 17 [3,4] [0] (dw 5 (Ye x1.lent) (Zk 11 14 [6,7,8] (db (b:=(decide ((x1.lent.length:Int)>0))) 46 (fun ZP=>?_) (fun ZP=>?_))))
  ·have YL:(x1.lent.length:Int)>0:=(dq).1 ZP
   exact Zk 0 11 [9,10,11,12,13,14,15,16,17,18,19] (de (ZV 3 (ZM true (And.intro Zb ZP) fl)))
  have YX:¬((x1.lent.length:Int)>0):=YS dq ZP
  exact ZH 5 11 [9,10,11,12,13,14] [1,0] (da 15 (((x1.params.length-1:Nat):Int)) (((x1.params.length:Int))-(1)) (dx 16 (Ke (es:=Z7 x1.params) (hv:=none) (l:=0) (m:=((x1.params.length-1:Nat):Int)) (sz:=1) (es':=Z7 (x1.params.take (x1.params.length-1))) kr om (by simp<;>omega) (by simp<;>omega) (Yw _) (by first|(simp only [VV,Va,A0,AR];done)|(simp only [VV,Va,A0,AR];rfl)|(simp [A0,AR];done))) (Z8 17 (Yp 17 [] [] [] (JH us s.args (x1.params.take (x1.params.length-1))) (Zk 0 2 [18,19] (de (ZV 3 (ZM (!Wm us s.args (x1.params.take (x1.params.length-1))) (And.intro Zb ZP) fl))))))))
 refine ac (((x1.params.length:Int)==0)||((decide ((x1.lent.length:Int)>0))||(!Wm us s.args (x1.params.take (x1.params.length-1))))) (p:=((x1.params.length:Int)=0)∨(((x1.lent.length:Int)>0)∨(¬(Wm us s.args (x1.params.take (x1.params.length-1))=true)))) (Xo Zz (Xo dq (Xh Iff.rfl))) (fun Yq=>?_) (fun Yq=>?_)
 ·exact ar (Zs (Y3 (.i (-1)) (li (by clear Z5;first|rfl|omega|grind [JB,BA]))))
 refine ak (aD 12 (ZH 7 12 [0,1,2,3,4] [2,0] (da 5 (((x1.params.length-1:Nat):Int)) (((x1.params.length:Int))-(1)) ?_)))
 obtain ⟨x2,Zv⟩:=Zq x1.params (x1.params.length-1) om
 have hgl:=So Zv
 exact dx 6 (Zh none ((x1.params.length-1:Nat):Int) 1 (ZZ Zv)) (ZH 2 5 [7,8,9] [0] (Z8 10 (Yp 10 [] [] [] (MK n.decls x2 x1.result) (Zk 0 1 [11] (de (ZK (Y3 (.i (QP n.decls x2 x1.result)) (li (by clear Z5 Zv;first|rfl|omega|grind [JB,BA])))))))))
theorem Z43 (n:Zx) (us:LI) (s:Z3) (hn:Xk n:=by exact ob) (hl_us:us.length<=4294967296:=by exact ob) (ha:s.args.length<=1000000000:=by exact ob):Zf 217 [Yl n,Z6 us,Ym s] [] (Yt (.i (Qe n.decls us s.op s.args))):=by
 have XD:=hn.decls
 refine ZD 52 Tryz.func217 (ar (iA (YN n) fun b1=>iA (Xf s) fun b2=>Z1 (Y6 2 [0] (iw (Ye s.args) (Z2 2 (ib (b:=((s.args.length:Int) != 1)) 11 (fun Zb=>?_) (fun Zb=>?_)))))))
 ·have ZX:(s.args.length:Int)≠1:=(Xd).1 Zb
  exact Z1 (Vj (ar (Zs (Y3 (.i (-1)) (li (by first|assumption|omega|rfl|(rw [AL om])|(rw [AM (Qc om Z5) om])|(rw [AK (Qc om Z5) om Zv];clear Z5 Zv;grind)))))))
 have Y9:¬((s.args.length:Int)≠1):=YS Xd Zb
 refine ZU 2 [0] ?_
 obtain ⟨x1,Z5⟩:=Zq s.args 0 om
 refine Zm (Zh none 0 1 (ZZ Z5)) (Z2 2 (iw (Ye us) (ia (((us.length:Int)-1)) (((us.length:Int))-(1)) (Zu [] (Ub x1 0 ((us.length:Int)-1)) (Z2 3 (ib (b:=(!(decide (0<=x1/\x1<=((us.length:Int)-1))))) 22 (fun ZP=>?_) (fun ZP=>?_)))))))
 ·have YL:¬(0<=x1/\x1<=((us.length:Int)-1)):=((Xh dq)).1 ZP
  exact Z1 (Vj (ar (Zs (Y3 (.i (-1)) (li (by first|assumption|omega|rfl|(rw [AL om])|(rw [AM (Qc om Z5) om])|(rw [AK (Qc om Z5) om Zv];clear Z5 Zv;grind)))))))
 have YX:¬(¬(0<=x1/\x1<=((us.length:Int)-1))):=YS (Xh dq) ZP
 refine ZU 3 [0] (Zm (Zh none 0 1 (ZZ Z5)) (Z2 1 ?_))
 obtain ⟨x2,Zv⟩:=Zq us x1.toNat om
 refine Zm (Zh none x1 1 (ZZ Zv)) (YR (x2==0) Zz (fun Z9=>?_) (fun Z9=>?_))
 ·exact ar (Zs (Y3 (.i (-1)) (li (by first|assumption|omega|rfl|(rw [AL om])|(rw [AM (Qc om Z5) om])|(rw [AK (Qc om Z5) om Zv];clear Z5 Zv;grind)))))
 refine ak (aq (aD 20 (AN [] [(51,.b ((s.op != 14)&&((s.op != 15)&&WX n.decls x2)))] (fun gz=>gz) ?_ ?_)))
 ·refine ZH 16 20 [0,1,2,3] [0] (db (b:=(s.op != 14)) 35 (fun YW=>?_) (fun YW=>?_))
  ·have X9:s.op≠14:=(Xd).1 YW
   refine ZH 11 16 [4,5,6,7,8] [0] (db (b:=(s.op != 15)) 40 (fun We=>?_) (fun We=>?_))
   ·have XV:s.op≠15:=(Xd).1 We
    exact ZH 6 11 [9,10,11,12,13] [1,0] (dx 14 (Zh none 0 1 (ZZ Z5)) (Zk 4 5 [15] (dx 16 (Zh none x1 1 (ZZ Zv)) (Zk 2 3 [17] (Z8 18 (Yp 18 [] [] [] (Cj n.decls x2 (hd:=(by first|assumption|omega|rfl|(rw [AL om])|(rw [AM (Qc om Z5) om])|(rw [AK (Qc om Z5) om Zv];clear Z5 Zv;grind)))) (Zk 0 1 [19] (de (wk [0,0] (ZM (WX n.decls x2) (And.intro YW We) fl))))))))))
   have Wu:¬(s.op≠15):=YS Xd We
   exact Zk 0 11 [9,10,11,12,13,14,15,16,17,18,19] (de (wk [0,0] (ZM false (And.intro YW We) fl)))
  have V5:¬(s.op≠14):=YS Xd YW
  exact Zk 0 16 [4,5,6,7,8,9,10,11,12,13,14,15,16,17,18,19] (de (wk [0,0] (ZM false YW fl)))
 refine ac ((s.op != 14)&&((s.op != 15)&&WX n.decls x2)) (p:=(s.op≠14)/\((s.op≠15)/\(WX n.decls x2=true))) (Xv Xd (Xv Xd Iff.rfl)) (fun Zg=>?_) (fun Zg=>?_)
 ·exact ar (Zs (Y3 (.i (-1)) (li (by first|assumption|omega|rfl|(rw [AL om])|(rw [AM (Qc om Z5) om])|(rw [AK (Qc om Z5) om Zv];clear Z5 Zv;grind)))))
 exact ak (ar (Zs (Y3 (.i 0) (li (by first|assumption|omega|rfl|(rw [AL om])|(rw [AM (Qc om Z5) om])|(rw [AK (Qc om Z5) om Zv];clear Z5 Zv;grind))))))
theorem MQ (n:Zx) (us:LI) (s:Z3) (hn:Xk n:=by exact ob) (hop:s.op=7∨s.op=8:=by exact ob) (hb:us.length+4*s.sz<=1000000000:=by exact ob) (ih:∀(b:Z4) (us:LI),(b.sz<s.sz)->(us.length+4*b.sz<=1000000000)->Zf 128 [Yl n,Z6 us,ZC b] [] (Yt (.i (XL n us b)))):Zf 214 [Yl n,Z6 us,Ym s] [] (Yt (.i (QD n us s.op s.num s.kids))):=by
 have XD:=hn.decls
 have hkz:=U8 s
 refine ZD 71 Tryz.func214 (ar (iA (YN n) fun b1=>iA (Xf s) fun b2=>Z1 (Zo 4 [1,0] (ic [] (Kb n.decls s.num) ?_))))
 rintro _ _ ⟨v1,rfl,rfl⟩
 refine Z1 (Yg 1 (io (.i (((Y2 n.decls s.num).length:Nat):Int)) (.i (((Z7 (Y2 n.decls s.num)).length:Nat):Int)) (li (by rw [Ye])) (Z1 (X7 (Vx [1] (XC (fun fz gz F h=>F=sF [1,3,5] fz [(7,Z6 (Y2 n.decls s.num)),(8,.i (((XE n.decls s.op s.num).length:Nat):Int))]/\h=[Za gz 1,Za gz 2]) ?_ ?_))))))
 ·refine ac (s.op==7) Zz (fun Z9=>?_) (fun Z9=>?_)
  ·exact UM (ZJ ⟨rfl,rfl⟩ (wk [1,1] (fc (x:=ZQ (Y2 n.decls s.num) v1) (Ze.forget _ _) (fc (x:=.i 2) (li (by rw [XE,Zw Z9];rfl)) fl))))
  exact ak (ZJ ⟨rfl,rfl⟩ (wk [1,1] (fc (x:=ZQ (Y2 n.decls s.num) v1) (Ze.forget _ _) (fc (x:=.i (((Y2 n.decls s.num).length:Nat):Int)) (li (by rw [XE,Zp Z9,Cw])) fl))))
 rintro F h ⟨rfl,rfl⟩
 refine X7 (XM [1,3,5,7,8] [(31,.b (((((XE n.decls s.op s.num).length:Nat):Int)==0)||((s.kids.length:Int) != (((XE n.decls s.op s.num).length:Nat):Int))))] (fun gz=>gz) ?_ ?_)
 ·refine Z2 3 (ib (b:=((((XE n.decls s.op s.num).length:Nat):Int)==0)) 25 (fun Zb=>?_) (fun Zb=>?_))
  ·exact Z1 (wk [0,0] (ZM true Zb fl))
  exact ZU 2 [0] (iw (Vk s.kids) (Z1 (wk [0,0] (ZM ((s.kids.length:Int) != (((XE n.decls s.op s.num).length:Nat):Int)) Zb fl))))
 refine ac (((((XE n.decls s.op s.num).length:Nat):Int)==0)||((s.kids.length:Int) != (((XE n.decls s.op s.num).length:Nat):Int))) (p:=((((XE n.decls s.op s.num).length:Nat):Int)=0)∨((s.kids.length:Int)≠(((XE n.decls s.op s.num).length:Nat):Int))) (Xo Zz Xd) (fun Zg=>?_) (fun Zg=>?_)
 ·exact ar (Zs (Y3 (.i (-1)) (li (by rw [QD,Zw om]))))
 refine ak (Ya (Y1 (ab 0 (Y0 (fun fz gz m F h=>∃(k:Nat) (t:Int),(k<=s.kids.length)/\(Th n us (s.kids.drop k) ((XE n.decls s.op s.num).drop k) (decide (k=0)) t=Th n us s.kids (XE n.decls s.op s.num) true 0)/\F=sF [1,3,5,7,8] fz [(9,.i t),(10,.i k)]/\h=gz/\m=s.kids.length-k) _ _ _ ⟨0,0,ob,(by rfl),rfl,rfl,rfl⟩ (wk [0,0] (fr (Yd fl))) ?_))))
 rintro m F h ⟨k,t,Yf,Zi,rfl,rfl,rfl⟩
 refine X7 (ZT ((k:Int)<(((XE n.decls s.op s.num).length:Nat):Int)) (fun ZF=>?_) (fun ZF=>?_))
 ·refine ak (aq (ab 1 (Ya (X7 (Vx [0] (XC (fun fz gz F h=>∃(m:LI),((XE n.decls s.op s.num)[k]? = some m)/\F=sF [1,3,5,7,8,9,10] fz [(11,Z6 (us++m))]/\h=gz) ?_ ?_))))))
  ·refine ac (s.op==8) Zz (fun Yq=>?_) (fun Yq=>?_)
   ·refine aE 10 (ZH 5 10 [0,1,2,3,4] [1] ?_)
    obtain ⟨x1,Z5⟩:=Zq (Y2 n.decls s.num) k (by rw [XE,Zp om,Cw] at ZF;omega)
    refine dx 5 (Zh none (k:Int) 1 (ZZ Z5)) (Zk 3 4 [6] (Z8 7 (Yp 7 [] [] [] (Q0 n.decls x1) (Z8 8 (dc 8 [] [] [] (TI us (Y4 n.decls x1) (hl:=(by have:=VD XD x1;omega))) ?_)))))
    rintro _ _ ⟨v2,rfl,rfl⟩
    exact Zk 0 1 [9] (de (ZJ ⟨(Y4 n.decls x1),(by rw [show s.op=8 from Yq];exact Oi Z5),rfl,rfl⟩ (wk [1,1] fl)))
   exact ak (ZJ ⟨[],(by rw [XE,Zw om];have:k=0∨k=1:=(by rw [XE,Zw om] at ZF;simp at ZF;omega);rcases this with rfl|rfl<;>rfl),rfl,rfl⟩ (wk [0,0] (fc (x:=Z6 us) (Ze.sl _ (Ys Z7 (by simp))) fl)))
  rintro F h ⟨m,TC,rfl,rfl⟩
  refine aD 9 (ZH 4 9 [0,1,2,3,4] [1,0] ?_)
  obtain ⟨x2,Zv⟩:=Zq s.kids k om
  have hks:=VS Zv
  have hm3:=H5 XD TC
  refine dx 5 (Zh none (k:Int) 2 (Vv Zv)) (Zk 2 3 [6] (Z8 7 (Yp 7 [] [] [] (ih x2 (us++m) ob (by simp only [Yk];omega)) (Zk 0 1 [8] (de (X7 (XM [1,3,5,7,8,10,12] [(68,.b ((decide ((XL n (us++m) x2)<0))||((decide ((k:Int)>0))&&((XL n (us++m) x2) != t))))] (fun gz=>gz) ?_ ?_)))))))
  ·refine Z2 3 (ib (b:=(decide ((XL n (us++m) x2)<0))) 60 (fun ZP=>?_) (fun ZP=>?_))
   ·exact Z1 (wk [0,0] (ZM true ZP fl))
   refine Z2 3 (ib (b:=(decide ((k:Int)>0))) 63 (fun YW=>?_) (fun YW=>?_))
   ·exact Z1 (wk [0,0] (ZM ((XL n (us++m) x2) != t) (And.intro ZP YW) fl))
   exact Z1 (wk [0,0] (ZM false (And.intro ZP YW) fl))
  refine ac ((decide ((XL n (us++m) x2)<0))||((decide ((k:Int)>0))&&((XL n (us++m) x2) != t))) (p:=((XL n (us++m) x2)<0)∨(((k:Int)>0)/\((XL n (us++m) x2)≠t))) (Xo dq (Xv dq Xd)) (fun XH=>?_) (fun XH=>?_)
  ·exact ar (Zs (Y3 (.i (-1)) (li (by rw [QD,Zp om,<-Zi];exact (Z0j Zv TC XH).symm))))
  exact ak (UM (az (Z2 1 (ZG k (Z1 (ZI ⟨k+1,XL n (us++m) x2,ob,(by rw [<-Zi];exact (Z0l Zv TC XH).symm),rfl,rfl,rfl⟩ (wk [0,0] (fr (ZL k fl)))))))))
 exact ax 0 (ar (Zs (Y3 (.i t) (li (by rw [QD,Zp om,<-Zi];exact (Z0k om).symm)))))
theorem MT (n:Zx) (us:LI) (s:Z3) (hn:Xk n:=by exact ob) (hb:us.length+4*s.sz<=1000000000:=by exact ob) (ih:∀(b:Z4) (us:LI),(b.sz<s.sz)->(us.length+4*b.sz<=1000000000)->Zf 128 [Yl n,Z6 us,ZC b] [] (Yt (.i (XL n us b)))):Zf 164 [Yl n,Z6 us,Ym s] [] (Yt (.i (YF n us s))):=by
 have XD:=hn.decls
 have hkz:=U8 s
 have haz:=T9 s
 have hdl:=XD.len
 have hst:=Gx n us s
 refine ZD 183 Tryz.func164 (ar (iA (YN n) fun b1=>iA (Xf s) fun b2=>Z1 (X7 (WQ 9 [1,3,5] [(16,.b ((s.num != 0)&&(!UR s.op)))] (fun gz=>gz) ?_ (fun hj1=>?_)))))
 ·refine WQ 15 [1,3,5] [(22,.b (((s.num != 0)&&(!UR s.op))||(!UJ us s.op s.into)))] (fun gz=>gz) ?_ (fun hj2=>?_)
  ·refine XM [1,3,5] [(38,.b ((((s.num != 0)&&(!UR s.op))||(!UJ us s.op s.into))||((decide ((s.kids.length:Int)>0))&&((s.op != 7)&&(s.op != 8)))))] (fun gz=>gz) ?_ ?_
   ·refine Z2 1 (ib (b:=(((s.num != 0)&&(!UR s.op))||(!UJ us s.op s.into))) 23 (fun Zb=>?_) (fun Zb=>?_))
    ·have ZX:((s.num≠0)/\(¬(UR s.op=true)))∨(¬(UJ us s.op s.into=true)):=((Xo (Xv Xd (Xh Iff.rfl)) (Xh Iff.rfl))).1 Zb
     exact Z1 (wk [0,0] (ZM true Zb fl))
    have Y9:¬(((s.num≠0)/\(¬(UR s.op=true)))∨(¬(UJ us s.op s.into=true))):=YS (Xo (Xv Xd (Xh Iff.rfl)) (Xh Iff.rfl)) Zb
    refine ZU 2 [0] (iw (Vk s.kids) (Z2 2 (ib (b:=(decide ((s.kids.length:Int)>0))) 28 (fun ZP=>?_) (fun ZP=>?_))))
    ·have YL:(s.kids.length:Int)>0:=(dq).1 ZP
     refine ZU 5 [0] (ib (b:=(s.op != 7)) 33 (fun YW=>?_) (fun YW=>?_))
     ·have YX:s.op≠7:=(Xd).1 YW
      exact Vx [0] (wk [0,0] (ZM (s.op != 8) (And.intro Zb (And.intro ZP YW)) fl))
     have X9:¬(s.op≠7):=YS Xd YW
     exact Z1 (wk [0,0] (ZM false (And.intro Zb (And.intro ZP YW)) fl))
    have XV:¬((s.kids.length:Int)>0):=YS dq ZP
    exact Z1 (wk [0,0] (ZM false (And.intro Zb ZP) fl))
   refine ac ((((s.num != 0)&&(!UR s.op))||(!UJ us s.op s.into))||((decide ((s.kids.length:Int)>0))&&((s.op != 7)&&(s.op != 8)))) (p:=(((s.num≠0)/\(¬(UR s.op=true)))∨(¬(UJ us s.op s.into=true)))∨(((s.kids.length:Int)>0)/\((s.op≠7)/\(s.op≠8)))) (Xo (Xo (Xv Xd (Xh Iff.rfl)) (Xh Iff.rfl)) (Xv dq (Xv Xd Xd))) (fun Z9=>?_) (fun Z9=>?_)
   ·exact ar (Zs (Y3 (.i (-1)) (li (by first|rfl|( grind)|(have q:=VO (ds:=n.decls) (us:=us) (args:=s.args) om; grind)|(have q:=VP (ds:=n.decls) (us:=us) (args:=s.args) om ‹s.args[0]? = some _› om; grind)|(have q:=VC (ds:=n.decls) (us:=us) (args:=s.args) om ‹s.args[0]? = some _› om ‹us[_]? = some _›; grind)))))
   refine ak (X7 (Vx [0] (ab 0 (ar (YR (s.op==0) Zz (fun Zg=>?_) (fun Zg=>?_))))))
   ·refine Zo 2 [0] (iw (Ye s.args) (XM [] [(51,.b (((s.args.length:Int)==0)&&(decide ((-999)<=s.num/\s.num<=999))))] (fun gz=>gz) ?_ ?_))
    ·refine Z2 2 (ib (b:=((s.args.length:Int)==0)) 47 (fun We=>?_) (fun We=>?_))
     ·have Wu:(s.args.length:Int)=0:=(Zz).1 We
      exact ZU 2 [0] (Zu [] (Ub s.num (-999) 999) (Z1 (wk [0,0] (ZM (decide ((-999)<=s.num/\s.num<=999)) We fl))))
     have V5:¬((s.args.length:Int)=0):=YS Zz We
     exact Z1 (wk [0,0] (ZM false We fl))
    refine ac (((s.args.length:Int)==0)&&(decide ((-999)<=s.num/\s.num<=999))) (p:=((s.args.length:Int)=0)/\((-999)<=s.num/\s.num<=999)) (Xv Zz dq) (fun ZF=>?_) (fun ZF=>?_)
    ·exact ar (Zs (Y3 (.i 0) (li (by first|rfl|( grind)|(have q:=VO (ds:=n.decls) (us:=us) (args:=s.args) om; grind)|(have q:=VP (ds:=n.decls) (us:=us) (args:=s.args) om ‹s.args[0]? = some _› om; grind)|(have q:=VC (ds:=n.decls) (us:=us) (args:=s.args) om ‹s.args[0]? = some _› om ‹us[_]? = some _›; grind)))))
    exact ak (ar (Zs (Y3 (.i (-1)) (li (by first|rfl|( grind)|(have q:=VO (ds:=n.decls) (us:=us) (args:=s.args) om; grind)|(have q:=VP (ds:=n.decls) (us:=us) (args:=s.args) om ‹s.args[0]? = some _› om; grind)|(have q:=VC (ds:=n.decls) (us:=us) (args:=s.args) om ‹s.args[0]? = some _› om ‹us[_]? = some _›; grind))))))
   refine Y1 (XC (fun fz gz F h=>F=sF [1,3,5,40] fz [(52,.b ((s.op==1)||((s.op==2)||((s.op==3)||(s.op==4)))))]/\h=gz) ?_ ?_)
   ·refine ac (s.op==1) Zz (fun Yq=>?_) (fun Yq=>?_)
    ·exact ak (ZJ ⟨rfl,rfl⟩ (wk [0,0] (fc (x:=.b (s.op==1)) (lb (by first|rfl|(rw [Zw Yq])|(rw [Zp Yq])|(simp [Yq];done)|(rw [Xc];simp [Yq];done)|omega)) fl)))
    refine ar (YR (s.op==2) Zz (fun XH=>?_) (fun XH=>?_))
    ·exact ak (ZJ ⟨rfl,rfl⟩ (wk [0,0] (fc (x:=.b (s.op==2)) (lb (by first|rfl|(rw [Zw Yq])|(rw [Zp Yq])|(simp [Yq,XH];done)|(rw [Xc];simp [Yq,XH];done)|omega)) fl)))
    refine ar (YR (s.op==3) Zz (fun XI=>?_) (fun XI=>?_))
    ·exact ak (ZJ ⟨rfl,rfl⟩ (wk [0,0] (fc (x:=.b (s.op==3)) (lb (by first|rfl|(rw [Zw Yq])|(rw [Zp Yq])|(simp [Yq,XH,XI];done)|(rw [Xc];simp [Yq,XH,XI];done)|omega)) fl)))
    exact UM (ZJ ⟨rfl,rfl⟩ (wk [0,0] (fc (x:=.b (s.op==4)) (lb (by first|rfl|(rw [Zw Yq])|(rw [Zp Yq])|(simp [Yq,XH,XI];done)|(rw [Xc];simp [Yq,XH,XI];done)|omega)) fl)))
   rintro F h ⟨rfl,rfl⟩
   refine ac ((s.op==1)||((s.op==2)||((s.op==3)||(s.op==4)))) (p:=(s.op=1)∨((s.op=2)∨((s.op=3)∨(s.op=4)))) (Xo Zz (Xo Zz (Xo Zz Zz))) (fun TV=>?_) (fun TV=>?_)
   ·refine Zo 3 [0] (iL (Z7 [0,0]) 2 1 fun v1=>ZE 0 [(60,Z6 [0,0])] (Zu [] (JH us s.args [0,0] (hl_tys:=(by first|(simp;done)|(have:=VD XD s.num;omega)))) (ie (ac (Wm us s.args [0,0]) Iff.rfl (fun Td=>?_) (fun Td=>?_)))))
    ·exact ar (Zs (Y3 (.i 0) (li (by first|rfl|( grind)|(have q:=VO (ds:=n.decls) (us:=us) (args:=s.args) om; grind)|(have q:=VP (ds:=n.decls) (us:=us) (args:=s.args) om ‹s.args[0]? = some _› om; grind)|(have q:=VC (ds:=n.decls) (us:=us) (args:=s.args) om ‹s.args[0]? = some _› om ‹us[_]? = some _›; grind)))))
    exact ak (ar (Zs (Y3 (.i (-1)) (li (by first|rfl|( grind)|(have q:=VO (ds:=n.decls) (us:=us) (args:=s.args) om; grind)|(have q:=VP (ds:=n.decls) (us:=us) (args:=s.args) om ‹s.args[0]? = some _› om; grind)|(have q:=VC (ds:=n.decls) (us:=us) (args:=s.args) om ‹s.args[0]? = some _› om ‹us[_]? = some _›; grind))))))
   refine ar (YR (s.op==5) Zz (fun UB=>?_) (fun UB=>?_))
   ·refine Zo 3 [0] (iL (Z7 [0]) 1 1 fun v2=>ZE 0 [(67,Z6 [0])] (Zu [] (JH us s.args [0] (hl_tys:=(by first|(simp;done)|(have:=VD XD s.num;omega)))) (ie (ac (Wm us s.args [0]) Iff.rfl (fun BR=>?_) (fun BR=>?_)))))
    ·exact ar (Zs (Y3 (.i 0) (li (by first|rfl|( grind)|(have q:=VO (ds:=n.decls) (us:=us) (args:=s.args) om; grind)|(have q:=VP (ds:=n.decls) (us:=us) (args:=s.args) om ‹s.args[0]? = some _› om; grind)|(have q:=VC (ds:=n.decls) (us:=us) (args:=s.args) om ‹s.args[0]? = some _› om ‹us[_]? = some _›; grind)))))
    exact ak (ar (Zs (Y3 (.i (-1)) (li (by first|rfl|( grind)|(have q:=VO (ds:=n.decls) (us:=us) (args:=s.args) om; grind)|(have q:=VP (ds:=n.decls) (us:=us) (args:=s.args) om ‹s.args[0]? = some _› om; grind)|(have q:=VC (ds:=n.decls) (us:=us) (args:=s.args) om ‹s.args[0]? = some _› om ‹us[_]? = some _›; grind))))))
   refine ar (YR (s.op==6) Zz (fun BS=>?_) (fun BS=>?_))
   ·refine aD 17 (ZH 13 17 [0,1,2,3] [1,0] (Z8 4 (Yp 4 [] [] [] (Gp n.decls s.num) (AN [3,5] [(87,.b ((decide ((Ve n.decls s.num)>0))&&Wm us s.args (Y4 n.decls s.num)))] (fun gz=>gz) ?_ ?_))))
    ·refine Zk 10 12 [5,6] (db (b:=(decide ((Ve n.decls s.num)>0))) 77 (fun Uk=>?_) (fun Uk=>?_))
     ·have Vm:(Ve n.decls s.num)>0:=(dq).1 Uk
      exact ZH 3 10 [7,8,9,10,11,12,13] [0,1,0] (Z8 14 (Yp 14 [] [0] [b2] (Q0 n.decls s.num (hd:=XD)) (Z8 15 (Yp 15 [] [] [] (JH us s.args (Y4 n.decls s.num) (hl_tys:=(by first|(simp;done)|(have:=VD XD s.num;omega)))) (Zk 0 1 [16] (de (wk [0,0] (ZM (Wm us s.args (Y4 n.decls s.num)) Uk fl))))))))
     have US:¬((Ve n.decls s.num)>0):=YS dq Uk
     exact Zk 0 10 [7,8,9,10,11,12,13,14,15,16] (de (wk [0,0] (ZM false Uk fl)))
    refine ac ((decide ((Ve n.decls s.num)>0))&&Wm us s.args (Y4 n.decls s.num)) (p:=((Ve n.decls s.num)>0)/\(Wm us s.args (Y4 n.decls s.num)=true)) (Xv dq Iff.rfl) (fun Qy=>?_) (fun Qy=>?_)
    ·exact Zo 4 [1,0] (Zu [] (Gp n.decls s.num) (Zs (Y3 (.i (Ve n.decls s.num)) (li (by first|rfl|( grind)|(have q:=VO (ds:=n.decls) (us:=us) (args:=s.args) om; grind)|(have q:=VP (ds:=n.decls) (us:=us) (args:=s.args) om ‹s.args[0]? = some _› om; grind)|(have q:=VC (ds:=n.decls) (us:=us) (args:=s.args) om ‹s.args[0]? = some _› om ‹us[_]? = some _›; grind))))))
    exact ak (ar (Zs (Y3 (.i (-1)) (li (by first|rfl|( grind)|(have q:=VO (ds:=n.decls) (us:=us) (args:=s.args) om; grind)|(have q:=VP (ds:=n.decls) (us:=us) (args:=s.args) om ‹s.args[0]? = some _› om; grind)|(have q:=VC (ds:=n.decls) (us:=us) (args:=s.args) om ‹s.args[0]? = some _› om ‹us[_]? = some _›; grind))))))
   refine ar (YR (s.op==7) Zz (fun Ab=>?_) (fun Ab=>?_))
   ·refine Zo 3 [0] (iL (Z7 [0]) 1 1 fun v3=>ZE 0 [(98,Z6 [0])] (Zu [] (JH us s.args [0] (hl_tys:=(by first|(simp;done)|(have:=VD XD s.num;omega)))) (ie (ac (Wm us s.args [0]) Iff.rfl (fun Fp=>?_) (fun Fp=>?_)))))
    ·exact Zo 3 [2,1] (Zu [] (MQ n us s (ih:=ob)) (Zs (Y3 (.i (QD n us s.op s.num s.kids)) (li (by first|rfl|( grind)|(have q:=VO (ds:=n.decls) (us:=us) (args:=s.args) om; grind)|(have q:=VP (ds:=n.decls) (us:=us) (args:=s.args) om ‹s.args[0]? = some _› om; grind)|(have q:=VC (ds:=n.decls) (us:=us) (args:=s.args) om ‹s.args[0]? = some _› om ‹us[_]? = some _›; grind))))))
    exact ak (ar (Zs (Y3 (.i (-1)) (li (by first|rfl|( grind)|(have q:=VO (ds:=n.decls) (us:=us) (args:=s.args) om; grind)|(have q:=VP (ds:=n.decls) (us:=us) (args:=s.args) om ‹s.args[0]? = some _› om; grind)|(have q:=VC (ds:=n.decls) (us:=us) (args:=s.args) om ‹s.args[0]? = some _› om ‹us[_]? = some _›; grind))))))
   refine ar (YR (s.op==8) Zz (fun Fq=>?_) (fun Fq=>?_))
   ·refine Zo 5 [0,0] (iL (Z7 [s.num]) 1 1 fun v4=>ZE 0 [(111,Z6 [s.num])] (Zu [] (JH us s.args [s.num] (hl_tys:=(by first|(simp;done)|(have:=VD XD s.num;omega)))) (ie (ac (Wm us s.args [s.num]) Iff.rfl (fun Fs=>?_) (fun Fs=>?_)))))
    ·exact Zo 3 [2,1] (Zu [] (MQ n us s (ih:=ob)) (Zs (Y3 (.i (QD n us s.op s.num s.kids)) (li (by first|rfl|( grind)|(have q:=VO (ds:=n.decls) (us:=us) (args:=s.args) om; grind)|(have q:=VP (ds:=n.decls) (us:=us) (args:=s.args) om ‹s.args[0]? = some _› om; grind)|(have q:=VC (ds:=n.decls) (us:=us) (args:=s.args) om ‹s.args[0]? = some _› om ‹us[_]? = some _›; grind))))))
    exact ak (ar (Zs (Y3 (.i (-1)) (li (by first|rfl|( grind)|(have q:=VO (ds:=n.decls) (us:=us) (args:=s.args) om; grind)|(have q:=VP (ds:=n.decls) (us:=us) (args:=s.args) om ‹s.args[0]? = some _› om; grind)|(have q:=VC (ds:=n.decls) (us:=us) (args:=s.args) om ‹s.args[0]? = some _› om ‹us[_]? = some _›; grind))))))
   refine Y1 (XC (fun fz gz F h=>F=sF [1,3,5,40] fz [(117,.b ((s.op==9)||(s.op==10)))]/\h=gz) ?_ ?_)
   ·refine ac (s.op==9) Zz (fun Qz=>?_) (fun Qz=>?_)
    ·exact ak (ZJ ⟨rfl,rfl⟩ (wk [0,0] (fc (x:=.b (s.op==9)) (lb (by first|rfl|(rw [Zw Qz])|(rw [Zp Qz])|(simp [Qz];done)|(rw [Xc];simp [Qz];done)|omega)) fl)))
    exact UM (ZJ ⟨rfl,rfl⟩ (wk [0,0] (fc (x:=.b (s.op==10)) (lb (by first|rfl|(rw [Zw Qz])|(rw [Zp Qz])|(simp [Qz];done)|(rw [Xc];simp [Qz];done)|omega)) fl)))
   rintro F h ⟨rfl,rfl⟩
   refine ac ((s.op==9)||(s.op==10)) (p:=(s.op=9)∨(s.op=10)) (Xo Zz Zz) (fun Sq=>?_) (fun Sq=>?_)
   ·exact Zo 3 [1,0] (Zu [] (Z4e n us s) (Zs (Y3 (.i (Ka n us s.op s.num s.args)) (li (by first|rfl|( grind)|(have q:=VO (ds:=n.decls) (us:=us) (args:=s.args) om; grind)|(have q:=VP (ds:=n.decls) (us:=us) (args:=s.args) om ‹s.args[0]? = some _› om; grind)|(have q:=VC (ds:=n.decls) (us:=us) (args:=s.args) om ‹s.args[0]? = some _› om ‹us[_]? = some _›; grind))))))
   refine ar (YR (s.op==11) Zz (fun Sr=>?_) (fun Sr=>?_))
   ·refine aD 26 (ZH 24 26 [0,1] [0] (dw 2 (Ye s.args) (Zk 21 23 [3,4] (db (b:=((s.args.length:Int)==2)) 130 (fun TU=>?_) (fun TU=>?_)))))
    ·have UT:(s.args.length:Int)=2:=(Zz).1 TU
     refine ZH 19 21 [5,6] [0] ?_
     obtain ⟨x1,Z5⟩:=Zq s.args 0 om
     refine dx 7 (Zh none 0 1 (ZZ Z5)) (Zk 16 18 [8,9] (dw 10 (Ye us) (da 11 (((us.length:Int)-1)) (((us.length:Int))-(1)) (Z8 12 (Yp 12 [] [] [] (Ub x1 0 ((us.length:Int)-1)) (Zk 11 13 [13,14] (db (b:=(decide (0<=x1/\x1<=((us.length:Int)-1)))) 140 (fun Aa=>?_) (fun Aa=>?_))))))))
     ·have UU:0<=x1/\x1<=((us.length:Int)-1):=(dq).1 Aa
      refine ZH 6 11 [15,16,17,18,19] [1,0] (dx 20 (Zh none 0 1 (ZZ Z5)) (Zk 4 5 [21] ?_))
      obtain ⟨x2,Zv⟩:=Zq us x1.toNat om
      refine dx 22 (Zh none x1 1 (ZZ Zv)) (Zk 2 3 [23] (Z8 24 (Yp 24 [] [] [] (Cj n.decls x2) (Zk 0 1 [25] (de (ac (WX n.decls x2) Iff.rfl (fun Ss=>?_) (fun Ss=>?_)))))))
      ·refine aD 14 (ZH 9 14 [0,1,2,3,4] [1,0] (dx 5 (Zh none 0 1 (ZZ Z5)) (Zk 7 8 [6] (dx 7 (Zh none x1 1 (ZZ Zv)) (Zk 5 6 [8] (da 9 ((x2-1)) ((x2)-(1)) (hb:=(by have:=Fu ‹WX n.decls _=true›;omega)) ?_))))))
       obtain ⟨x3,X3⟩:=Zq n.decls ((x2-1).toNat) (by have:=Fu ‹WX n.decls _=true›;omega)
       have had:=Oc (us:=us) (args:=s.args) om ‹s.args[0]? = some _› om ‹us[_]? = some _› ‹WX n.decls _=true› X3
       refine dx 10 (MZ (es:=X0 n.decls) (hv:=none) (j:=(x2-1)) (sz:=3) (y:=By x3) kr (by have:=Fu ‹WX n.decls _=true›;omega) (U1 X3) rfl) (Zk 2 3 [11] (Z8 12 (dA 12 [0,1] [b2,b1] [.i 0,.i 0,nl] fun b3=>Z8 13 (Yy 13 0 [] [] b3 (FE x3) (de (aD 8 (ZH 5 8 [0,1,2] [1] (dx 3 (Ke (es:=Z7 s.args) (hv:=none) (l:=1) (m:=(((Z7 s.args).length:Nat):Int)) (sz:=1) (es':=Z7 (s.args.drop 1)) kr om (by simp<;>omega) (by simp<;>omega) (Yw _) (by first|(simp only [VV,Va,A0,AR];done)|(simp only [VV,Va,A0,AR];rfl)|(simp [A0,AR];done))) (ZH 2 4 [4,5] [0] (Z8 6 (dL 6 [1] [b2] (Z7 [x3.frm]) 1 1 fun v5=>Yh 1 1 [] [(170,Z6 [x3.frm])] (Z8 7 (Yp 7 [] [] [] (JH us (s.args.drop 1) [x3.frm] (hl_tys:=(by first|(simp;done)|(have:=VD XD s.num;omega)))) (de (ac (Wm us (s.args.drop 1) [x3.frm]) Iff.rfl (fun Iu=>?_) (fun Iu=>?_))))))))))))))))
       ·exact A7 [1] (ZK (Y3 (.i x3.to_) (li (by first|rfl|(clear Z5 Zv X3;grind)|(have q:=VO (ds:=n.decls) (us:=us) (args:=s.args) om;clear Z5 Zv X3;grind)|(have q:=VP (ds:=n.decls) (us:=us) (args:=s.args) om ‹s.args[0]? = some _› om;clear Z5 Zv X3;grind)|(have q:=VC (ds:=n.decls) (us:=us) (args:=s.args) om ‹s.args[0]? = some _› om ‹us[_]? = some _›;clear Z5 Zv X3;grind)))))
       exact ak (ar (Zs (Y3 (.i (-1)) (li (by first|rfl|(clear Z5 Zv X3;grind)|(have q:=VO (ds:=n.decls) (us:=us) (args:=s.args) om;clear Z5 Zv X3;grind)|(have q:=VP (ds:=n.decls) (us:=us) (args:=s.args) om ‹s.args[0]? = some _› om;clear Z5 Zv X3;grind)|(have q:=VC (ds:=n.decls) (us:=us) (args:=s.args) om ‹s.args[0]? = some _› om ‹us[_]? = some _›;clear Z5 Zv X3;grind))))))
      exact ak (ar (Zs (Y3 (.i (-1)) (li (by first|rfl|(clear Z5 Zv;grind)|(have q:=VO (ds:=n.decls) (us:=us) (args:=s.args) om;clear Z5 Zv;grind)|(have q:=VP (ds:=n.decls) (us:=us) (args:=s.args) om ‹s.args[0]? = some _› om;clear Z5 Zv;grind)|(have q:=VC (ds:=n.decls) (us:=us) (args:=s.args) om ‹s.args[0]? = some _› om ‹us[_]? = some _›;clear Z5 Zv;grind))))))
     have QA:¬(0<=x1/\x1<=((us.length:Int)-1)):=YS dq Aa
     exact Zk 0 11 [15,16,17,18,19,20,21,22,23,24,25] (de (Wz (ak (ar (Zs (Y3 (.i (-1)) (li (by first|rfl|(clear Z5;grind)|(have q:=VO (ds:=n.decls) (us:=us) (args:=s.args) om;clear Z5;grind)|(have q:=VP (ds:=n.decls) (us:=us) (args:=s.args) om ‹s.args[0]? = some _› om;clear Z5;grind)|(have q:=VC (ds:=n.decls) (us:=us) (args:=s.args) om ‹s.args[0]? = some _› om ‹us[_]? = some _›;clear Z5;grind)))))))))
    have Qi:¬((s.args.length:Int)=2):=YS Zz TU
    exact Zk 0 21 [5,6,7,8,9,10,11,12,13,14,15,16,17,18,19,20,21,22,23,24,25] (de (Wz (ak (ar (Zs (Y3 (.i (-1)) (li (by first|rfl|( grind)|(have q:=VO (ds:=n.decls) (us:=us) (args:=s.args) om; grind)|(have q:=VP (ds:=n.decls) (us:=us) (args:=s.args) om ‹s.args[0]? = some _› om; grind)|(have q:=VC (ds:=n.decls) (us:=us) (args:=s.args) om ‹s.args[0]? = some _› om ‹us[_]? = some _›; grind)))))))))
   refine Y1 (XC (fun fz gz F h=>F=sF [1,3,5] fz [(174,.b ((s.op==14)||((s.op==15)||((s.op==16)||(s.op==17)))))]/\h=gz) ?_ ?_)
   ·refine ac (s.op==14) Zz (fun Us=>?_) (fun Us=>?_)
    ·exact ak (ZJ ⟨rfl,rfl⟩ (wk [0,0] (fc (x:=.b (s.op==14)) (lb (by first|rfl|(rw [Zw Us])|(rw [Zp Us])|(simp [Us];done)|(rw [Xc];simp [Us];done)|omega)) fl)))
    refine ar (YR (s.op==15) Zz (fun KQ=>?_) (fun KQ=>?_))
    ·exact ak (ZJ ⟨rfl,rfl⟩ (wk [0,0] (fc (x:=.b (s.op==15)) (lb (by first|rfl|(rw [Zw Us])|(rw [Zp Us])|(simp [Us,KQ];done)|(rw [Xc];simp [Us,KQ];done)|omega)) fl)))
    refine ar (YR (s.op==16) Zz (fun BT=>?_) (fun BT=>?_))
    ·exact ak (ZJ ⟨rfl,rfl⟩ (wk [0,0] (fc (x:=.b (s.op==16)) (lb (by first|rfl|(rw [Zw Us])|(rw [Zp Us])|(simp [Us,KQ,BT];done)|(rw [Xc];simp [Us,KQ,BT];done)|omega)) fl)))
    exact UM (ZJ ⟨rfl,rfl⟩ (wk [0,0] (fc (x:=.b (s.op==17)) (lb (by first|rfl|(rw [Zw Us])|(rw [Zp Us])|(simp [Us,KQ,BT];done)|(rw [Xc];simp [Us,KQ,BT];done)|omega)) fl)))
   rintro F h ⟨rfl,rfl⟩
   refine ac ((s.op==14)||((s.op==15)||((s.op==16)||(s.op==17)))) (p:=(s.op=14)∨((s.op=15)∨((s.op=16)∨(s.op=17)))) (Xo Zz (Xo Zz (Xo Zz Zz))) (fun St=>?_) (fun St=>?_)
   ·exact Zo 3 [1,0] (Zu [] (Z43 n us s) (Zs (Y3 (.i (Qe n.decls us s.op s.args)) (li (by first|rfl|( grind)|(have q:=VO (ds:=n.decls) (us:=us) (args:=s.args) om; grind)|(have q:=VP (ds:=n.decls) (us:=us) (args:=s.args) om ‹s.args[0]? = some _› om; grind)|(have q:=VC (ds:=n.decls) (us:=us) (args:=s.args) om ‹s.args[0]? = some _› om ‹us[_]? = some _›; grind))))))
   exact ak (ar (Zs (Y3 (.i (-1)) (li (by first|rfl|( grind)|(have q:=VO (ds:=n.decls) (us:=us) (args:=s.args) om; grind)|(have q:=VP (ds:=n.decls) (us:=us) (args:=s.args) om ‹s.args[0]? = some _› om; grind)|(have q:=VC (ds:=n.decls) (us:=us) (args:=s.args) om ‹s.args[0]? = some _› om ‹us[_]? = some _›; grind))))))
  refine Z2 1 (ib (b:=((s.num != 0)&&(!UR s.op))) 17 (fun KO=>?_) (fun KO=>?_))
  ·have Js:(s.num≠0)/\(¬(UR s.op=true)):=((Xv Xd (Xh Iff.rfl))).1 KO
   exact Z2 5 (Xm (wk [0,0] (ZM true KO fl)) hj2)
  have KR:¬((s.num≠0)/\(¬(UR s.op=true))):=YS (Xv Xd (Xh Iff.rfl)) KO
  exact ZU 2 [0] (Zu [] (Z4q us s) (Z2 2 (Xm (wk [0,0] (ZM (!UJ us s.op s.into) KO fl)) hj2)))
 refine ZU 4 [0] (ib (b:=(s.num != 0)) 11 (fun KP=>?_) (fun KP=>?_))
 ·have De:s.num≠0:=(Xd).1 KP
  exact ZU 2 [0] (Zu [] (Z45 s.op) (Z2 2 (Xm (wk [0,0] (ZM (!UR s.op) KP fl)) hj1)))
 have Ad:¬(s.num≠0):=YS Xd KP
 exact Z2 5 (Xm (wk [0,0] (ZM false KP fl)) hj1)
theorem Z3y (n:Zx) (us:LI) (b:Z4) (hn:Xk n:=by exact ob) (hb:us.length+4*b.sz<=1000000000:=by exact ob) (ih:∀(s:Z3) (us:LI),(s.sz<b.sz)->(us.length+4*s.sz<=1000000000)->Zf 164 [Yl n,Z6 us,Ym s] [] (Yt (.i (YF n us s)))):Zf 128 [Yl n,Z6 us,ZC b] [] (Yt (.i (XL n us b))):=by
 have hbz:=WS b
 have hbe:=Ex n us b
 refine ZD 52 Tryz.func128 (ar (iA (YN n) fun b1=>iA (YI b) fun b2=>Z1 (Yg 1 (ic [] (Vr us) ?_))))
 rintro _ _ ⟨v1,rfl,rfl⟩
 refine Z1 (Y1 (ab 0 (Y0 (fun fz gz m F h=>∃(k:Nat) (vs:LI) (v:Value),(k<=b.steps.length)/\(vs.length<=us.length+k)/\(Vz n (b.steps.drop k) vs=Vz n b.steps us)/\F=sF [3,5] fz [(7,ZQ vs v),(8,.i k)]/\h=[Za gz 1,Za gz 2,.tail v 1]/\m=b.steps.length-k) _ _ _ ⟨0,us,v1,ob,ob,ob,rfl,rfl,rfl⟩ (wk [1,1,0] (fr (Yd fl))) ?_)))
 rintro m F h ⟨k,vs,v,Yf,Zi,Zr,rfl,rfl,rfl⟩
 refine Y6 3 [0] (iw (W8 b.steps) (ZT ((k:Int)<(b.steps.length:Int)) (fun Z9=>?_) (fun Z9=>?_)))
 ·refine ak (aq (ab 1 (aD 9 (ZH 4 9 [0,1,2,3,4] [1,0] ?_))))
  obtain ⟨x1,Z5⟩:=Zq b.steps k om
  have hss:=Bm Z5
  refine dx 5 (Zh none (k:Int) 5 (XO Z5)) (Yh 2 3 [6] [(20,Z6 vs)] (Z8 7 (Yp 7 [] [] [] (ih x1 vs ob ob) (Zk 0 1 [8] (de (X7 (ZT ((YF n vs x1)<0) (fun Zg=>?_) (fun Zg=>?_))))))))
  ·refine Ya ?_
   rw [Yo Z5] at Zr
   exact ZK (Y3 (.i (-1)) (li (by clear Z5;first|rfl|omega|grind [Vz])))
  refine ak (Zo 3 [0] (Zm (Zh none (k:Int) 5 (XO Z5)) (Z2 2 (Zu [] (Qp x1.op) (ie (Kx (fun fz gz F h=>∃(w:Value),F=sF [3,5,8] fz [(7,ZQ (if XF x1.op=true then vs++[YF n vs x1] else vs) w)]/\h=[Za gz 0,Za gz 1,.tail w 1]) (fun _ _=>rfl) ?_ ?_))))))
  ·refine ac (XF x1.op) Iff.rfl (fun ZF=>?_) (fun ZF=>?_)
   ·exact az (Z2 2 (iL (Z7 [YF n vs x1]) 1 1 fun v2=>ZE 0 [(38,Z6 [YF n vs x1])] (ip 3 (Z7 (vs++[YF n vs x1])) (Z7 vs) (Z7 [YF n vs x1]) v none 1 (Yw _) (Yw _) (XT _) (by simp<;>omega) (by simp [XR,Z7]) fun v3=>Z1 (ZJ ⟨v3,rfl,rfl⟩ (wk [2,2,0] (fc (x:=ZQ (vs++[YF n vs x1]) v3) (Ze.slh _ (Ys Z7 (by first|rfl|(rw [Zw ZF])|(rw [Zp ZF])|(simp [ZF];done)|(rw [Xc];simp [ZF];done)|omega))) fl))))))
   exact ak (ZJ ⟨v,rfl,rfl⟩ (ZV 3 (fc (x:=ZQ vs v) (Ze.slh _ (Ys Z7 (by first|rfl|(rw [Zw ZF])|(rw [Zp ZF])|(simp [ZF];done)|(rw [Xc];simp [ZF];done)|omega))) fl)))
  rintro F h ⟨w,rfl,rfl⟩
  refine az (Z2 1 (ZG k (Z1 ?_)))
  have hdr:=Yo Z5
  exact ZI ⟨k+1,(if XF x1.op=true then vs++[YF n vs x1] else vs),w,ob,(by split<;>(try simp)<;>omega),(by rw [hdr] at Zr;clear hdr Z5;grind [Vz]),rfl,rfl,rfl⟩ (ZV 3 (fr (ZL k fl)))
 refine ax 0 (Y6 3 [0] (iw (Ye vs) (ia (((vs.length:Int)-1)) (((vs.length:Int))-(1)) (Zu [] (Ub b.result 0 ((vs.length:Int)-1)) (YR (!(decide (0<=b.result/\b.result<=((vs.length:Int)-1)))) (p:=¬(0<=b.result/\b.result<=((vs.length:Int)-1))) (Xh dq) (fun Yq=>?_) (fun Yq=>?_))))))
 ·refine Ya ?_
  try rw [Xz (xs:=b.steps) (k:=k) om] at Zr
  exact ZK (Y3 (.i (-1)) (li (by rw [hbe,<-Zr];show _=(Vt vs b.result).getD (-1);rw [Ks Yq];rfl)))
 refine ak (Zo 3 [0] ?_)
 obtain ⟨x2,Zv⟩:=Zq vs b.result.toNat om
 refine Zm (Zh (some v) b.result 1 (ZZ Zv)) (Z1 ?_)
 try rw [Xz (xs:=b.steps) (k:=k) om] at Zr
 exact ZK (Y3 (.i x2) (li (by rw [hbe,<-Zr];show _=(Vt vs b.result).getD (-1);rw [Jh om Zv];rfl)))
theorem Z4n (b:Z4) (l:Int) (hb:b.sz<=1000000000) (hl:0<=l/\l<=600) (ih:∀(b2:Z4) (l:Int),(b2.sz<b.sz)->(0<=l/\l<=600)->Zf 103 [ZC b2,.i l] [] (Yt (.i (W9 b2 l)))):Zf 103 [ZC b,.i l] [] (Yt (.i (W9 b l))):=by
 have hbz:=WS b
 have hbe:=Lb b l
 refine ZD 43 Tryz.func103 (ar (iA (YI b) fun b1=>?_))
 refine Z1 (Y1 (ab 0 (Y0 (fun fz gz m F h=>∃(k:Nat) (q:Int),(k<=b.steps.length)/\(0<=q/\q<=600)/\(UC (b.steps.drop k) q=UC b.steps l)/\F=sF [2] fz [(1,.i q),(5,.i k)]/\h=gz/\m=b.steps.length-k) _ _ _ ⟨0,l,ob,ob,ob,rfl,rfl,rfl⟩ (wk [0] (fr (Yd fl))) ?_)))
 rintro m F h ⟨k,q,Yf,Zi,Zr,rfl,rfl,rfl⟩
 refine Y6 3 [0] (iw (W8 b.steps) (ZT ((k:Int)<(b.steps.length:Int)) (fun Z9=>?_) (fun Z9=>?_)))
 ·refine ak (aq (ab 1 (X7 (ZT (q<1) (fun Zg=>?_) (fun Zg=>?_)))))
  ·refine Ya ?_
   try rw [Xz (xs:=b.steps) (k:=k) om] at Zr
   obtain ⟨x1,Z5⟩:=Zq b.steps k om
   rw [Yo Z5] at Zr
   clear Z5
   exact ZK (Y3 (.i (-1)) (li (by first|rfl|omega|grind [UC])))
  obtain ⟨s1,hxs1⟩:=Zq b.steps k om
  have hss:=UZ hxs1
  have hkz:=U8 s1
  refine ak (Yg 1 (ia ((q-1)) ((q)-(1)) (Z1 (Ya (ab 2 (Y0 (fun fz gz m F h=>∃(j:Nat) (j2:Int),(j<=s1.kids.length)/\(0<=j2/\j2<=600)/\(UX (s1.kids.drop j) j2=UX s1.kids (q-1))/\F=sF [2,5] fz [(1,.i j2),(6,.i j)]/\h=gz/\m=s1.kids.length-j) _ _ _ ⟨0,(q-1),ob,ob,ob,rfl,rfl,rfl⟩ (wk [0] (fr (Yd fl))) ?_))))))
  rintro m F h ⟨j,j2,VZ,Wi,Xs,rfl,rfl,rfl⟩
  refine Y6 4 [0] (Zm (Zh none (k:Int) 5 (XO hxs1)) (Z2 2 (iw (Vk s1.kids) (ZT ((j:Int)<(s1.kids.length:Int)) (fun ZF=>?_) (fun ZF=>?_)))))
  ·refine ak (aq (ab 3 (Zo 3 [0] (Zm (Zh none (k:Int) 5 (XO hxs1)) (Z2 3 ?_)))))
   obtain ⟨x1,Z5⟩:=Zq s1.kids j om
   have hks:=VS Z5
   have hle:=FK.2 x1 j2 om
   refine Zm (Zh none (j:Int) 2 (Vv Z5)) (Z2 2 (Zu [] (ih x1 j2 ob ob) (Z1 (ar (ZT ((W9 x1 j2)<0) (fun Yq=>?_) (fun Yq=>?_))))))
   ·refine Ya ?_
    rw [Yo hxs1] at Zr
    rw [Yo Z5] at Xs
    have hls:=Du s1 (q-1)
    exact ZK (Y3 (.i (-1)) (li (by clear Z5 hxs1;first|rfl|omega|grind [UC,UX])))
   refine ak (az (Z2 1 (ZG j (Z1 ?_))))
   have hdr:=Yo Z5
   exact ZI ⟨j+1,(W9 x1 j2),ob,ob,(by rw [hdr] at Xs;clear hdr Z5 hxs1;grind [UX]),rfl,rfl,rfl⟩ (wk [0] (fr (ZL j fl)))
  refine ax 2 (az (Z2 1 (ZG k (Z1 ?_))))
  rw [Xz om] at Xs
  have hls:=Du s1 (q-1)
  rw [UX] at Xs
  have hdr:=Yo hxs1
  exact ZI ⟨k+1,j2,ob,ob,(by rw [hdr] at Zr;clear hdr hxs1;grind [UC]),rfl,rfl,rfl⟩ (wk [0] (fr (ZL k fl)))
 refine ax 0 (Ya ?_)
 try rw [Xz (xs:=b.steps) (k:=k) om] at Zr
 exact ZK (Y3 (.i q) (li (by first|rfl|omega|grind [UC])))
theorem Z4m (b:Z4) (l:Int) (hb:b.sz<=1000000000) (hl:0<=l/\l<=600):Zf 103 [.agg [.sl (Zj b.steps) none,.i b.result],.i l] [] (Yt (.i (W9 b l))):=by
 have key:∀m:Nat,∀(b:Z4) (l:Int),b.sz<=m->b.sz<=1000000000->(0<=l/\l<=600)->Zf 103 [.agg [.sl (Zj b.steps) none,.i b.result],.i l] [] (Yt (.i (W9 b l))):=by
  intro m
  induction m with
  | zero=>intro b l h;have:=b.sz_pos;omega
  | succ m ih=>intro b l h1 h2 h3;exact Z4n b l h2 h3 fun b2 l2 k1 k2=>ih b2 l2 om om k2
 exact key b.sz b l (YQ _) hb hl
theorem Z3x (n:Zx) (hn:Xk n) (m:Nat):∀(b:Z4) (us:LI),(b.sz<=m)->(us.length+4*b.sz<=1000000000)->Zf 128 [Yl n,Z6 us,ZC b] [] (Yt (.i (XL n us b))):=by
 induction m with
 | zero=>intro b us h;have:=b.sz_pos;omega
 | succ m ih=>intro b us h1 h2;exact Z3y n us b hn h2 fun s us2 k1 k2=>MT n us2 s hn k2 fun b2 us3 q1 q2=>ih b2 us3 om q2
theorem ML (n:Zx) (us:LI) (b:Z4) (hn:Xk n) (hb:us.length+4*b.sz<=1000000000):Zf 128 [Yl n,Z6 us,ZC b] [] (Yt (.i (XL n us b))):=
 Z3x n hn b.sz b us (YQ _) hb
theorem Gt (n:Zx) (us:LI) (s:Z3) (hn:Xk n) (hb:us.length+4*s.sz<=1000000000):Zf 164 [Yl n,Z6 us,Ym s] [] (Yt (.i (YF n us s))):=
 MT n us s hn hb fun b2 us3 _ q2=>ML n us3 b2 hn q2
theorem MU (b:Z4) (hb:b.sz<=1000000000:=by exact ob):Zf 66 [ZC b] [] (Yt (.i (WF b))):=by
 have hle:=FK.2 b 600 om
 refine ZD 10 Tryz.func66 (ar (iA (YI b) fun b1=>Z1 (Zo 1 [0] (Zu [] (Z4m b 600 ob ob) (Z1 (X7 (ZT ((W9 b 600)<0) (fun Z9=>?_) (fun Z9=>?_))))))))
 ·exact ar (Zs (Y3 (.i (-1)) (li (by first|rfl|omega|grind [WF]))))
 exact ak (Yg 1 (ia ((600-(W9 b 600))) ((600)-(W9 b 600)) (Zs (Y3 (.i (600-(W9 b 600))) (li (by first|rfl|omega|grind [WF]))))))
theorem KL (z:Int) :Zf 226 [.i z] [] (Yt (ZO (Z0.mk 0 z []))):=by
 exact ZD 6 Tryz.func226 (ar (iA [.i 0,.i 0,nl] fun b1=>ie (Yg 1 (iL (Yb []) 0 3 fun v1=>Z2 1 (ZA 1 b1 [.i 0,.i z,Tj [] v1] (ie (ZK (r3 [] [.agg [.i 0,.i z,Tj [] v1]] [0] [(b1,b1)] ⟨rfl,rfl⟩ (Ze.agg (.cons li (.cons li (.cons (Ze.sl _ (Ys Yb rfl)) .nil))))))))))))
theorem UQ (z:Int) :Zf 273 [.i z] [] (Yt (ZO (Z0.mk 12 z []))):=by
 exact ZD 6 Tryz.func273 (ar (iA [.i 0,.i 0,nl] fun b1=>ie (Yg 1 (iL (Yb []) 0 3 fun v1=>Z2 1 (ZA 1 b1 [.i 12,.i z,Tj [] v1] (ie (ZK (r3 [] [.agg [.i 12,.i z,Tj [] v1]] [0] [(b1,b1)] ⟨rfl,rfl⟩ (Ze.agg (.cons li (.cons li (.cons (Ze.sl _ (Ys Yb rfl)) .nil))))))))))))
theorem Xw (op:Int) (nm:Int) (ks:List Z0) :Zf 271 [.i op,.i nm,Xb ks] [] (Yt (ZO (Z0.mk op nm ks))):=by
 exact ZD 11 Tryz.func271 (ar (iA [.i 0,.i 0,nl] fun b1=>ie (Yg 4 (ZA 0 b1 [.i op,.i nm,Xb ks] (ie (ZK (r3 [] [.agg [.i op,.i nm,Xb ks]] [0] [(b1,b1)] ⟨rfl,rfl⟩ (Ze.agg (.cons li (.cons li (.cons (Ze.sl _ (Ys Yb rfl)) .nil)))))))))))
theorem In (rd:Nat) (bs:LI) (p:Nat) (Zt:∀z∈bs,0<=z/\z<=255) (hp:p+4<=1000000000:=by exact ob):Zf 294 [.p rd 0] [Yc rd bs p] (fun r h=>∃(z:Int),r=.i z/\h=[.obj rd [V7 bs,.i (p+4:Nat)]]/\-2000<=z/\z<=2000):=by
 refine ZD 12 Tryz.func294 (Ya (Yg 2 (ic [0] (XN rd bs p 6 (Zt:=ob)) ?_)))
 rintro _ _ ⟨k1,rfl,rfl,ZX⟩
 have qhp1:=ZX.lt om
 refine Z2 1 (ic [0] (XN rd bs (p+1) 6 (Zt:=ob)) ?_)
 rintro _ _ ⟨k2,rfl,rfl,Y9⟩
 have qhp2:=Y9.lt om
 refine Z2 1 (ic [0] (XN rd bs ((p+1)+1) 40 (Zt:=ob)) ?_)
 rintro _ _ ⟨k3,rfl,rfl,YL⟩
 have qhp3:=YL.lt om
 refine iL (Z7 [k1,k2,0,1,2,-1,3,k3,999,-998]) 10 1 fun v1=>ZE 0 [(10,Z6 [k1,k2,0,1,2,-1,3,k3,999,-998])] (ic [1] (WW rd bs (((p+1)+1)+1) [k1,k2,0,1,2,-1,3,k3,999,-998] (Zt:=ob)) ?_)
 rintro _ _ ⟨z1,rfl,rfl,YX⟩
 exact Zs (r1 [0] ⟨z1,rfl,rfl,(by simp at YX;omega)⟩)
theorem Ia (g:XJ) (gb:Nat) (rs:List Func) (t:Int) (hg:GP g:=by exact ob) (XW:g.funcs <+: rs:=by exact ob):Zf 306 [.agg (XX g gb),.i t] [Xu gb rs] (fun r h=>∃(xs:LI),r=Z6 xs/\h=[Xu gb rs]/\xs.length<=4/\∀i∈xs,Km g t i):=by
 have hgl:=hg.len
 have hdl:=hg.decls.len
 refine ZD 53 Tryz.func306 (ar (iA (XX g gb) fun b1=>Z1 (ar (iL (Z7 []) 0 1 fun v1=>?_))))
 refine Z1 (Y1 (ab 0 (Y0 (fun fz gz m F h=>∃(k:Nat) (ys:LI) (u:Value),(k<=g.funcs.length)/\(ys.length<=k)/\(∀i∈ys,Km g t i)/\F=sF [1,2] fz [(5,ZQ ys u),(6,.i k)]/\h=[Za gz 1,Za gz 2,.tail u 1]/\m=g.funcs.length-k) _ _ _ ⟨0,[],v1,ob,ob,(fun i hi=>by cases hi),rfl,rfl,rfl⟩ (wk [1,1,0] (fr (Yd fl))) ?_)))
 rintro m F h ⟨k,ys,u,Yf,Zi,Zr,rfl,rfl,rfl⟩
 refine Y6 3 [0] (io (.i g.funcs.length) (.i g.funcs.length) (lr _) (ZT ((k:Int)<(g.funcs.length:Int)) (fun Z9=>?_) (fun Z9=>?_)))
 ·refine ak (aq (ab 1 (Zo 3 [0] ?_)))
  obtain ⟨x1,Z5⟩:=Zq g.funcs k om
  have hso:=(hg.sigs _ (ZW Z5)).bd
  refine Zm (XS gb g.funcs.length 4 k 5 (k:Int)) (Z2 1 (Vn (WD 1 gb 4 4 5 (k*5+0) (Zc (X5 rs)) [Z6 x1.params] 31 (Z6 x1.params) (VE XW Z5 0 rfl (Wx rfl))) (iw (Ye x1.params) (Z1 (aD 25 (Zk 22 25 [0,1,2] (db (b:=(decide ((x1.params.length:Int)>0))) 25 (fun Zb=>?_) (fun Zb=>?_))))))))
  ·have ZX:(x1.params.length:Int)>0:=(dq).1 Zb
   refine ZH 17 22 [3,4,5,6,7] [0,0] (dx 8 (XS gb g.funcs.length 4 k 5 (k:Int)) (Zk 15 16 [9] (Vu 10 (WD 1 gb 4 4 5 (k*5+0) (Zc (X5 rs)) [Z6 x1.params] 31 (Z6 x1.params) (VE XW Z5 0 rfl (Wx rfl))) (Zk 13 14 [11] (da 12 ((((x1.params.length-1):Nat):Int)) (((x1.params.length:Int))-(1)) ?_)))))
   obtain ⟨x2,Zv⟩:=Zq x1.params (x1.params.length-1) om
   refine dx 13 (Zh none (((x1.params.length-1):Nat):Int) 1 (ZZ Zv)) (ZH 7 11 [14,15,16,17] [0] (dx 18 (XS gb g.funcs.length 4 k 5 (k:Int)) (Zk 5 6 [19] (Vu 20 (WD 1 gb 4 4 5 (k*5+1) (Zc (X5 rs)) [.i x1.result] 3 (.i x1.result) (VE XW Z5 1 rfl (Wx rfl))) (Zk 3 4 [22] (Z8 21 (Yp 21 [] [] [] (MK g.decls x2 x1.result) (Zk 0 2 [23,24] (de (ac ((QP g.decls x2 x1.result)==t) Zz (fun Zg=>?_) (fun Zg=>?_)))))))))))
   ·exact az (Z2 2 (iL (Z7 [(k:Int)]) 1 1 fun v2=>ZE 0 [(50,Z6 [(k:Int)])] (ip 3 (Z7 (ys++[(k:Int)])) (Z7 ys) (Z7 [(k:Int)]) u none 1 (Yw _) (Yw _) (XT _) (by simp<;>omega) (by simp [XR,Z7]) fun v3=>Z1 (az (Z2 1 (ZG k (Z1 (ZI ⟨k+1,(ys++[(k:Int)]),v3,ob,ob,(Xe Zr (Km.mk Z5 om Zv Zg)),rfl,rfl,rfl⟩ (wk [2,2,0] (fr (ZL k fl)))))))))))
   exact ak (az (Z2 1 (ZG k (Z1 (ZI ⟨k+1,ys,u,ob,ob,ob,rfl,rfl,rfl⟩ (ZV 3 (fr (ZL k fl))))))))
  have Y9:¬((x1.params.length:Int)>0):=YS dq Zb
  exact Zk 0 22 [3,4,5,6,7,8,9,10,11,12,13,14,15,16,17,18,19,20,21,22,23,24] (de (Wz (ak (az (Z2 1 (ZG k (Z1 (ZI ⟨k+1,ys,u,ob,ob,ob,rfl,rfl,rfl⟩ (ZV 3 (fr (ZL k fl)))))))))))
 exact ax 0 (ar (Zs (r2 [1] [ZQ ys u] ⟨ys,rfl,rfl,⟨by omega,Zr⟩⟩ (Ze.forget _ _))))
theorem Sn (vs:LI) (t:Int) (hv:vs.length<=2000:=by exact ob):Zf 295 [Z6 vs,.i t] [] (fun r h=>∃(xs:LI),r=Z6 xs/\h=[]/\xs.length<=vs.length/\∀i∈xs,0<=i/\i<vs.length):=by
 refine ZD 25 Tryz.func295 (Ya (ar (iL (Z7 []) 0 1 fun v1=>?_)))
 refine Z1 (Y1 (ab 0 (Y0 (fun fz gz m F h=>∃(k:Nat) (ys:LI) (u:Value),(k<=vs.length)/\(ys.length<=k)/\(∀i∈ys,0<=i/\i<vs.length)/\F=sF [0,1] fz [(5,ZQ ys u),(6,.i k)]/\h=[.tail u 1]/\m=vs.length-k) _ _ _ ⟨0,[],v1,ob,ob,(fun i hi=>by cases hi),rfl,rfl,rfl⟩ (wk [0] (fr (Yd fl))) ?_)))
 rintro m F h ⟨k,ys,u,Yf,Zi,Zr,rfl,rfl,rfl⟩
 refine X4 2 (iw (Ye vs) (ZT ((k:Int)<(vs.length:Int)) (fun Z9=>?_) (fun Z9=>?_)))
 ·refine ak (aq (ab 1 (Yg 2 ?_)))
  obtain ⟨x1,Z5⟩:=Zq vs k om
  refine Zm (Zh none (k:Int) 1 (ZZ Z5)) (YR (x1==t) Zz (fun Zg=>?_) (fun Zg=>?_))
  ·exact az (Z2 2 (iL (Z7 [(k:Int)]) 1 1 fun v2=>ZE 0 [(22,Z6 [(k:Int)])] (ip 1 (Z7 (ys++[(k:Int)])) (Z7 ys) (Z7 [(k:Int)]) u none 1 (Yw _) (Yw _) (XT _) (by simp<;>omega) (by simp [XR,Z7]) fun v3=>Z1 (az (Z2 1 (ZG k (Z1 (ZI ⟨k+1,(ys++[(k:Int)]),v3,ob,ob,(Xe Zr om),rfl,rfl,rfl⟩ (wk [0] (fr (ZL k fl)))))))))))
  exact ak (az (Z2 1 (ZG k (Z1 (ZI ⟨k+1,ys,u,ob,ob,ob,rfl,rfl,rfl⟩ (wk [0] (fr (ZL k fl))))))))
 exact ax 0 (ar (Zs (r2 [] [ZQ ys u] ⟨ys,rfl,rfl,⟨by omega,Zr⟩⟩ (Ze.forget _ _))))
theorem Da (g:XJ) (gb:Nat) (rs:List Func) (vs:LI) (t:Int) (hg:GP g:=by exact ob) (XW:g.funcs <+: rs:=by exact ob) (hv:vs.length<=2000:=by exact ob):Zf 296 [.agg (XX g gb),Z6 vs,.i t] [Xu gb rs] (fun r h=>∃(w:Bool),r=.b w/\h=[Xu gb rs]):=by
 have XD:=hg.decls.ok
 refine ZD 24 Tryz.func296 (ar (iA (XX g gb) fun b1=>Z1 (Zo 3 [0] (Zu [] (Cj g.decls t) (Z2 2 (ib (b:=(!WX g.decls t)) 12 (fun Zb=>?_) (fun Zb=>?_)))))))
 ·exact Zs (r1 [1] ⟨true,rfl,rfl⟩)
 refine ZU 2 [0] (ic [1] (Ia g gb rs t) ?_)
 rintro _ _ ⟨xs1,rfl,rfl,YL⟩
 have qhp3:=YL.1
 refine iw (Ye xs1) (Z2 3 (ib (b:=(decide ((xs1.length:Int)>0))) 19 (fun ZP=>?_) (fun ZP=>?_)))
 ·exact Zs (r1 [0] ⟨true,rfl,rfl⟩)
 exact Z2 2 (Zu [] (VL vs t) (Zs (r1 [0] ⟨(decide (t∈vs)),rfl,rfl⟩)))
theorem Se (rd:Nat) (bs:LI) (p:Nat) (g:XJ) (gb:Nat) (rs:List Func) (t:Int) (Zt:∀z∈bs,0<=z/\z<=255) (hp:p+5+15*rk t<=1000000000) (hg:GP g) (XW:g.funcs <+: rs) (ih:∀(rd:Nat) (bs:LI) (p:Nat) (t2:Int),(∀z∈bs,0<=z/\z<=255)->(p+5+15*rk t2<=1000000000)->(rk t2<rk t)->Zf 297 [.p rd 0,.agg (XX g gb),.i t2] [Yc rd bs p,Xu gb rs] (fun r h=>∃(e:Z0) (p2:Nat),r=ZO e/\h=[Yc rd bs p2,Xu gb rs]/\SE g (1+3*rk t2) e/\p<=p2/\p2<=p+5+15*rk t2)):Zf 297 [.p rd 0,.agg (XX g gb),.i t] [Yc rd bs p,Xu gb rs] (fun r h=>∃(e:Z0) (p2:Nat),r=ZO e/\h=[Yc rd bs p2,Xu gb rs]/\SE g (1+3*rk t) e/\p<=p2/\p2<=p+5+15*rk t):=by
 have XD:=hg.decls.ok
 have hgl:=hg.len
 have hrk:=G8 t
 refine ZD 118 Tryz.func297 (ar (iA (XX g gb) fun b1=>iA [.i 0,.i 0,nl] fun b2=>ie (Zo 3 [1] (ic [] (Kb g.decls t) ?_))))
 rintro _ _ ⟨v1,rfl,rfl⟩
 refine Z1 (X4 1 (io (.i (((Y2 g.decls t).length:Nat):Int)) (.i (((Z7 (Y2 g.decls t)).length:Nat):Int)) (li (by rw [Ye])) (ZT ((((Y2 g.decls t).length:Nat):Int)>0) (fun Z9=>?_) (fun Z9=>?_))))
 ·refine Yg 1 ?_
  obtain ⟨x1,Z5⟩:=Zq (Y2 g.decls t) 0 om
  refine Zm (Zh (some v1) 0 1 (ZZ Z5)) (Z1 (aq (aq (XC (fun fz gz F h=>∃(w1:Bool) (p5:Nat),(w1=true->1<(Y2 g.decls t).length)/\(p<=p5/\p5<=p+1)/\F=sF [0,2,4,6,8] fz [(7,Z6 (Y2 g.decls t)),(34,.b w1)]/\h=[Za gz 1,Za gz 2,Yc rd bs p5,Za gz 4]) ?_ ?_))))
  ·refine az (Z2 1 (io (.i (((Y2 g.decls t).length:Nat):Int)) (.i (((Z7 (Y2 g.decls t)).length:Nat):Int)) (li (by rw [Ye])) (Z2 2 (ib (b:=(decide ((((Y2 g.decls t).length:Nat):Int)>1))) 30 (fun Zb=>?_) (fun Zb=>?_)))))
   ·have ZX:(((Y2 g.decls t).length:Nat):Int)>1:=(dq).1 Zb
    refine Z2 1 (ic [3] (XN rd bs p 4 (Zt:=ob)) ?_)
    rintro _ _ ⟨k1,rfl,rfl,Y9⟩
    have qhp2:=Y9.lt om
    exact Z1 (ZJ ⟨(k1==0),p+1,(by first|exact (fun h=>by cases h)|exact fun _=>by omega),ob,rfl,rfl⟩ (wk [2,2,0,1] fl))
   have YL:¬((((Y2 g.decls t).length:Nat):Int)>1):=YS dq Zb
   exact Z1 (ZJ ⟨false,p,(by first|exact (fun h=>by cases h)|exact fun _=>by omega),ob,rfl,rfl⟩ (wk [1,1,1,1] fl))
  rintro F h ⟨w1,p5,kR4_0,kR4_1,rfl,rfl⟩
  refine XC (fun fz gz F h=>∃(c1:Int),(c1∈Y2 g.decls t)/\F=sF [0,2,4,6,7] fz [(8,.i c1)]/\h=gz) ?_ ?_
  ·refine ac w1 Iff.rfl (fun Zg=>?_) (fun Zg=>?_)
   ·refine az (Z2 1 ?_)
    obtain ⟨x2,Zv⟩:=Zq (Y2 g.decls t) 1 (kR4_0 (by assumption))
    exact Zm (Zh none 1 1 (ZZ Zv)) (Z1 (ZJ ⟨x2,(ZW Zv),rfl,rfl⟩ (ZV 4 fl)))
   exact ak (ZJ ⟨x1,(ZW Z5),rfl,rfl⟩ (ZV 4 fl))
  rintro F h ⟨c1,V6,rfl,rfl⟩
  have hcf:=VD XD c1
  refine Y6 3 [1] (Zu [] (Q0 g.decls c1) (Z2 1 (Zu [] (VL (Y4 g.decls c1) t) (ie (XC (fun fz gz F h=>∃(c2:Int),(Je g.decls t c2)/\F=sF [0,4,6] fz [(8,.i c2)]/\h=gz) ?_ ?_)))))
  ·refine VA (t∈(Y4 g.decls c1)) (fun ZF=>?_) (fun ZF=>?_)
   ·exact az (Z2 1 (Zm (Zh none 0 1 (ZZ Z5)) (Z1 (ZJ ⟨x1,(Z3g hg.decls V6 (by assumption) Z5),rfl,rfl⟩ (ZV 4 fl)))))
   exact ak (ZJ ⟨c1,(Z3f hg.decls V6 (by assumption)),rfl,rfl⟩ (ZV 4 fl))
  rintro F h ⟨c2,BW,rfl,rfl⟩
  obtain ⟨Iu,Us,KQ⟩:=BW
  refine ar (iL (Yb []) 0 3 fun v2=>?_)
  refine Z1 (Zo 3 [2] (Zu [] (Q0 g.decls c2) (Z1 (Y1 (ab 0 (Y0 (fun fz gz m F h=>∃(k:Nat) (ys:List Z0) (u:Value) (pq:Nat),(k<=(Y4 g.decls c2).length)/\(ys.length=k)/\(∀e∈ys,SE g 1 e)/\(p<=pq/\pq<=p+1+5*k)/\F=sF [0,4,6,8,10] fz [(9,Tj ys u),(11,.i k)]/\h=[Za gz 1,Za gz 2,Yc rd bs pq,Za gz 4,.tail u 3]/\m=(Y4 g.decls c2).length-k) _ _ _ ⟨0,[],v2,p5,ob,ob,(fun e he=>by cases he),ob,rfl,rfl,rfl⟩ (wk [1,1,1,1,0] (fr (Yd fl))) ?_))))))
  rintro m F h ⟨k,ys,u,pq,Yf,Zi,Zr,YA,rfl,rfl,rfl⟩
  refine X4 2 (io (.i (((Y4 g.decls c2).length:Nat):Int)) (.i (((Z7 (Y4 g.decls c2)).length:Nat):Int)) (li (by rw [Ye])) (ZT ((k:Int)<(((Y4 g.decls c2).length:Nat):Int)) (fun Yq=>?_) (fun Yq=>?_)))
  ·refine ak (aq (ab 1 (aE 11 (ZH 6 11 [0,1,2,3,4] [1] ?_))))
   obtain ⟨x3,X3⟩:=Zq (Y4 g.decls c2) k om
   have hz3:=M8 (KQ _ (ZW X3))
   refine dx 5 (Zh none (k:Int) 1 (ZZ X3)) (Zk 4 5 [6] (Z8 7 (dc 7 [2,2] [] [] (ih rd bs pq x3 ob ob om) ?_)))
   rintro _ _ ⟨e1,p21,rfl,rfl,YX⟩
   have hse:=YX.1
   rw [hz3] at hse
   exact Z8 8 (W5 8 [] [] [ZO e1] (Yb [e1]) (Xt [e1]).symm 1 3 fun v3=>Yh 2 2 [] [(66,Xb [e1])] (Z8 9 (dp 9 5 [] [] (Yb (ys++[e1])) (Yb ys) (Yb [e1]) u none 3 (U2 _) (U2 _) (QZ _) (by simp<;>omega) (by simp [QY,Yb]) fun v4=>Zk 0 1 [10] (de (az (Z2 1 (ZG k (Z1 (ZI ⟨k+1,(ys++[e1]),v4,p21,ob,ob,(Xe Zr hse),ob,rfl,rfl,rfl⟩ (wk [4,4,2,2,0] (fr (ZL k fl))))))))))))
  exact ax 0 (ar (ZE 2 [(69,Xb ys)] (Zu [] (Xw 6 c2 ys) (ZA 0 b2 (YE (Z0.mk 6 c2 ys)) (ie (ZK (r3 [2,2] [ZO (Z0.mk 6 c2 ys)] [0] [(b2,b2)] ⟨(Z0.mk 6 c2 ys),pq,rfl,rfl,⟨SE.node (k:=3*rk t) (.inl rfl) om Zr om om om,by omega⟩⟩ (lr _))))))))
 refine ak (Zo 2 [2] (ic [4] (Ia g gb rs t) ?_))
 rintro _ _ ⟨xs1,rfl,rfl,X9⟩
 have hcl:=X9.2
 have hcn:=X9.1
 refine Z1 (X7 (XM [0,4,6,12] [(80,.b ((decide (t>0))&&(decide ((xs1.length:Int)>0))))] (fun gz=>gz) ?_ ?_))
 ·refine Z2 3 (ib (b:=(decide (t>0))) 76 (fun ZP=>?_) (fun ZP=>?_))
  ·have XV:t>0:=(dq).1 ZP
   exact Z2 1 (iw (Ye xs1) (Z1 (ZV 5 (ZM (decide ((xs1.length:Int)>0)) ZP fl))))
  have Wu:¬(t>0):=YS dq ZP
  exact Z1 (ZV 5 (ZM false ZP fl))
 refine ac ((decide (t>0))&&(decide ((xs1.length:Int)>0))) (p:=(t>0)/\((xs1.length:Int)>0)) (Xv dq dq) (fun XH=>?_) (fun XH=>?_)
 ·refine Yg 3 (iw (Ye xs1) (ic [4] (XN rd bs p (xs1.length:Int) (Zt:=ob)) ?_))
  rintro _ _ ⟨k2,rfl,rfl,V5⟩
  have qhp8:=V5.lt om
  obtain ⟨x4,Te⟩:=Zq xs1 k2.toNat om
  have hclo:=hcl _ (ZW Te)
  have hcb:=hclo.lt
  refine Zm (Zh none k2 1 (ZZ Te)) (Z1 (Zo 3 [4] ?_))
  obtain ⟨x5,UV⟩:=Zq g.funcs x4.toNat om
  have hso:=(hg.sigs _ (ZW UV)).bd
  have hr1:=Z2l (t:=t) hg.decls om om
  have hfu:=UV
  refine Zm (XS gb g.funcs.length 4 x4.toNat 5 x4) (Z2 1 (Vn (WD 1 gb 4 4 5 (x4.toNat * 5+0) (Zc (X5 rs)) [Z6 x5.params] 31 (Z6 x5.params) (VE XW UV 0 rfl (Wx rfl))) (Z1 (ar (iL (Yb []) 0 3 fun v5=>?_)))))
  refine Z1 (Y1 (ab 2 (Y0 (fun fz gz m F h=>∃(k:Nat) (ys:List Z0) (u:Value) (pq:Nat),(k<=x5.params.length)/\(ys.length=k)/\(∀e∈ys,SE g 1 e)/\(p<=pq/\pq<=p+1+5*k)/\F=sF [0,4,6,13,14] fz [(15,Tj ys u),(16,.i k)]/\h=[Yc rd bs pq,Za gz 2,Za gz 4,Za gz 5,.tail u 3]/\m=x5.params.length-k) _ _ _ ⟨0,[],v5,p+1,ob,ob,(fun e he=>by cases he),ob,rfl,rfl,rfl⟩ (wk [1,1,2,2,0] (fr (Yd fl))) ?_)))
  rintro m F h ⟨k,ys,u,pq,VZ,Wi,Xs,EB,rfl,rfl,rfl⟩
  refine X4 1 (ZG k (Z2 1 (iw (Ye x5.params) (ZT (((k+1:Nat):Int)<(x5.params.length:Int)) (fun XI=>?_) (fun XI=>?_)))))
  ·refine ak (aq (ab 3 (aE 11 (ZH 6 11 [0,1,2,3,4] [3] ?_))))
   obtain ⟨x6,QB⟩:=Zq x5.params k om
   have hz3:=hclo.low hg om hfu om QB
   refine dx 5 (Zh none (k:Int) 1 (ZZ QB)) (Zk 4 5 [6] (Z8 7 (dc 7 [0,0] [] [] (ih rd bs pq x6 ob ob om) ?_)))
   rintro _ _ ⟨e2,p22,rfl,rfl,Vm⟩
   have hse:=Vm.1
   rw [hz3] at hse
   exact Z8 8 (W5 8 [] [] [ZO e2] (Yb [e2]) (Xt [e2]).symm 1 3 fun v6=>Yh 2 2 [] [(110,Xb [e2])] (Z8 9 (dp 9 5 [] [] (Yb (ys++[e2])) (Yb ys) (Yb [e2]) u none 3 (U2 _) (U2 _) (QZ _) (by simp<;>omega) (by simp [QY,Yb]) fun v7=>Zk 0 1 [10] (de (az (Z2 1 (ZG k (Z1 (ZI ⟨k+1,(ys++[e2]),v7,p22,ob,ob,(Xe Xs hse),ob,rfl,rfl,rfl⟩ (wk [2,2,2,2,0] (fr (ZL k fl))))))))))))
  exact ax 2 (ar (ZE 2 [(113,Xb ys)] (Zu [] (Xw 10 x4 ys) (ZA 2 b2 (YE (Z0.mk 10 x4 ys)) (ie (ZK (r3 [1,1] [ZO (Z0.mk 10 x4 ys)] [0] [(b2,b2)] ⟨(Z0.mk 10 x4 ys),pq,rfl,rfl,⟨SE.node (k:=3) (.inr rfl) om Xs om om om,by omega⟩⟩ (lr _))))))))
 refine ak (Yg 1 (ic [4] (In rd bs p (Zt:=ob)) ?_))
 rintro _ _ ⟨z1,rfl,rfl,US⟩
 exact Zu [] (KL z1) (ZA 3 b2 (YE (Z0.mk 0 z1 [])) (ie (ZK (r3 [1,1] [ZO (Z0.mk 0 z1 [])] [0] [(b2,b2)] ⟨(Z0.mk 0 z1 []),p+4,rfl,rfl,⟨SE.int om om,by omega⟩⟩ (lr _)))))
theorem Sd (rd:Nat) (bs:LI) (p:Nat) (g:XJ) (gb:Nat) (rs:List Func) (t:Int) (Zt:∀z∈bs,0<=z/\z<=255) (hp:p+5+15*rk t<=1000000000:=by exact ob) (hg:GP g:=by exact ob) (XW:g.funcs <+: rs:=by exact ob):Zf 297 [.p rd 0,.agg (XX g gb),.i t] [Yc rd bs p,Xu gb rs] (fun r h=>∃(e:Z0) (p2:Nat),r=ZO e/\h=[Yc rd bs p2,Xu gb rs]/\SE g (1+3*rk t) e/\p<=p2/\p2<=p+5+15*rk t):=by
 have key:∀k:Nat,∀(rd:Nat) (bs:LI) (p:Nat) (t2:Int),(∀z∈bs,0<=z/\z<=255)->(p+5+15*rk t2<=1000000000)->(rk t2<k)->Zf 297 [.p rd 0,.agg (XX g gb),.i t2] [Yc rd bs p,Xu gb rs] (fun r h=>∃(e:Z0) (p2:Nat),r=ZO e/\h=[Yc rd bs p2,Xu gb rs]/\SE g (1+3*rk t2) e/\p<=p2/\p2<=p+5+15*rk t2):=by
  intro k
  induction k with
  | zero=>intro rd bs p t2 h1 h2 h3;omega
  | succ k ih=>intro rd bs p t2 h1 h2 h3;exact Se rd bs p g gb rs t2 h1 h2 hg XW fun rd bs p t3 q1 q2 q3=>ih rd bs p t3 q1 q2 om
 exact key 2 rd bs p t Zt hp (by have:=G8 t;omega)
theorem AY (rd:Nat) (bs:LI) (p:Nat) (g:XJ) (gb:Nat) (rs:List Func) (vs:LI) (t:Int) (Zt:∀z∈bs,0<=z/\z<=255) (hp:p+30<=1000000000:=by exact ob) (hg:GP g:=by exact ob) (XW:g.funcs <+: rs:=by exact ob) (hv:vs.length<=2000:=by exact ob):Zf 274 [.p rd 0,.agg (XX g gb),Z6 vs,.i t] [Yc rd bs p,Xu gb rs] (fun r h=>∃(e:Z0) (p2:Nat),r=ZO e/\h=[Yc rd bs p2,Xu gb rs]/\GE g vs.length 4 e/\p<=p2/\p2<=p+30):=by
 have hrk:=G8 t
 refine ZD 40 Tryz.func274 (ar (iA (XX g gb) fun b1=>iA [.i 0,.i 0,nl] fun b2=>ie (Yg 2 (ic [] (Sn vs t) ?_))))
 rintro _ _ ⟨xs1,rfl,rfl,ZX⟩
 have hxs:=ZX
 refine Z1 (aq (aq (XC (fun fz gz F h=>∃(wb:Bool) (p5:Nat),(wb=true->0<xs1.length)/\(p<=p5/\p5<=p+1)/\F=sF [0,3,5,8,9] fz [(27,.b wb)]/\h=[Za gz 0,Za gz 1,Yc rd bs p5,Za gz 3]) ?_ ?_)))
 ·refine az (Z2 1 (iw (Ye xs1) (Z2 2 (ib (b:=(decide ((xs1.length:Int)>0))) 16 (fun Zb=>?_) (fun Zb=>?_)))))
  ·have Y9:(xs1.length:Int)>0:=(dq).1 Zb
   refine Z2 1 (ic [2] (XN rd bs p 6 (Zt:=ob)) ?_)
   rintro _ _ ⟨k1,rfl,rfl,YL⟩
   have qhp3:=YL.lt om
   refine Z2 2 (ib (b:=(decide (k1>0))) 20 (fun ZP=>?_) (fun ZP=>?_))
   ·have YX:k1>0:=(dq).1 ZP
    exact Z1 (ZJ ⟨true,p+1,(by first|exact (fun h=>Bool.noConfusion h)|exact fun _=>by omega),ob,rfl,rfl⟩ (wk [1,1,0,0] fl))
   have X9:¬(k1>0):=YS dq ZP
   refine ZU 1 [2] (iL (Z7 []) 0 1 fun v1=>ZE 1 [(22,Z6 [])] (ic [4] (Da g gb rs [] t) ?_))
   rintro _ _ ⟨w1,rfl,rfl⟩
   exact Z1 (ZJ ⟨(!w1),p+1,(by first|exact (fun h=>Bool.noConfusion h)|exact fun _=>by omega),ob,rfl,rfl⟩ (wk [3,3,2,0] fl))
  have XV:¬((xs1.length:Int)>0):=YS dq Zb
  exact Z1 (ZJ ⟨false,p,(by first|exact (fun h=>Bool.noConfusion h)|exact fun _=>by omega),ob,rfl,rfl⟩ (ZV 4 fl))
 rintro F h ⟨wb,p5,kR2_0,kR2_1,rfl,rfl⟩
 refine ac wb Iff.rfl (fun Z9=>?_) (fun Z9=>?_)
 ·have hk0:=kR2_0 Z9
  refine Yg 3 (iw (Ye xs1) (ic [2] (XN rd bs p5 (xs1.length:Int) (Zt:=ob)) ?_))
  rintro _ _ ⟨k2,rfl,rfl,Wu⟩
  have qhp7:=Wu.lt om
  obtain ⟨x1,Z5⟩:=Zq xs1 k2.toNat om
  have hxv:=hxs.2 _ (ZW Z5)
  exact Zm (Zh none k2 1 (ZZ Z5)) (Z2 1 (Zu [] (UQ x1) (ZA 1 b2 (YE (Z0.mk 12 x1 [])) (ie (ZK (r3 [1,2] [ZO (Z0.mk 12 x1 [])] [0] [(b2,b2)] ⟨(Z0.mk 12 x1 []),p5+1,rfl,rfl,⟨GE.var hxv om om,by omega⟩⟩ (lr _)))))))
 refine ak (Zo 3 [1] (ic [2,2] (Sd rd bs p5 g gb rs t (Zt:=ob)) ?_))
 rintro _ _ ⟨e1,p21,rfl,rfl,V5⟩
 have hse:=V5.1
 exact ZA 2 b2 (YE e1) (ie (ZK (r3 [1,1] [ZO e1] [0] [(b2,b2)] ⟨e1,p21,rfl,rfl,⟨hse.ge om,by omega⟩⟩ (lr _))))
theorem Rh (rd:Nat) (bs:LI) (p:Nat) (g:XJ) (gb:Nat) (rs:List Func) (vs:LI) (Zt:∀z∈bs,0<=z/\z<=255) (hp:p+1<=1000000000:=by exact ob) (hg:GP g:=by exact ob) (XW:g.funcs <+: rs:=by exact ob) (hv:vs.length<=2000:=by exact ob):Zf 289 [.p rd 0,.agg (XX g gb),Z6 vs] [Yc rd bs p,Xu gb rs] (fun r h=>∃(z:Int),r=.i z/\h=[.obj rd [V7 bs,.i (p+1:Nat)],Xu gb rs]/\0<=z/\z<=4):=by
 have XD:=hg.decls.ok
 have hgl:=hg.len
 have hdl:=hg.decls.len
 refine ZD 24 Tryz.func289 (ar (iA (XX g gb) fun b1=>Z1 (Yg 1 (iL (Z7 [1,1,3,0,2,4,3]) 7 1 fun v1=>ZE 0 [(9,Z6 [1,1,3,0,2,4,3])] (ic [2] (WW rd bs p [1,1,3,0,2,4,3] (Zt:=ob)) ?_)))))
 rintro _ _ ⟨z1,rfl,rfl,ZX⟩
 have hz:=Jz (a:=0) (b:=4) ZX (by decide)
 refine Z1 (aq (aq (XC (fun fz gz F h=>∃(wb:Bool),(True)/\F=sF [7] fz [(22,.b wb)]/\h=[Za gz 0,Za gz 3]) ?_ ?_)))
 ·refine az (ZU 3 [2] (iw (Tw g.decls) (Z2 2 (ib (b:=(decide (z1>(g.decls.length:Int)))) 16 (fun Zb=>?_) (fun Zb=>?_)))))
  ·exact Z1 (ZJ ⟨true,True.intro,rfl,rfl⟩ (wk [0,2] fl))
  refine ZU 3 [2] (ic [3] (Da g gb rs vs z1) ?_)
  rintro _ _ ⟨w1,rfl,rfl⟩
  exact Z1 (ZJ ⟨(!w1),True.intro,rfl,rfl⟩ (wk [1,0] fl))
 rintro F h ⟨wb,kR2_0,rfl,rfl⟩
 refine ac wb Iff.rfl (fun Z9=>?_) (fun Z9=>?_)
 ·exact ar (Zs (r1 [0,0] ⟨1,rfl,rfl,om⟩))
 exact ak (ar (Zs (r1 [0,0] ⟨z1,rfl,rfl,om⟩)))
theorem Rl (g:XJ) (gb:Nat) (rs:List Func) (t:Int) (hg:GP g:=by exact ob) (XW:g.funcs <+: rs:=by exact ob):Zf 292 [.agg (XX g gb),.i t] [Xu gb rs] (fun r h=>∃(xs:LI),r=Z6 xs/\h=[Xu gb rs]/\xs.length<=4/\∀i∈xs,1<=i/\i<g.funcs.length):=by
 have XD:=hg.decls.ok
 have hgl:=hg.len
 have hdl:=hg.decls.len
 refine ZD 57 Tryz.func292 (ar (iA (XX g gb) fun b1=>Z1 (ar (iL (Z7 []) 0 1 fun v1=>?_))))
 refine Z1 (Y1 (ab 0 (Y0 (fun fz gz m F h=>∃(k:Nat) (ys:LI) (u:Value),(1<=k/\k<=g.funcs.length)/\(ys.length<=k)/\(∀i∈ys,1<=i/\i<g.funcs.length)/\F=sF [1,2] fz [(5,ZQ ys u),(6,.i k)]/\h=[Za gz 1,Za gz 2,.tail u 1]/\m=g.funcs.length-k) _ _ _ ⟨1,[],v1,ob,ob,(fun i hi=>by cases hi),rfl,rfl,rfl⟩ (wk [1,1,0] (fr (fc (x:=.i 1) li fl))) ?_)))
 rintro m F h ⟨k,ys,u,Yf,Zi,Zr,rfl,rfl,rfl⟩
 refine Y6 3 [0] (io (.i g.funcs.length) (.i g.funcs.length) (lr _) (ZT ((k:Int)<(g.funcs.length:Int)) (fun Z9=>?_) (fun Z9=>?_)))
 ·refine ak (aq (ab 1 (Zo 3 [0] ?_)))
  obtain ⟨x1,Z5⟩:=Zq g.funcs k om
  have hso:=(hg.sigs _ (ZW Z5)).bd
  refine Zm (XS gb g.funcs.length 4 k 5 (k:Int)) (Z2 1 (Vn (WD 1 gb 4 4 5 (k*5+1) (Zc (X5 rs)) [.i x1.result] 3 (.i x1.result) (VE XW Z5 1 rfl (Wx rfl))) (Z1 (Y1 (ab 2 (Y0 (fun fz gz m F h=>∃(j:Nat) (wo:Bool),(True)/\F=sF [1,2,5,6] fz [(7,.b wo),(8,.i j)]/\h=gz/\m=x1.params.length-j) _ _ _ ⟨0,(x1.result==t),True.intro,rfl,rfl,rfl⟩ (ZV 3 (fr (Yd fl))) ?_))))))
  rintro m F h ⟨j,wo,VZ,rfl,rfl,rfl⟩
  refine Y6 4 [0] (Zm (XS gb g.funcs.length 4 k 5 (k:Int)) (Z2 1 (Vn (WD 1 gb 4 4 5 (k*5+0) (Zc (X5 rs)) [Z6 x1.params] 31 (Z6 x1.params) (VE XW Z5 0 rfl (Wx rfl))) (iw (Ye x1.params) (ZT ((j:Int)<(x1.params.length:Int)) (fun Zg=>?_) (fun Zg=>?_))))))
  ·refine ak (aq (ab 3 (aE 16 (Zk 14 16 [0,1] (db (b:=wo) 37 (fun Zb=>?_) (fun Zb=>?_))))))
   ·refine ZH 10 14 [2,4,5,6] [0,0] (dx 7 (XS gb g.funcs.length 4 k 5 (k:Int)) (Zk 8 9 [8] (Vu 9 (WD 1 gb 4 4 5 (k*5+0) (Zc (X5 rs)) [Z6 x1.params] 31 (Z6 x1.params) (VE XW Z5 0 rfl (Wx rfl))) (Zk 6 7 [10] ?_))))
    obtain ⟨x2,Zv⟩:=Zq x1.params j om
    refine dx 11 (Zh none (j:Int) 1 (ZZ Zv)) (Zk 4 5 [12] (Z8 3 (dL 3 [1,0,0] [gb,b1,b1] (Z7 []) 0 1 fun v2=>Yh 3 3 [] [(39,Z6 [])] (Z8 13 (dc 13 [2] [] [] (Da g gb rs [] x2) ?_)))))
    rintro _ _ ⟨w1,rfl,rfl⟩
    exact Zk 0 2 [14,15] (de (az (Z2 1 (ZG j (Z1 (ZI ⟨j+1,w1,True.intro,rfl,rfl,rfl⟩ (wk [2,0,1] (fr (ZL j fl)))))))))
   exact Zk 0 14 [2,3,4,5,6,7,8,9,10,11,12,13,14,15] (de (az (Z2 1 (ZG j (Z1 (ZI ⟨j+1,false,ob,rfl,rfl,rfl⟩ (ZV 3 (fr (ZL j fl)))))))))
  refine ax 2 (ar (YR wo Iff.rfl (fun ZF=>?_) (fun ZF=>?_)))
  ·exact az (Z2 2 (iL (Z7 [(k:Int)]) 1 1 fun v3=>ZE 0 [(54,Z6 [(k:Int)])] (ip 3 (Z7 (ys++[(k:Int)])) (Z7 ys) (Z7 [(k:Int)]) u none 1 (Yw _) (Yw _) (XT _) (by simp<;>omega) (by simp [XR,Z7]) fun v4=>Z1 (az (Z2 1 (ZG k (Z1 (ZI ⟨k+1,(ys++[(k:Int)]),v4,ob,ob,(Xe Zr om),rfl,rfl,rfl⟩ (wk [2,2,0] (fr (ZL k fl)))))))))))
  exact ak (az (Z2 1 (ZG k (Z1 (ZI ⟨k+1,ys,u,ob,ob,ob,rfl,rfl,rfl⟩ (ZV 3 (fr (ZL k fl))))))))
 exact ax 0 (ar (Zs (r2 [1] [ZQ ys u] ⟨ys,rfl,rfl,⟨by omega,Zr⟩⟩ (Ze.forget _ _))))
theorem S3 (e:Z0) (left:Int) (hz:e.sz<=1000000:=by exact ob) (hl:0<=left/\left<=1000:=by exact ob) (ih:∀(e2:Z0) (left:Int),(e2.sz<e.sz)->(0<=left/\left<=1000)->Zf 275 [ZO e2,.i left] [] (fun r h=>∃(w:Int),r=.i w/\h=[]/\NL e2.sz left w)):Zf 275 [ZO e,.i left] [] (fun r h=>∃(w:Int),r=.i w/\h=[]/\NL e.sz left w):=by
 have hes:=e.sz_eq
 have hel:=HP (xs:=e.kids)
 refine ZD 27 Tryz.func275 (ar (iA (YE e) fun b1=>Z1 (X7 (ZT (left<1) (fun Z9=>?_) (fun Z9=>?_)))))
 ·exact ar (Zs (r1 [] ⟨(-1),rfl,rfl,(.inr ⟨by omega,rfl⟩)⟩))
 refine ak (Yg 1 (ia ((left-1)) ((left)-(1)) (Z1 (Y1 (ab 0 (Y0 (fun fz gz m F h=>∃(k:Nat) (q:Int),(k<=e.kids.length)/\(0<=q/\q+1+Xa (e.kids.take k)=left)/\F=sF [2] fz [(1,.i q),(5,.i k)]/\h=gz/\m=e.kids.length-k) _ _ _ ⟨0,(left-1),ob,(by simp [Xa];omega),rfl,rfl,rfl⟩ (wk [0] (fr (Yd fl))) ?_))))))
 rintro m F h ⟨k,q,Yf,Zi,rfl,rfl,rfl⟩
 refine Y6 3 [0] (iw (EV e.kids) (ZT ((k:Int)<(e.kids.length:Int)) (fun Zg=>?_) (fun Zg=>?_)))
 ·refine ak (aq (ab 1 (Zo 3 [0] ?_)))
  obtain ⟨x1,Z5⟩:=Zq e.kids k om
  have hks:=A4 Z5
  have htk:Xa (e.kids.take (k+1))=Xa (e.kids.take k)+(x1).sz:=by rw [Vh Z5,BH,Xa,Xa];rfl
  have htl:Xa (e.kids.take (k+1))<=Xa e.kids:=by have h:=Ys Xa (Uo (k+1) e.kids);rw [BH] at h;omega
  refine Zm (Zh none (k:Int) 3 (AP Z5)) (Z2 2 (ic [] (ih x1 q ob ob) ?_))
  rintro _ _ ⟨w1,rfl,rfl,ZX⟩
  have hnl:=ZX
  unfold NL at hnl
  refine Z1 (ar (ZT (w1<0) (fun ZF=>?_) (fun ZF=>?_)))
  ·exact ar (Zs (r1 [] ⟨(-1),rfl,rfl,(.inr ⟨by omega,rfl⟩)⟩))
  exact ak (az (Z2 1 (ZG k (Z1 (ZI ⟨k+1,w1,ob,ob,rfl,rfl,rfl⟩ (wk [0] (fr (ZL k fl))))))))
 refine ax 0 (Ya ?_)
 have htk:Xa (e.kids.take k)=Xa e.kids:=by rw [WT om]
 exact ZK (r1 [] ⟨q,rfl,rfl,(.inl ⟨by omega,by omega⟩)⟩)
theorem S2 (e:Z0) (left:Int) (hz:e.sz<=1000000:=by exact ob) (hl:0<=left/\left<=1000:=by exact ob):Zf 275 [ZO e,.i left] [] (fun r h=>∃(w:Int),r=.i w/\h=[]/\NL e.sz left w):=by
 have key:∀k:Nat,∀(e2:Z0) (left:Int),(e2.sz<k)->(e2.sz<=1000000)->(0<=left/\left<=1000)->Zf 275 [ZO e2,.i left] [] (fun r h=>∃(w:Int),r=.i w/\h=[]/\NL e2.sz left w):=by
  intro k
  induction k with
  | zero=>intro e2 left h;omega
  | succ k ih=>intro e2 left h1 h2 h3;exact S3 e2 left h2 h3 fun e3 l3 q1 q2=>ih e3 l3 om om q2
 exact key (e.sz+1) e left om hz hl
theorem Ik (e:Z0) (hz:e.sz<=1000000:=by exact ob):Zf 232 [ZO e] [] (fun r h=>∃(w:Int),r=.i w/\h=[]/\((w=e.sz/\e.sz<=30)∨(w=-1/\30<e.sz))):=by
 refine ZD 10 Tryz.func232 (ar (iA (YE e) fun b1=>Z1 (Zo 1 [0] (ic [] (S2 e 30) ?_))))
 rintro _ _ ⟨w1,rfl,rfl,ZX⟩
 have hnl:=ZX
 unfold NL at hnl
 refine Z1 (X7 (ZT (w1<0) (fun Z9=>?_) (fun Z9=>?_)))
 ·exact ar (Zs (r1 [] ⟨(-1),rfl,rfl,ob⟩))
 exact ak (Yg 1 (ia ((30-w1)) ((30)-(w1)) (Zs (r1 [] ⟨(30-w1),rfl,rfl,ob⟩))))
theorem A8 (rd:Nat) (bs:LI) (p:Nat) (g:XJ) (gb:Nat) (rs:List Func) (vs:LI) (ts:LI) (b:Nat) (bb:Nat) (Zt:∀z∈bs,0<=z/\z<=255) (hp:p+ts.length*bC (b / ts.length)<=1000000000:=by exact ob) (hg:GP g:=by exact ob) (XW:g.funcs <+: rs:=by exact ob) (hv:vs.length+3*bb<=900:=by exact ob) (ht:ts.length<=3:=by exact ob) (hb:b<bb/\bb<=1000:=by exact ob) (ih:∀(rd:Nat) (bs:LI) (p:Nat) (vs2:LI) (t2:Int) (b2:Nat),(∀z∈bs,0<=z/\z<=255)->(p+bC b2<=1000000000)->(vs2.length+3*b2<=900)->(b2<bb)->Zf 270 [.p rd 0,.agg (XX g gb),Z6 vs2,.i t2,.i b2] [Yc rd bs p,Xu gb rs] (fun r h=>∃(e:Z0) (p2:Nat),r=ZO e/\h=[Yc rd bs p2,Xu gb rs]/\GE g vs2.length (bS b2) e/\p<=p2/\p2<=p+bC b2)):Zf 290 [.p rd 0,.agg (XX g gb),Z6 vs,Z6 ts,.i b] [Yc rd bs p,Xu gb rs] (fun r h=>∃(ys:List Z0) (p2:Nat),r=Xb ys/\h=[Yc rd bs p2,Xu gb rs]/\ys.length=ts.length/\(∀e∈ys,GE g vs.length (bS (b / ts.length)) e)/\p<=p2/\p2<=p+ts.length*bC (b / ts.length)):=by
 have hqb:=Nat.div_le_self b ts.length
 refine ZD 36 Tryz.func290 (ar (iA (XX g gb) fun b1=>Z1 (ar (iL (Yb []) 0 3 fun v1=>?_))))
 refine Z1 (Y1 (ab 0 (Y0 (fun fz gz m F h=>∃(k:Nat) (ys:List Z0) (u:Value) (pq:Nat),(k<=ts.length)/\(ys.length=k)/\(∀e∈ys,GE g vs.length (bS (b / ts.length)) e)/\(p<=pq/\pq<=p+k*bC (b / ts.length))/\F=sF [0,2,3,4,6] fz [(11,Tj ys u),(12,.i k)]/\h=[Za gz 1,Yc rd bs pq,Za gz 3,.tail u 3]/\m=ts.length-k) _ _ _ ⟨0,[],v1,p,ob,ob,(fun e he=>by cases he),(by simp),rfl,rfl,rfl⟩ (wk [1,1,1,0] (fr (Yd fl))) ?_)))
 rintro m F h ⟨k,ys,u,pq,Yf,Zi,Zr,YA,rfl,rfl,rfl⟩
 refine X4 2 (iw (Ye ts) (ZT ((k:Int)<(ts.length:Int)) (fun Z9=>?_) (fun Z9=>?_)))
 ·obtain ⟨hm1,hm2⟩:=Lk (k:=k) (L:=ts.length) (C:=bC (b / ts.length)) om
  refine ak (aq (ab 1 (aE 16 (ZH 10 16 [0,1,2,3,4,5] [0] ?_))))
  obtain ⟨x1,Z5⟩:=Zq ts k om
  refine dx 6 (Zh none (k:Int) 1 (ZZ Z5)) (Zk 6 9 [7,8,9] (dw 10 (Ye ts) (dx 11 (Af b ts.length om om) (Z8 12 (dc 12 [1,1] [] [] (ih rd bs pq vs x1 (b / ts.length) ob ob ob ob) ?_)))))
  rintro _ _ ⟨e1,p21,rfl,rfl,ZX⟩
  have X2:=ZX.1
  exact Z8 13 (W5 13 [] [] [ZO e1] (Yb [e1]) (Xt [e1]).symm 1 3 fun v2=>Yh 2 2 [] [(33,Xb [e1])] (Z8 14 (dp 14 4 [] [] (Yb (ys++[e1])) (Yb ys) (Yb [e1]) u none 3 (U2 _) (U2 _) (QZ _) (by simp<;>omega) (by simp [QY,Yb]) fun v3=>Zk 0 1 [15] (de (az (Z2 1 (ZG k (Z1 (ZI ⟨k+1,(ys++[e1]),v3,p21,ob,ob,(Xe Zr (by assumption)),om,rfl,rfl,rfl⟩ (wk [4,2,2,0] (fr (ZL k fl))))))))))))
 have hke:k=ts.length:=by omega
 subst hke
 exact ax 0 (ar (Zs (r2 [1,1] [Tj ys u] ⟨ys,pq,rfl,rfl,⟨by omega,Zr,by omega⟩⟩ (Ze.forget _ _))))
theorem RD (rd:Nat) (bs:LI) (p:Nat) (g:XJ) (gb:Nat) (rs:List Func) (vs:LI) (t:Int) (b:Nat) (Zt:∀z∈bs,0<=z/\z<=255) (hp:p+(bC b-1)<=1000000000:=by exact ob) (hg:GP g:=by exact ob) (XW:g.funcs <+: rs:=by exact ob) (hv:vs.length+3*b<=900:=by exact ob) (hb:3<=b:=by exact ob) (ih:∀(rd:Nat) (bs:LI) (p:Nat) (vs2:LI) (t2:Int) (b2:Nat),(∀z∈bs,0<=z/\z<=255)->(p+bC b2<=1000000000)->(vs2.length+3*b2<=900)->(b2<b)->Zf 270 [.p rd 0,.agg (XX g gb),Z6 vs2,.i t2,.i b2] [Yc rd bs p,Xu gb rs] (fun r h=>∃(e:Z0) (p2:Nat),r=ZO e/\h=[Yc rd bs p2,Xu gb rs]/\GE g vs2.length (bS b2) e/\p<=p2/\p2<=p+bC b2)):Zf 291 [.p rd 0,.agg (XX g gb),Z6 vs,.i t,.i b] [Yc rd bs p,Xu gb rs] (fun r h=>∃(e:Z0) (p2:Nat),r=ZO e/\h=[Yc rd bs p2,Xu gb rs]/\GE g vs.length (bS b) e/\p<=p2/\p2<=p+(bC b-1)):=by
 have XD:=hg.decls.ok
 have hgl:=hg.len
 have hdl:=hg.decls.len
 have hcm:=Hc b
 refine ZD 69 Tryz.func291 (ar (iA (XX g gb) fun b1=>iA [.i 0,.i 0,nl] fun b2=>ie (Yg 1 (iL (Z7 [1,1,3,4]) 4 1 fun v1=>ZE 0 [(16,Z6 [1,1,3,4])] (ic [3] (WW rd bs p [1,1,3,4] (Zt:=ob)) ?_)))))
 rintro _ _ ⟨z1,rfl,rfl,ZX⟩
 have hz:=Jz (a:=1) (b:=4) ZX (by decide)
 refine Z1 (Y6 3 [3] (iw (Tw g.decls) (XM [0,2,3,4,6,10,11] [(28,.b ((decide (z1>(g.decls.length:Int)))||WX g.decls z1))] (fun gz=>gz) ?_ ?_)))
 ·refine Z2 2 (ib (b:=(decide (z1>(g.decls.length:Int)))) 23 (fun Zb=>?_) (fun Zb=>?_))
  ·exact Z1 (ZV 5 (ZM true Zb fl))
  exact ZU 3 [3] (Zu [] (Cj g.decls z1) (Z1 (ZV 5 (ZM (WX g.decls z1) Zb fl))))
 refine XC (fun fz gz F h=>∃(d:Int),(1<=d/\d<=4)/\F=sF [0,2,3,4,6,10] fz [(11,.i d)]/\h=[Za gz 0,Za gz 2,Za gz 3,Za gz 4]) ?_ ?_
 ·refine ac ((decide (z1>(g.decls.length:Int)))||WX g.decls z1) (p:=(z1>(g.decls.length:Int))∨(WX g.decls z1=true)) (Xo dq Iff.rfl) (fun Z9=>?_) (fun Z9=>?_)
  ·exact UM (ZJ ⟨1,om,rfl,rfl⟩ (wk [0,1,1,1] fl))
  exact ak (ZJ ⟨z1,om,rfl,rfl⟩ (wk [0,1,1,1] fl))
 rintro F h ⟨d,Qj,rfl,rfl⟩
 have hcl:=Lq XD d
 have hmc:=Z14 (L:=(Y2 g.decls d).length) (q:=((b-2) / (Y2 g.decls d).length)) (b:=b) om hb (UL _ _)
 have hqb:=Nat.div_le_self (b-2) (Y2 g.decls d).length
 refine Zo 3 [2] (ic [] (Kb g.decls d) ?_)
 rintro _ _ ⟨v2,rfl,rfl⟩
 refine Z1 (Zo 4 [3] (ic [1,3] (AY rd bs (p+1) g gb rs vs d (Zt:=ob)) ?_))
 rintro _ _ ⟨e1,p21,rfl,rfl,YX⟩
 have hle:=YX.1
 refine VF [ZO e1] (Yb [e1]) (Xt [e1]).symm 1 3 fun v3=>?_
 refine Z1 (Y1 (ab 0 (Y0 (fun fz gz m F h=>∃(k:Nat) (ys:List Z0) (u:Value) (pq:Nat),(k<=(Y2 g.decls d).length)/\(ys.length=k)/\(Tx g.decls g.funcs.length (UG g.decls 8 d vs.length) 1 ys)/\(∀e∈ys,e.sz<=bS ((b-2) / (Y2 g.decls d).length))/\(p<=pq/\pq<=p+31+k*bC ((b-2) / (Y2 g.decls d).length))/\F=sF [0,2,3,4,6,10,11] fz [(12,Z6 (Y2 g.decls d)),(13,Tj (e1::ys) u),(14,.i k)]/\h=[Yc rd bs pq,Za gz 2,Za gz 4,Za gz 5,.tail u 3]/\m=(Y2 g.decls d).length-k) _ _ _ ⟨0,[],v3,p21,ob,rfl,True.intro,(fun e he=>by cases he),(by simp only [Nat.zero_mul];omega),rfl,rfl,rfl⟩ (wk [1,1,2,2,0] (fc (x:=ZQ (Y2 g.decls d) v2) (Ze.forget _ _) (fc (x:=Tj [e1] v3) (Ze.slh _ (Ys Yb rfl)) (Yd fl)))) ?_)))
 rintro m F h ⟨k,ys,u,pq,Yf,Zi,Zr,YA,XZ,rfl,rfl,rfl⟩
 refine X4 2 (io (.i (((Y2 g.decls d).length:Nat):Int)) (.i (((Z7 (Y2 g.decls d)).length:Nat):Int)) (li (by rw [Ye])) (ZT ((k:Int)<(((Y2 g.decls d).length:Nat):Int)) (fun Zg=>?_) (fun Zg=>?_)))
 ·refine ak (aq (ab 1 (aE 22 (ZH 14 22 [0,1,2,3,4,5,6,7] [3,3] ?_))))
  obtain ⟨x1,Z5⟩:=Zq (Y2 g.decls d) k om
  have hcf:=VD XD x1
  have harm:=Bi (m:=vs.length) Z5
  obtain ⟨hm1,hm2⟩:=Lk (k:=k) (L:=(Y2 g.decls d).length) (C:=bC ((b-2) / (Y2 g.decls d).length)) om
  refine dx 8 (Zh none (k:Int) 1 (ZZ Z5)) (Zk 10 13 [9,12,13] (da 14 (((b-2:Nat):Int)) (((b:Int))-(2)) (Zk 8 9 [15] (dn 16 (.i (((Y2 g.decls d).length:Nat):Int)) (.i (((Z7 (Y2 g.decls d)).length:Nat):Int)) (li (by rw [Ye])) (dx 17 (Af (b-2) ((Y2 g.decls d).length) om om) (Z8 10 (Yp 10 [] [3] [b1] (Q0 g.decls x1) (Z8 11 (dc 11 [] [3] [b1] (TI vs (Y4 g.decls x1)) ?_)))))))))
  rintro _ _ ⟨v4,rfl,rfl⟩
  refine Yh 4 4 [] [(56,Z6 (vs++(Y4 g.decls x1)))] (Z8 18 (dc 18 [1,1] [] [] (ih rd bs pq (vs++(Y4 g.decls x1)) t ((b-2) / ((Y2 g.decls d).length)) ob ob (by simp only [Yk];omega) ob) ?_))
  rintro _ _ ⟨e2,p22,rfl,rfl,X9⟩
  have X2:=X9.1
  exact Z8 19 (W5 19 [] [] [ZO e2] (Yb [e2]) (Xt [e2]).symm 1 3 fun v5=>Yh 2 2 [] [(64,Xb [e2])] (Z8 20 (dp 20 6 [] [] (Yb ((e1::ys)++[e2])) (Yb (e1::ys)) (Yb [e2]) u none 3 (U2 _) (U2 _) (QZ _) (by simp<;>omega) (by simp [QY,Yb]) fun v6=>Zk 0 1 [21] (de (az (Z2 1 (ZG k (Z1 (ZI ⟨k+1,(ys++[e2]),v6,p22,ob,ob,(HL.2 ⟨Zr,by rw [Zi,harm,<-Yk];exact X2.1,True.intro⟩),(Xe YA X2.2),om,rfl,rfl,rfl⟩ (wk [2,2,3,3,0] (fr (fc (x:=Tj ((e1::ys)++[e2]) v6) (Ze.slh _ (Ys Yb rfl)) (ZL k fl)))))))))))))
 refine ax 0 (ar (ZE 2 [(67,Xb (e1::ys))] (Zu [] (Xw 8 d (e1::ys)) (ZA 2 b2 (YE (Z0.mk 8 d (e1::ys))) (ie ?_)))))
 have hke:k=(Y2 g.decls d).length:=by omega
 subst hke
 exact ZK (r3 [1,1] [ZO (Z0.mk 8 d (e1::ys))] [0] [(b2,b2)] ⟨(Z0.mk 8 d (e1::ys)),pq,rfl,rfl,⟨GE.match_ om hle Zr YA Zi rfl om (Z15 om hb (UL _ _)),by omega⟩⟩ (lr _))
theorem Ie (rd:Nat) (bs:LI) (p:Nat) (g:XJ) (gb:Nat) (rs:List Func) (vs:LI) (t:Int) (b:Nat) (Zt:∀z∈bs,0<=z/\z<=255) (hp:p+(bC b-1)<=1000000000:=by exact ob) (hg:GP g:=by exact ob) (XW:g.funcs <+: rs:=by exact ob) (hv:vs.length+3*b<=900:=by exact ob) (hb:3<=b:=by exact ob) (ih:∀(rd:Nat) (bs:LI) (p:Nat) (vs2:LI) (t2:Int) (b2:Nat),(∀z∈bs,0<=z/\z<=255)->(p+bC b2<=1000000000)->(vs2.length+3*b2<=900)->(b2<b)->Zf 270 [.p rd 0,.agg (XX g gb),Z6 vs2,.i t2,.i b2] [Yc rd bs p,Xu gb rs] (fun r h=>∃(e:Z0) (p2:Nat),r=ZO e/\h=[Yc rd bs p2,Xu gb rs]/\GE g vs2.length (bS b2) e/\p<=p2/\p2<=p+bC b2)):Zf 293 [.p rd 0,.agg (XX g gb),Z6 vs,.i t,.i b] [Yc rd bs p,Xu gb rs] (fun r h=>∃(e:Z0) (p2:Nat),r=ZO e/\h=[Yc rd bs p2,Xu gb rs]/\GE g vs.length (bS b) e/\p<=p2/\p2<=p+(bC b-1)):=by
 have XD:=hg.decls.ok
 have hgl:=hg.len
 have hdl:=hg.decls.len
 have hac:=O7 hb
 have has:=O8 hb
 refine ZD 120 Tryz.func293 (ar (iA (XX g gb) fun b1=>iA [.i 0,.i 0,nl] fun b2=>ie (X4 1 (ic [2] (XN rd bs p 4 (Zt:=ob)) ?_))))
 rintro _ _ ⟨k1,rfl,rfl,ZX⟩
 have qhp1:=ZX.lt om
 refine Z1 (XC (fun fz gz F h=>∃(p5:Nat),(p<=p5/\p5<=p+1)/\F=sF [0,2,3,4,6,10] fz []/\h=[Yc rd bs p5,Za gz 1,Za gz 2,Za gz 3]) ?_ ?_)
 ·refine ac (k1==0) Zz (fun Z9=>?_) (fun Z9=>?_)
  ·refine Ya (ab 0 (Y0 (fun fz gz m F h=>∃(a:Nat),(1<=a/\a<=g.decls.length+1)/\F=sF [0,2,3,4,6,10] fz [(11,.i a)]/\h=gz/\m=g.decls.length+1-a) _ _ _ ⟨1,ob,rfl,rfl,rfl⟩ (ZV 4 (fc (x:=.i 1) li fl)) ?_))
   rintro m F h ⟨a,Yf,rfl,rfl,rfl⟩
   refine Y6 3 [2] (iw (Tw g.decls) (ZT ((a:Int)<=(g.decls.length:Int)) (fun Zg=>?_) (fun Zg=>?_)))
   ·refine ak (aq (ab 1 (aq (XC (fun fz gz F h=>∃(wb:Bool),(True)/\F=sF [0,2,3,4,6,10,11] fz [(44,.b wb)]/\h=gz) ?_ ?_))))
    ·refine az (ZU 3 [2] (Zu [] (Cj g.decls (a:Int)) (Z2 1 (ib (b:=WX g.decls (a:Int)) 28 (fun Zb=>?_) (fun Zb=>?_)))))
     ·refine ZU 3 [2] (ia (((a-1:Nat):Int)) (((a:Int))-(1)) ?_)
      obtain ⟨x1,Z5⟩:=Zq g.decls (a-1) om
      refine Zm (Zh none ((a-1:Nat):Int) 3 (U1 Z5)) (Z2 6 (ib (b:=(x1.to_==t)) 39 (fun ZP=>?_) (fun ZP=>?_)))
      ·refine ZU 3 [2] (ic [3] (Da g gb rs vs (a:Int)) ?_)
       rintro _ _ ⟨w1,rfl,rfl⟩
       exact Z1 (ZJ ⟨w1,True.intro,rfl,rfl⟩ (wk [1,1,1,0] fl))
      exact Z1 (ZJ ⟨false,True.intro,rfl,rfl⟩ (ZV 4 fl))
     exact Z1 (ZJ ⟨false,True.intro,rfl,rfl⟩ (ZV 4 fl))
    rintro F h ⟨wb,kR5_0,rfl,rfl⟩
    refine ac wb Iff.rfl (fun ZF=>?_) (fun ZF=>?_)
    ·refine aD 21 (ZH 11 21 [0,1,2,3,5,6,7,8,9,10] [2,2,2] (da 11 (((a-1:Nat):Int)) (((a:Int))-(1)) ?_))
     obtain ⟨x2,Zv⟩:=Zq g.decls (a-1) om
     refine dx 12 (Zh none ((a-1:Nat):Int) 3 (U1 Zv)) (Zk 6 9 [13,14,15] (da 16 (((b-2:Nat):Int)) (((b:Int))-(2)) (Z8 4 (dc 4 [0,2] [1,1] [b1,b1] (AY rd bs (p+1) g gb rs vs (a:Int) (Zt:=ob)) ?_))))
     rintro _ _ ⟨e1,p21,rfl,rfl,XV⟩
     have hle:=XV.1
     refine Z8 17 (dc 17 [0,0] [] [] (ih rd bs p21 vs x2.frm (b-2) ob ob ob ob) ?_)
     rintro _ _ ⟨e2,p22,rfl,rfl,Wu⟩
     have X2:=Wu.1
     exact Z8 18 (W5 18 [] [] [ZO e1,ZO e2] (Yb [e1,e2]) (Xt [e1,e2]).symm 2 3 fun v1=>Yh 2 2 [] [(63,Xb [e1,e2])] (Z8 19 (Yp 19 [] [] [] (Xw 11 0 [e1,e2]) (Z8 20 (Yy 20 3 [] [] b2 (YE (Z0.mk 11 0 [e1,e2])) (de (ZK (r3 [2,2] [ZO (Z0.mk 11 0 [e1,e2])] [0] [(b2,b2)] ⟨(Z0.mk 11 0 [e1,e2]),p22,rfl,rfl,⟨GE.two om om hle X2 om,by omega⟩⟩ (lr _)))))))))
    exact ak (az (Z2 1 (ZG a (Z1 (ZI ⟨a+1,ob,rfl,rfl,rfl⟩ (ZV 4 (ZL a fl)))))))
   exact ax 0 (ZJ ⟨p+1,ob,rfl,rfl⟩ (ZV 4 fl))
  exact ak (ZJ ⟨p+1,ob,rfl,rfl⟩ (ZV 4 fl))
 rintro F h ⟨p5,Qj,rfl,rfl⟩
 refine Zo 3 [2] (ic [] (Kb g.decls t) ?_)
 rintro _ _ ⟨v2,rfl,rfl⟩
 refine Z1 (X4 1 (io (.i (((Y2 g.decls t).length:Nat):Int)) (.i (((Z7 (Y2 g.decls t)).length:Nat):Int)) (li (by rw [Ye])) (ZT ((((Y2 g.decls t).length:Nat):Int)>0) (fun Yq=>?_) (fun Yq=>?_))))
 ·refine Yg 3 (io (.i (((Y2 g.decls t).length:Nat):Int)) (.i (((Z7 (Y2 g.decls t)).length:Nat):Int)) (li (by rw [Ye])) (ic [1] (XN rd bs p5 (((Y2 g.decls t).length:Nat):Int) (Zt:=ob)) ?_))
  rintro _ _ ⟨k2,rfl,rfl,V5⟩
  have qhp8:=V5.lt om
  obtain ⟨x3,X3⟩:=Zq (Y2 g.decls t) k2.toNat om
  have hcc:=hg.decls.cons_cases (ZW X3)
  refine Zm (Zh (some v2) k2 1 (ZZ X3)) (Z1 (aD 13 (ZH 5 13 [0,1,2,3,4,5,6,8] [3,3] (da 9 (((b-1:Nat):Int)) (((b:Int))-(1)) (Z8 7 (Yp 7 [] [2] [b1] (Q0 g.decls x3) (Z8 10 (dc 10 [0,3] [] [] (A8 rd bs (p5+1) g gb rs vs (Y4 g.decls x3) (b-1) b (Zt:=ob) (hp:=(Aj (p:=p) (by first|omega|simp) hb om om)) (ht:=(by first|omega|simp)) (hb:=om) (ih:=ih)) ?_))))))))
  rintro _ _ ⟨ys1,p23,rfl,rfl,Vm⟩
  have hga1:=Vm.1
  have hga2:=Vm.2.1
  have hga3:=Vm.2.2
  have hnc:=KW (b:=b) (show (ys1).length<=3 by rw [hga1];first|omega|simp) hb (UL _ (b-1))
  rw [hga1] at hnc
  exact Z8 11 (Yp 11 [] [] [] (Xw 6 x3 ys1) (Z8 12 (Yy 12 3 [] [] b2 (YE (Z0.mk 6 x3 ys1)) (de (ZK (r3 [1,1] [ZO (Z0.mk 6 x3 ys1)] [0] [(b2,b2)] ⟨(Z0.mk 6 x3 ys1),p23,rfl,rfl,⟨GE.node om (fun h=>by omega) om hga2 hga1 (by first|omega|simp) (C4 (by first|omega|simp) hb (UL _ _)),by omega⟩⟩ (lr _)))))))
 refine ak (X7 (ZT (t>0) (fun XH=>?_) (fun XH=>?_)))
 ·refine Zo 4 [3] (ic [1,3] (AY rd bs p5 g gb rs vs t (Zt:=ob)) ?_)
  rintro _ _ ⟨e3,p24,rfl,rfl,US⟩
  have hle:=US.1
  exact ZA 3 b2 (YE e3) (ie (ZK (r3 [1,1] [ZO e3] [0] [(b2,b2)] ⟨e3,p24,rfl,rfl,⟨hle.le (He b),by omega⟩⟩ (lr _))))
 refine ak (X4 1 (ic [1] (XN rd bs p5 3 (Zt:=ob)) ?_))
 rintro _ _ ⟨k3,rfl,rfl,UT⟩
 have qhp11:=UT.lt om
 refine YR (k3==0) Zz (fun XI=>?_) (fun XI=>?_)
 ·refine Zo 3 [3] (iL (Z7 [0]) 1 1 fun v3=>Z2 1 (ia (((b-1:Nat):Int)) (((b:Int))-(1)) (ZE 0 [(104,Z6 [0])] (ic [1,4] (A8 rd bs (p5+1) g gb rs vs [0] (b-1) b (Zt:=ob) (hp:=(Aj (p:=p) (by first|omega|simp) hb om om)) (ht:=(by first|omega|simp)) (hb:=om) (ih:=ih)) ?_))))
  rintro _ _ ⟨ys2,p25,rfl,rfl,UU⟩
  have hga1:=UU.1
  have hga2:=UU.2.1
  have hga3:=UU.2.2
  have hnc:=KW (b:=b) (show (ys2).length<=3 by rw [hga1];first|omega|simp) hb (UL _ (b-1))
  rw [hga1] at hnc
  exact Zu [] (Xw 5 0 ys2) (ZA 4 b2 (YE (Z0.mk 5 0 ys2)) (ie (ZK (r3 [1,1] [ZO (Z0.mk 5 0 ys2)] [0] [(b2,b2)] ⟨(Z0.mk 5 0 ys2),p25,rfl,rfl,⟨GE.node om (fun h=>by omega) om hga2 hga1 (by first|omega|simp) (C4 (by first|omega|simp) hb (UL _ _)),by omega⟩⟩ (lr _)))))
 refine ak (aD 12 (ZH 7 12 [0,3,4,5,7] [3] (da 8 (((b-1:Nat):Int)) (((b:Int))-(1)) (Ky (fun fz gz F h=>∃(z1:Int) (ys3:List Z0) (p26:Nat),(z1∈[1,2,3,4])/\(ys3.length=[0,0].length/\(∀e∈ys3,GE g vs.length (bS ((b-1) / [0,0].length)) e)/\((p5+1)+1)<=p26/\p26<=((p5+1)+1)+[0,0].length*bC ((b-1) / [0,0].length))/\F=sF [10] fz []/\h=[.obj b2 (YE (Z0.mk z1 0 ys3)),Yc rd bs p26,Za gz 4,Za gz 1,Za gz 3]) ?_ ?_))))
 ·refine WU 1 6 ?_ ?_
  ·refine dL 1 [2] [b1] (Z7 [1,2,3,4]) 4 1 fun v4=>Yh 5 5 [] [(110,Z6 [1,2,3,4])] (WU 2 6 ?_ ?_)
   ·refine dc 2 [1] [1] [b1] (WW rd bs (p5+1) [1,2,3,4] (Zt:=ob)) ?_
    rintro _ _ ⟨z1,rfl,rfl,QA⟩
    have hz:=Jz (a:=1) (b:=4) QA (by decide)
    refine Z8 6 (dL 6 [2] [b1] (Z7 [0,0]) 2 1 fun v5=>Yh 3 3 [] [(115,Z6 [0,0])] (Z8 9 (dc 9 [1,5] [] [] (A8 rd bs ((p5+1)+1) g gb rs vs [0,0] (b-1) b (Zt:=ob) (hp:=(Aj (p:=p) (by first|omega|simp) hb om om)) (ht:=(by first|omega|simp)) (hb:=om) (ih:=ih)) ?_)))
    rintro _ _ ⟨ys3,p26,rfl,rfl,Qi⟩
    have hga1:=Qi.1
    have hga2:=Qi.2.1
    have hga3:=Qi.2.2
    have hnc:=KW (b:=b) (show (ys3).length<=3 by rw [hga1];first|omega|simp) hb (UL _ (b-1))
    rw [hga1] at hnc
    exact Z8 10 (Yp 10 [] [] [] (Xw z1 0 ys3) (Z8 11 (Yy 11 5 [] [] b2 (YE (Z0.mk z1 0 ys3)) (de (ZJ ⟨z1,ys3,p26,(by assumption),(by assumption),rfl,rfl⟩ (wk [0,0,0,2,2] fl))))))
   refine dL 6 [2] [b1] (Z7 [0,0]) 2 1 fun v6=>Z8 2 (dc 2 [2] [1] [b1] (WW rd bs (p5+1) [1,2,3,4] (Zt:=ob)) ?_)
   rintro _ _ ⟨z2,rfl,rfl,Js⟩
   have hz:=Jz (a:=1) (b:=4) Js (by decide)
   refine Yh 3 3 [] [(115,Z6 [0,0])] (Z8 9 (dc 9 [0,5] [] [] (A8 rd bs ((p5+1)+1) g gb rs vs [0,0] (b-1) b (Zt:=ob) (hp:=(Aj (p:=p) (by first|omega|simp) hb om om)) (ht:=(by first|omega|simp)) (hb:=om) (ih:=ih)) ?_))
   rintro _ _ ⟨ys4,p27,rfl,rfl,KR⟩
   have hga1:=KR.1
   have hga2:=KR.2.1
   have hga3:=KR.2.2
   have hnc:=KW (b:=b) (show (ys4).length<=3 by rw [hga1];first|omega|simp) hb (UL _ (b-1))
   rw [hga1] at hnc
   exact Z8 10 (Yp 10 [] [] [] (Xw z2 0 ys4) (Z8 11 (Yy 11 5 [] [] b2 (YE (Z0.mk z2 0 ys4)) (de (ZJ ⟨z2,ys4,p27,(by assumption),(by assumption),rfl,rfl⟩ (wk [0,0,0,2,2] fl))))))
  refine dL 6 [2] [b1] (Z7 [0,0]) 2 1 fun v7=>Z8 1 (dL 1 [2] [b1] (Z7 [1,2,3,4]) 4 1 fun v8=>Yh 4 4 [] [(110,Z6 [1,2,3,4])] (Z8 2 (dc 2 [2] [1] [b1] (WW rd bs (p5+1) [1,2,3,4] (Zt:=ob)) ?_)))
  rintro _ _ ⟨z3,rfl,rfl,De⟩
  have hz:=Jz (a:=1) (b:=4) De (by decide)
  refine Yh 3 3 [] [(115,Z6 [0,0])] (Z8 9 (dc 9 [0,5] [] [] (A8 rd bs ((p5+1)+1) g gb rs vs [0,0] (b-1) b (Zt:=ob) (hp:=(Aj (p:=p) (by first|omega|simp) hb om om)) (ht:=(by first|omega|simp)) (hb:=om) (ih:=ih)) ?_))
  rintro _ _ ⟨ys5,p28,rfl,rfl,Ad⟩
  have hga1:=Ad.1
  have hga2:=Ad.2.1
  have hga3:=Ad.2.2
  have hnc:=KW (b:=b) (show (ys5).length<=3 by rw [hga1];first|omega|simp) hb (UL _ (b-1))
  rw [hga1] at hnc
  exact Z8 10 (Yp 10 [] [] [] (Xw z3 0 ys5) (Z8 11 (Yy 11 5 [] [] b2 (YE (Z0.mk z3 0 ys5)) (de (ZJ ⟨z3,ys5,p28,(by assumption),(by assumption),rfl,rfl⟩ (wk [0,0,0,2,2] fl))))))
 rintro F h ⟨z1,ys3,p26,QA,Qi,rfl,rfl⟩
 have hz:=Jz (a:=1) (b:=4) QA (by decide)
 have hga1:=Qi.1
 have hga2:=Qi.2.1
 have hga3:=Qi.2.2
 have hnc:=KW (b:=b) (show (ys3).length<=3 by rw [hga1];first|omega|simp) hb (UL _ (b-1))
 rw [hga1] at hnc
 exact ZK (r3 [1,1] [ZO (Z0.mk z1 0 ys3)] [0] [(b2,b2)] ⟨(Z0.mk z1 0 ys3),p26,rfl,rfl,⟨GE.node om (fun h=>by omega) om hga2 hga1 (by first|omega|simp) (C4 (by first|omega|simp) hb (UL _ _)),by omega⟩⟩ (lr _))
theorem RE (rd:Nat) (bs:LI) (p:Nat) (g:XJ) (gb:Nat) (rs:List Func) (vs:LI) (t:Int) (b:Nat) (Zt:∀z∈bs,0<=z/\z<=255) (hp:p+bC b<=1000000000) (hg:GP g) (XW:g.funcs <+: rs) (hv:vs.length+3*b<=900) (ih:∀(rd:Nat) (bs:LI) (p:Nat) (vs2:LI) (t2:Int) (b2:Nat),(∀z∈bs,0<=z/\z<=255)->(p+bC b2<=1000000000)->(vs2.length+3*b2<=900)->(b2<b)->Zf 270 [.p rd 0,.agg (XX g gb),Z6 vs2,.i t2,.i b2] [Yc rd bs p,Xu gb rs] (fun r h=>∃(e:Z0) (p2:Nat),r=ZO e/\h=[Yc rd bs p2,Xu gb rs]/\GE g vs2.length (bS b2) e/\p<=p2/\p2<=p+bC b2)):Zf 270 [.p rd 0,.agg (XX g gb),Z6 vs,.i t,.i b] [Yc rd bs p,Xu gb rs] (fun r h=>∃(e:Z0) (p2:Nat),r=ZO e/\h=[Yc rd bs p2,Xu gb rs]/\GE g vs.length (bS b) e/\p<=p2/\p2<=p+bC b):=by
 have XD:=hg.decls.ok
 have hgl:=hg.len
 have hdl:=hg.decls.len
 have hbm:=He b
 have hcm:=Hc b
 refine ZD 114 Tryz.func270 (ar (iA (XX g gb) fun b1=>iA [.i 0,.i 0,nl] fun b2=>ie (X7 (ZT ((b:Int)<3) (fun Z9=>?_) (fun Z9=>?_)))))
 ·refine Zo 4 [1] (ic [2,2] (AY rd bs p g gb rs vs t (Zt:=ob)) ?_)
  rintro _ _ ⟨e1,p21,rfl,rfl,ZX⟩
  have hle:=ZX.1
  exact ZA 2 b2 (YE e1) (ie (ZK (r3 [1,1] [ZO e1] [0] [(b2,b2)] ⟨e1,p21,rfl,rfl,⟨hle.le hbm,by omega⟩⟩ (lr _))))
 have hb:3<=b:=by omega
 have hlc:=Z10 hb
 have hls:=Z11 hb
 refine ak (X4 1 (ic [2] (XN rd bs p 12 (Zt:=ob)) ?_))
 rintro _ _ ⟨k1,rfl,rfl,Y9⟩
 have qhp2:=Y9.lt om
 refine ie (ab 0 (ar (YR (k1==0) Zz (fun Zg=>?_) (fun Zg=>?_))))
 ·refine Zo 4 [2] (ic [0,2] (AY rd bs (p+1) g gb rs vs t (Zt:=ob)) ?_)
  rintro _ _ ⟨e2,p22,rfl,rfl,YL⟩
  have hle:=YL.1
  exact ZA 2 b2 (YE e2) (ie (ZK (r3 [1,1] [ZO e2] [0] [(b2,b2)] ⟨e2,p22,rfl,rfl,⟨hle.le hbm,by omega⟩⟩ (lr _))))
 refine Y1 (XC (fun fz gz F h=>F=sF [0,2,3,4,6,10,22] fz [(30,.b ((k1==1)||(k1==2)))]/\h=gz) ?_ ?_)
 ·refine ac (k1==1) Zz (fun ZF=>?_) (fun ZF=>?_)
  ·exact ak (ZJ ⟨rfl,rfl⟩ (ZV 4 (fc (x:=.b (k1==1)) (lb (by first|rfl|(rw [Zw ZF])|(rw [Zp ZF])|(simp [ZF];done)|(rw [Xc];simp [ZF];done)|omega)) fl)))
  exact UM (ZJ ⟨rfl,rfl⟩ (ZV 4 (fc (x:=.b (k1==2)) (lb (by first|rfl|(rw [Zw ZF])|(rw [Zp ZF])|(simp [ZF];done)|(rw [Xc];simp [ZF];done)|omega)) fl)))
 rintro F h ⟨rfl,rfl⟩
 refine ac ((k1==1)||(k1==2)) (p:=(k1=1)∨(k1=2)) (Xo Zz Zz) (fun Yq=>?_) (fun Yq=>?_)
 ·refine Zo 3 [2] (ic [0,2] (Rh rd bs (p+1) g gb rs vs (Zt:=ob)) ?_)
  rintro _ _ ⟨z1,rfl,rfl,YX⟩
  refine Z1 (aD 20 (ZH 15 20 [0,1,2,3,4] [3] (dx 5 (Af b 2 om om) (ZH 8 14 [7,8,9,10,13,14] [3] (dx 15 (Af b 2 om om) (Ky (fun fz gz F h=>∃(e3:Z0) (e4:Z0) (p24:Nat) (p23:Nat),(GE g vs.length (bS (b / 2)) e3/\((p+1)+1)<=p23/\p23<=((p+1)+1)+bC (b / 2))/\(GE g (vs++[z1]).length (bS (b / 2)) e4/\p23<=p24/\p24<=p23+bC (b / 2))/\F=sF [10] fz []/\h=[.obj b2 (YE (Z0.mk 13 0 [e3,e4])),Yc rd bs p24,Za gz 1,Za gz 3]) ?_ ?_))))))
  ·refine WU 6 11 ?_ ?_
   ·refine dc 6 [0,0] [1] [b1] (ih rd bs ((p+1)+1) vs z1 (b / 2) ob ob (by first|omega|(simp only [Yk,YD,X8];omega)) ob) ?_
    rintro _ _ ⟨e3,p23,rfl,rfl,X9⟩
    have hgehp5:=X9.1
    refine Z8 11 (dL 11 [3] [b1] (Z7 [z1]) 1 1 fun v1=>Yh 5 5 [] [(48,Z6 [z1])] (Z8 12 (dc 12 [] [3] [b1] (TI vs [z1]) ?_)))
    rintro _ _ ⟨v2,rfl,rfl⟩
    refine Yh 4 4 [] [(49,Z6 (vs++[z1]))] (Z8 16 (dc 16 [2,2] [] [] (ih rd bs p23 (vs++[z1]) t (b / 2) ob ob (by first|omega|(simp only [Yk,YD,X8];omega)) ob) ?_))
    rintro _ _ ⟨e4,p24,rfl,rfl,XV⟩
    have hgehp6:=XV.1
    exact Z8 17 (W5 17 [] [] [ZO e3,ZO e4] (Yb [e3,e4]) (Xt [e3,e4]).symm 2 3 fun v3=>Yh 2 2 [] [(54,Xb [e3,e4])] (Z8 18 (Yp 18 [] [] [] (Xw 13 0 [e3,e4]) (Z8 19 (Yy 19 5 [] [] b2 (YE (Z0.mk 13 0 [e3,e4])) (de (ZJ ⟨e3,e4,p24,_,(by assumption),(by assumption),rfl,rfl⟩ (wk [0,1,1,3] fl))))))))
   refine dL 11 [3,3] [b1,b1] (Z7 [z1]) 1 1 fun v4=>Z8 6 (dc 6 [1,1] [1] [b1] (ih rd bs ((p+1)+1) vs z1 (b / 2) ob ob (by first|omega|(simp only [Yk,YD,X8];omega)) ob) ?_)
   rintro _ _ ⟨e5,p25,rfl,rfl,Wu⟩
   have hgehp7:=Wu.1
   refine Yh 5 5 [] [(48,Z6 [z1])] (Z8 12 (dc 12 [] [3] [b1] (TI vs [z1]) ?_))
   rintro _ _ ⟨v5,rfl,rfl⟩
   refine Yh 4 4 [] [(49,Z6 (vs++[z1]))] (Z8 16 (dc 16 [1,1] [] [] (ih rd bs p25 (vs++[z1]) t (b / 2) ob ob (by first|omega|(simp only [Yk,YD,X8];omega)) ob) ?_))
   rintro _ _ ⟨e6,p26,rfl,rfl,V5⟩
   have hgehp8:=V5.1
   exact Z8 17 (W5 17 [] [] [ZO e5,ZO e6] (Yb [e5,e6]) (Xt [e5,e6]).symm 2 3 fun v6=>Yh 2 2 [] [(54,Xb [e5,e6])] (Z8 18 (Yp 18 [] [] [] (Xw 13 0 [e5,e6]) (Z8 19 (Yy 19 5 [] [] b2 (YE (Z0.mk 13 0 [e5,e6])) (de (ZJ ⟨e5,e6,p26,_,(by assumption),(by assumption),rfl,rfl⟩ (wk [0,1,1,3] fl))))))))
  rintro F h ⟨e3,e4,p24,p23,X9,XV,rfl,rfl⟩
  have hgehp5:=X9.1
  have hgehp6:=XV.1
  exact ZK (r3 [1,1] [ZO (Z0.mk 13 0 [e3,e4])] [0] [(b2,b2)] ⟨(Z0.mk 13 0 [e3,e4]),p24,rfl,rfl,⟨GE.let_ (by assumption) (by have h:=‹GE g (vs++[_]).length (bS (b / 2)) _›;rw [Yk] at h;exact h) hls,by omega⟩⟩ (lr _))
 refine ar (YR (k1==3) Zz (fun XH=>?_) (fun XH=>?_))
 ·refine Zo 5 [2] (iL (Z7 [0,t,t]) 3 1 fun v7=>Z2 1 (ia (((b-1:Nat):Int)) (((b:Int))-(1)) (ZE 0 [(63,Z6 [0,t,t])] (ic [1,3] (A8 rd bs (p+1) g gb rs vs [0,t,t] (b-1) b (Zt:=ob) (hp:=(Aj (p:=p) (by first|omega|simp) hb om om)) (ht:=(by first|omega|simp)) (hb:=om) (ih:=ih)) ?_))))
  rintro _ _ ⟨ys1,p27,rfl,rfl,Vm⟩
  have hga1:=Vm.1
  have hga2:=Vm.2.1
  have hga3:=Vm.2.2
  have hnc:=KW (b:=b) (show (ys1).length<=3 by rw [hga1];first|omega|simp) hb (UL _ (b-1))
  rw [hga1] at hnc
  exact Zu [] (Xw 7 0 ys1) (ZA 3 b2 (YE (Z0.mk 7 0 ys1)) (ie (ZK (r3 [1,1] [ZO (Z0.mk 7 0 ys1)] [0] [(b2,b2)] ⟨(Z0.mk 7 0 ys1),p27,rfl,rfl,⟨GE.if_ om hga2 hga1 (C4 (by simp) hb (UL 3 _)),by omega⟩⟩ (lr _)))))
 refine Y1 (XC (fun fz gz F h=>F=sF [0,2,3,4,6,10,22] fz [(68,.b ((k1==4)||((k1==5)||(k1==6))))]/\h=gz) ?_ ?_)
 ·refine ac (k1==4) Zz (fun XI=>?_) (fun XI=>?_)
  ·exact ak (ZJ ⟨rfl,rfl⟩ (ZV 4 (fc (x:=.b (k1==4)) (lb (by first|rfl|(rw [Zw XI])|(rw [Zp XI])|(simp [XI];done)|(rw [Xc];simp [XI];done)|omega)) fl)))
  refine ar (YR (k1==5) Zz (fun TV=>?_) (fun TV=>?_))
  ·exact ak (ZJ ⟨rfl,rfl⟩ (ZV 4 (fc (x:=.b (k1==5)) (lb (by first|rfl|(rw [Zw XI])|(rw [Zp XI])|(simp [XI,TV];done)|(rw [Xc];simp [XI,TV];done)|omega)) fl)))
  exact UM (ZJ ⟨rfl,rfl⟩ (ZV 4 (fc (x:=.b (k1==6)) (lb (by first|rfl|(rw [Zw XI])|(rw [Zp XI])|(simp [XI,TV];done)|(rw [Xc];simp [XI,TV];done)|omega)) fl)))
 rintro F h ⟨rfl,rfl⟩
 refine ac ((k1==4)||((k1==5)||(k1==6))) (p:=(k1=4)∨((k1=5)∨(k1=6))) (Xo Zz (Xo Zz Zz)) (fun Td=>?_) (fun Td=>?_)
 ·refine Zo 5 [2] (ic [0,2] (RD rd bs (p+1) g gb rs vs t b (Zt:=ob) (ih:=ih)) ?_)
  rintro _ _ ⟨e7,p28,rfl,rfl,US⟩
  have hgm:=US.1
  exact ZA 2 b2 (YE e7) (ie (ZK (r3 [1,1] [ZO e7] [0] [(b2,b2)] ⟨e7,p28,rfl,rfl,⟨hgm,by omega⟩⟩ (lr _))))
 refine Y1 (XC (fun fz gz F h=>F=sF [0,2,3,4,6,10] fz [(78,.b ((k1==7)||(k1==8)))]/\h=gz) ?_ ?_)
 ·refine ac (k1==7) Zz (fun UB=>?_) (fun UB=>?_)
  ·exact ak (ZJ ⟨rfl,rfl⟩ (ZV 4 (fc (x:=.b (k1==7)) (lb (by first|rfl|(rw [Zw UB])|(rw [Zp UB])|(simp [UB];done)|(rw [Xc];simp [UB];done)|omega)) fl)))
  exact UM (ZJ ⟨rfl,rfl⟩ (ZV 4 (fc (x:=.b (k1==8)) (lb (by first|rfl|(rw [Zw UB])|(rw [Zp UB])|(simp [UB];done)|(rw [Xc];simp [UB];done)|omega)) fl)))
 rintro F h ⟨rfl,rfl⟩
 refine ac ((k1==7)||(k1==8)) (p:=(k1=7)∨(k1=8)) (Xo Zz Zz) (fun BR=>?_) (fun BR=>?_)
 ·refine Zo 2 [2] (ic [3] (Rl g gb rs t) ?_)
  rintro _ _ ⟨xs1,rfl,rfl,UT⟩
  have hcal:=UT
  refine Z1 (Yg 1 (iw (Ye xs1) (ZT ((xs1.length:Int)>0) (fun BS=>?_) (fun BS=>?_))))
  ·refine Yg 3 (iw (Ye xs1) (ic [1] (XN rd bs (p+1) (xs1.length:Int) (Zt:=ob)) ?_))
   rintro _ _ ⟨k2,rfl,rfl,UU⟩
   have qhp12:=UU.lt om
   obtain ⟨x1,Z5⟩:=Zq xs1 k2.toNat om
   have hcv:=hcal.2 _ (ZW Z5)
   refine Zm (Zh none k2 1 (ZZ Z5)) (Z1 (aD 15 (ZH 8 15 [0,1,2,3,4,5,6] [3,3] ?_)))
   obtain ⟨x2,Zv⟩:=Zq g.funcs x1.toNat om
   have hso:=(hg.sigs _ (ZW Zv)).bd
   refine dx 7 (XS gb g.funcs.length 4 x1.toNat 5 x1) (Zk 6 7 [8] (Vu 9 (WD 1 gb 4 4 5 (x1.toNat * 5+0) (Zc (X5 rs)) [Z6 x2.params] 31 (Z6 x2.params) (VE XW Zv 0 rfl (Wx rfl))) (Zk 4 5 [10] (da 11 (((b-1:Nat):Int)) (((b:Int))-(1)) (Z8 12 (dc 12 [0,0] [] [] (A8 rd bs ((p+1)+1) g gb rs vs x2.params (b-1) b (Zt:=ob) (hp:=(Aj (p:=p) (by first|omega|simp) hb om om)) (ht:=(by first|omega|simp)) (hb:=om) (ih:=ih)) ?_))))))
   rintro _ _ ⟨ys2,p29,rfl,rfl,QA⟩
   have hga1:=QA.1
   have hga2:=QA.2.1
   have hga3:=QA.2.2
   have hnc:=KW (b:=b) (show (ys2).length<=3 by rw [hga1];first|omega|simp) hb (UL _ (b-1))
   rw [hga1] at hnc
   exact Z8 13 (Yp 13 [] [] [] (Xw 9 x1 ys2) (Z8 14 (Yy 14 2 [] [] b2 (YE (Z0.mk 9 x1 ys2)) (de (ZK (r3 [1,1] [ZO (Z0.mk 9 x1 ys2)] [0] [(b2,b2)] ⟨(Z0.mk 9 x1 ys2),p29,rfl,rfl,⟨GE.node om (fun _=>by omega) om hga2 hga1 (by first|omega|simp) (C4 (by first|omega|simp) hb (UL _ _)),by omega⟩⟩ (lr _)))))))
  refine ak (Zo 5 [3] (ic [1,0] (Ie rd bs (p+1) g gb rs vs t b (Zt:=ob) (ih:=ih)) ?_))
  rintro _ _ ⟨e8,p210,rfl,rfl,Qi⟩
  have hgm:=Qi.1
  exact ZA 2 b2 (YE e8) (ie (ZK (r3 [1,1] [ZO e8] [0] [(b2,b2)] ⟨e8,p210,rfl,rfl,⟨hgm,by omega⟩⟩ (lr _))))
 refine ak (Zo 5 [2] (ic [0,2] (Ie rd bs (p+1) g gb rs vs t b (Zt:=ob) (ih:=ih)) ?_))
 rintro _ _ ⟨e9,p211,rfl,rfl,Js⟩
 have hgm:=Js.1
 exact ZA 2 b2 (YE e9) (ie (ZK (r3 [1,1] [ZO e9] [0] [(b2,b2)] ⟨e9,p211,rfl,rfl,⟨hgm,by omega⟩⟩ (lr _))))
theorem TA (rd:Nat) (bs:LI) (p:Nat) (g:XJ) (gb:Nat) (rs:List Func) (vs:LI) (t:Int) (b:Nat) (Zt:∀z∈bs,0<=z/\z<=255) (hp:p+bC b<=1000000000:=by exact ob) (hg:GP g:=by exact ob) (XW:g.funcs <+: rs:=by exact ob) (hv:vs.length+3*b<=900:=by exact ob):Zf 270 [.p rd 0,.agg (XX g gb),Z6 vs,.i t,.i b] [Yc rd bs p,Xu gb rs] (fun r h=>∃(e:Z0) (p2:Nat),r=ZO e/\h=[Yc rd bs p2,Xu gb rs]/\GE g vs.length (bS b) e/\p<=p2/\p2<=p+bC b):=by
 have key:∀k:Nat,∀(rd:Nat) (bs:LI) (p:Nat) (vs:LI) (t:Int) (b2:Nat),(∀z∈bs,0<=z/\z<=255)->(p+bC b2<=1000000000)->(vs.length+3*b2<=900)->(b2<k)->Zf 270 [.p rd 0,.agg (XX g gb),Z6 vs,.i t,.i b2] [Yc rd bs p,Xu gb rs] (fun r h=>∃(e:Z0) (p2:Nat),r=ZO e/\h=[Yc rd bs p2,Xu gb rs]/\GE g vs.length (bS b2) e/\p<=p2/\p2<=p+bC b2):=by
  intro k
  induction k with
  | zero=>intro rd bs p vs t b2 h1 h2 h3 h4;omega
  | succ k ih=>intro rd bs p vs t b2 h1 h2 h3 h4;exact RE rd bs p g gb rs vs t b2 h1 h2 hg XW h3 fun rd bs p vs t b3 q1 q2 q3 q4=>ih rd bs p vs t b3 q1 q2 q3 om
 exact key (b+1) rd bs p vs t b Zt hp hv om
theorem Ic (rd:Nat) (bs:LI) (p:Nat) (g:XJ) (gb:Nat) (rs:List Func) (vs:LI) (t:Int) (b:Nat) (Zt:∀z∈bs,0<=z/\z<=255) (hp:p+40000<=1000000000:=by exact ob) (hg:GP g:=by exact ob) (XW:g.funcs <+: rs:=by exact ob) (hv:vs.length+3*b<=900:=by exact ob) (hb:b<=20:=by exact ob):Zf 231 [.p rd 0,.agg (XX g gb),Z6 vs,.i t,.i b] [Yc rd bs p,Xu gb rs] (fun r h=>∃(e:Z0) (p2:Nat),r=ZO e/\h=[Yc rd bs p2,Xu gb rs]/\GE g vs.length 30 e/\p<=p2/\p2<=p+40000):=by
 have Z6t:=CF hb
 refine ZD 34 Tryz.func231 (ar (iA (XX g gb) fun b1=>iA [.i 0,.i 0,nl] fun b2=>ie (Zo 5 [1] (ic [2,2] (TA rd bs p g gb rs vs t b (Zt:=ob)) ?_))))
 rintro _ _ ⟨e1,p21,rfl,rfl,ZX⟩
 have X2:=ZX.1
 refine iA [.i 0,.i 0,nl] fun b3=>?_
 refine ZA 0 b3 (YE e1) (ie (aq (ab 0 (Y0 (fun fz gz m F h=>∃(bq:Nat) (eQ:Z0) (pq:Nat),(GE g vs.length (bS bq) eQ)/\(bq<=b)/\(p<=pq/\pq+1900*bq<=p+1900*(b+1))/\F=sF [0,2,3,6,10,11] fz [(4,.i bq)]/\h=[.obj b3 (YE eQ),Yc rd bs pq,Za gz 2,Za gz 3,Za gz 4]/\m=bq+1) _ _ _ ⟨b,e1,p21,X2,ob,ob,rfl,rfl,rfl⟩ (ZV 5 fl) ?_))))
 rintro m F h ⟨bq,eQ,pq,Yf,Zi,Zr,rfl,rfl,rfl⟩
 refine Y6 1 [0] (ic [] (Ik eQ (hz:=(by have h1:=Yf.2;have h2:=(CF (b:=bq) om).1;omega))) ?_)
 rintro _ _ ⟨w1,rfl,rfl,Y9⟩
 have Ft:=Y9
 have hq20:=CF (b:=bq) om
 have hq21:=CF (b:=bq / 2) om
 have X6:=Yf.2
 refine XM [0,2,3,4,6,10,11] [(24,.b ((decide (w1<0))&&(decide ((bq:Int)>2))))] (fun gz=>gz) ?_ ?_
 ·refine Z2 2 (ib (b:=(decide (w1<0))) 21 (fun Zb=>?_) (fun Zb=>?_))
  ·exact Z1 (ZV 5 (ZM (decide ((bq:Int)>2)) Zb fl))
  exact Z1 (ZV 5 (ZM false Zb fl))
 refine ac ((decide (w1<0))&&(decide ((bq:Int)>2))) (p:=(w1<0)/\((bq:Int)>2)) (Xv dq dq) (fun Z9=>?_) (fun Z9=>?_)
 ·refine ak (ab 1 (Yg 1 (Zm (Af bq 2 om om) (Z1 (az (ZU 5 [4] (ic [1,1] (TA rd bs pq g gb rs vs t (bq / 2) (Zt:=ob)) ?_)))))))
  rintro _ _ ⟨e2,p22,rfl,rfl,X9⟩
  have X2:=X9.1
  exact ZA 2 b3 (YE e2) (ie (ZI ⟨(bq / 2),e2,p22,X2,ob,ob,rfl,rfl,rfl⟩ (ZV 5 (fc (x:=.i (bq / 2:Nat)) li fl))))
 exact ax 0 (Zo 1 [0] (ZA 3 b2 (YE eQ) (ie (ZK (r3 [2,2] [ZO eQ] [0] [(b2,b2)] ⟨eQ,pq,rfl,rfl,⟨⟨Yf.1,by omega⟩,by omega⟩⟩ (lr _))))))
theorem RU (rd:Nat) (bs:LI) (p:Nat) (t:Int) (Zt:∀z∈bs,0<=z/\z<=255) (hp:p+14<=1000000000:=by exact ob):Zf 272 [.p rd 0,.i t] [Yc rd bs p] (fun r h=>∃(e:Z0) (p2:Nat),r=ZO e/\h=[Yc rd bs p2]/\(∀g:XJ,SE g 9 e)/\p<=p2/\p2<=p+14):=by
 refine ZD 45 Tryz.func272 (ar (iA [.i 0,.i 0,nl] fun b1=>ie (ar (iL (Yb []) 0 3 fun v1=>ZE 0 [(10,Xb [])] (Zu [] (Xw 6 0 []) (iA [.i 0,.i 0,nl] fun b2=>ZA 0 b2 (YE (Z0.mk 6 0 [])) (ie (X7 (YR (t==3) Zz (fun Z9=>?_) (fun Z9=>?_))))))))))
 ·refine ar (iL (Yb []) 0 3 fun v2=>ZE 0 [(14,Xb [])] (Zu [] (Xw 6 2 []) (iA [.i 0,.i 0,nl] fun b3=>?_)))
  refine ZA 0 b3 (YE (Z0.mk 6 2 [])) (ie (aD 9 (ZH 6 9 [0,1,4] [0,0] (Ky (fun fz gz F h=>∃(k1:Int) (b4:Nat),(Pk 9 k1)/\F=sF [0,4,6] fz [(7,.p b4 0)]/\h=[.obj b4 (YE (Z0.mk 6 3 [Z0.mk 6 2 [],Z0.mk 0 k1 [],Z0.mk 6 2 []])),.obj rd [V7 bs,.i (p+1:Nat)],Za gz 0,Za gz 1,Za gz 2,Za gz 3,Za gz 4]) ?_ ?_))))
  ·refine WU 2 7 ?_ ?_
   ·refine dc 2 [5] [0,0] [b3,b3] (XN rd bs p 9 (Zt:=ob)) ?_
    rintro _ _ ⟨k1,rfl,rfl,ZX⟩
    have qhp1:=ZX.lt om
    refine WU 3 7 ?_ ?_
    ·refine Yp 3 [] [1,1] [b3,b3] (KL k1) (WU 5 7 ?_ ?_)
     ·refine W5 5 [] [] [ZO (Z0.mk 6 2 []),ZO (Z0.mk 0 k1 []),ZO (Z0.mk 6 2 [])] (Yb [Z0.mk 6 2 [],Z0.mk 0 k1 [],Z0.mk 6 2 []]) (Xt [Z0.mk 6 2 [],Z0.mk 0 k1 [],Z0.mk 6 2 []]).symm 3 3 fun v3=>Yh 3 3 [] [(21,Xb [Z0.mk 6 2 [],Z0.mk 0 k1 [],Z0.mk 6 2 []])] (WU 6 7 ?_ ?_)
      ·exact Yp 6 [] [] [] (Xw 6 3 [Z0.mk 6 2 [],Z0.mk 0 k1 [],Z0.mk 6 2 []]) (Z8 7 (dA 7 [] [] [.i 0,.i 0,nl] fun b4=>Z8 8 (Yy 8 0 [] [] b4 (YE (Z0.mk 6 3 [Z0.mk 6 2 [],Z0.mk 0 k1 [],Z0.mk 6 2 []])) (de (ZJ ⟨k1,b4,(by assumption),rfl,rfl⟩ (wk [0,1,1,1,1,1,1] fl))))))
      exact dA 7 [] [] [.i 0,.i 0,nl] fun b5=>Z8 6 (Yp 6 [] [] [] (Xw 6 3 [Z0.mk 6 2 [],Z0.mk 0 k1 [],Z0.mk 6 2 []]) (Z8 8 (Yy 8 0 [] [] b5 (YE (Z0.mk 6 3 [Z0.mk 6 2 [],Z0.mk 0 k1 [],Z0.mk 6 2 []])) (de (ZJ ⟨k1,b5,(by assumption),rfl,rfl⟩ (wk [0,1,1,1,1,1,1] fl))))))
     exact dA 7 [1,1] [b3,b3] [.i 0,.i 0,nl] fun b6=>Z8 5 (W5 5 [] [] [ZO (Z0.mk 6 2 []),ZO (Z0.mk 0 k1 []),ZO (Z0.mk 6 2 [])] (Yb [Z0.mk 6 2 [],Z0.mk 0 k1 [],Z0.mk 6 2 []]) (Xt [Z0.mk 6 2 [],Z0.mk 0 k1 [],Z0.mk 6 2 []]).symm 3 3 fun v4=>Yh 2 2 [] [(21,Xb [Z0.mk 6 2 [],Z0.mk 0 k1 [],Z0.mk 6 2 []])] (Z8 6 (Yp 6 [] [] [] (Xw 6 3 [Z0.mk 6 2 [],Z0.mk 0 k1 [],Z0.mk 6 2 []]) (Z8 8 (Yy 8 1 [] [] b6 (YE (Z0.mk 6 3 [Z0.mk 6 2 [],Z0.mk 0 k1 [],Z0.mk 6 2 []])) (de (ZJ ⟨k1,b6,(by assumption),rfl,rfl⟩ (wk [0,1,1,1,1,1,1] fl))))))))
    exact dA 7 [1,1] [b3,b3] [.i 0,.i 0,nl] fun b7=>Z8 3 (Yp 3 [] [2,2] [b3,b3] (KL k1) (Z8 5 (W5 5 [] [] [ZO (Z0.mk 6 2 []),ZO (Z0.mk 0 k1 []),ZO (Z0.mk 6 2 [])] (Yb [Z0.mk 6 2 [],Z0.mk 0 k1 [],Z0.mk 6 2 []]) (Xt [Z0.mk 6 2 [],Z0.mk 0 k1 [],Z0.mk 6 2 []]).symm 3 3 fun v5=>Yh 2 2 [] [(21,Xb [Z0.mk 6 2 [],Z0.mk 0 k1 [],Z0.mk 6 2 []])] (Z8 6 (Yp 6 [] [] [] (Xw 6 3 [Z0.mk 6 2 [],Z0.mk 0 k1 [],Z0.mk 6 2 []]) (Z8 8 (Yy 8 1 [] [] b7 (YE (Z0.mk 6 3 [Z0.mk 6 2 [],Z0.mk 0 k1 [],Z0.mk 6 2 []])) (de (ZJ ⟨k1,b7,(by assumption),rfl,rfl⟩ (wk [0,1,1,1,1,1,1] fl))))))))))
   refine dA 7 [0,0] [b3,b3] [.i 0,.i 0,nl] fun b8=>Z8 2 (dc 2 [6] [1,1] [b3,b3] (XN rd bs p 9 (Zt:=ob)) ?_)
   rintro _ _ ⟨k2,rfl,rfl,Y9⟩
   have qhp2:=Y9.lt om
   exact Z8 3 (Yp 3 [] [2,2] [b3,b3] (KL k2) (Z8 5 (W5 5 [] [] [ZO (Z0.mk 6 2 []),ZO (Z0.mk 0 k2 []),ZO (Z0.mk 6 2 [])] (Yb [Z0.mk 6 2 [],Z0.mk 0 k2 [],Z0.mk 6 2 []]) (Xt [Z0.mk 6 2 [],Z0.mk 0 k2 [],Z0.mk 6 2 []]).symm 3 3 fun v6=>Yh 2 2 [] [(21,Xb [Z0.mk 6 2 [],Z0.mk 0 k2 [],Z0.mk 6 2 []])] (Z8 6 (Yp 6 [] [] [] (Xw 6 3 [Z0.mk 6 2 [],Z0.mk 0 k2 [],Z0.mk 6 2 []]) (Z8 8 (Yy 8 2 [] [] b8 (YE (Z0.mk 6 3 [Z0.mk 6 2 [],Z0.mk 0 k2 [],Z0.mk 6 2 []])) (de (ZJ ⟨k2,b8,(by assumption),rfl,rfl⟩ (wk [0,1,1,1,1,1,1] fl))))))))))
  rintro F h ⟨k1,b4,ZX,rfl,rfl⟩
  have qhp1:=ZX.lt om
  refine aD 8 (ZH 5 8 [0,1,4] [0,2] (Z8 2 (dc 2 [1] [1,0] [b3,b4] (XN rd bs (p+1) 9 (Zt:=ob)) ?_)))
  rintro _ _ ⟨k3,rfl,rfl,YL⟩
  have qhp3:=YL.lt om
  exact Z8 3 (Yp 3 [] [2,1] [b3,b4] (KL k3) (Z8 5 (W5 5 [] [] [ZO (Z0.mk 6 3 [Z0.mk 6 2 [],Z0.mk 0 k1 [],Z0.mk 6 2 []]),ZO (Z0.mk 0 k3 []),ZO (Z0.mk 6 2 [])] (Yb [Z0.mk 6 3 [Z0.mk 6 2 [],Z0.mk 0 k1 [],Z0.mk 6 2 []],Z0.mk 0 k3 [],Z0.mk 6 2 []]) (Xt [Z0.mk 6 3 [Z0.mk 6 2 [],Z0.mk 0 k1 [],Z0.mk 6 2 []],Z0.mk 0 k3 [],Z0.mk 6 2 []]).symm 3 3 fun v7=>Yh 2 2 [] [(28,Xb [Z0.mk 6 3 [Z0.mk 6 2 [],Z0.mk 0 k1 [],Z0.mk 6 2 []],Z0.mk 0 k3 [],Z0.mk 6 2 []])] (Z8 6 (Yp 6 [] [] [] (Xw 6 3 [Z0.mk 6 3 [Z0.mk 6 2 [],Z0.mk 0 k1 [],Z0.mk 6 2 []],Z0.mk 0 k3 [],Z0.mk 6 2 []]) (Z8 7 (Yy 7 7 [] [] b1 (YE (Z0.mk 6 3 [Z0.mk 6 3 [Z0.mk 6 2 [],Z0.mk 0 k1 [],Z0.mk 6 2 []],Z0.mk 0 k3 [],Z0.mk 6 2 []])) (de (ZK (r3 [2] [ZO (Z0.mk 6 3 [Z0.mk 6 3 [Z0.mk 6 2 [],Z0.mk 0 k1 [],Z0.mk 6 2 []],Z0.mk 0 k3 [],Z0.mk 6 2 []])] [0] [(b1,b1)] ⟨(Z0.mk 6 3 [Z0.mk 6 3 [Z0.mk 6 2 [],Z0.mk 0 k1 [],Z0.mk 6 2 []],Z0.mk 0 k3 [],Z0.mk 6 2 []]),(p+1)+1,rfl,rfl,⟨fun g=>SE.three (s1:=4) (s2:=1) (s3:=1) om om (SE.three (s1:=1) (s2:=1) (s3:=1) om om (SE.nil om om om) (SE.int om om) (SE.nil om om om) om) (SE.int om om) (SE.nil om om om) om,by omega⟩⟩ (lr _)))))))))))
 refine ak (Zo 1 [0] (iA [.i 0,.i 0,nl] fun b9=>ZA 0 b9 (YE (Z0.mk 6 0 [])) (ie (X4 1 (ic [4] (XN rd bs p 3 (Zt:=ob)) ?_)))))
 rintro _ _ ⟨k4,rfl,rfl,YX⟩
 have qhp4:=YX.lt om
 refine ia ((1+k4)) ((1)+(k4)) (Z1 (ab 0 (Y0 (fun fz gz m F h=>∃(j:Int) (eQ:Z0) (pq:Nat),(0<=j/\j<=3)/\(∀g:XJ,SE g (7-2*j.toNat) eQ)/\(p+1<=pq/\pq+4*j.toNat<=p+13)/\F=sF [0,4,8] fz [(9,.i j)]/\h=[Yc rd bs pq,.obj b9 (YE eQ),Za gz 4]/\m=j.toNat) _ _ _ ⟨(1+k4),(Z0.mk 6 0 []),p+1,ob,(fun g=>SE.nil om om om),ob,rfl,rfl,rfl⟩ (wk [0,0,2] fl) ?_)))
 rintro m F h ⟨j,eQ,pq,Yf,Zi,Zr,rfl,rfl,rfl⟩
 refine X7 (ZT (j>0) (fun Zg=>?_) (fun Zg=>?_))
 ·refine ak (aq (ab 1 (aE 7 (ZH 5 7 [0,3] [1] (Z8 1 (dc 1 [0] [0] [b9] (In rd bs pq (Zt:=ob)) ?_))))))
  rintro _ _ ⟨z1,rfl,rfl,X9⟩
  have hz:=X9
  exact Z8 2 (Yp 2 [] [1] [b9] (KL z1) (Z8 4 (W5 4 [] [] [ZO (Z0.mk 0 z1 []),ZO eQ] (Yb [Z0.mk 0 z1 [],eQ]) (Xt [Z0.mk 0 z1 [],eQ]).symm 2 3 fun v8=>Yh 2 2 [] [(42,Xb [Z0.mk 0 z1 [],eQ])] (Z8 5 (Yp 5 [] [] [] (Xw 6 1 [Z0.mk 0 z1 [],eQ]) (Z8 6 (Yy 6 2 [] [] b9 (YE (Z0.mk 6 1 [Z0.mk 0 z1 [],eQ])) (de (az (Z2 1 (ia ((j-1)) ((j)-(1)) (Z1 (ZI ⟨(j-1),(Z0.mk 6 1 [Z0.mk 0 z1 [],eQ]),pq+4,ob,(fun g=>SE.two om om (SE.int (q:=1) om om) (Zi g) om),ob,rfl,rfl,rfl⟩ (wk [2,0,1] fl))))))))))))))
 exact ax 0 (Zo 1 [1] (ZA 2 b1 (YE eQ) (ie (ZK (r3 [1] [ZO eQ] [0] [(b1,b1)] ⟨eQ,pq,rfl,rfl,⟨fun g=>(⟨(Zi g).1,by have:=(Zi g).2;omega⟩:SE g 9 _),by omega⟩⟩ (lr _))))))
theorem RY (rd:Nat) (bs:LI) (p:Nat) (g:XJ) (gb:Nat) (rs:List Func) (Zt:∀z∈bs,0<=z/\z<=255) (hp:p+1600<=1000000000:=by exact ob) (hg:GP g:=by exact ob) (XW:g.funcs <+: rs:=by exact ob):Zf 227 [.p rd 0,.agg (XX g gb)] [Yc rd bs p,Xu gb rs] (fun r h=>∃(e:Z0) (p2:Nat),r=ZO e/\h=[Yc rd bs p2,Xu gb rs]/\GE g 0 200 e/\p<=p2/\p2<=p+1600):=by
 have hbv:=BB
 refine ZD 27 Tryz.func227 (ar (iA (XX g gb) fun b1=>iA [.i 0,.i 0,nl] fun b2=>ie (Yg 1 (iL (Z7 [1,1,3]) 3 1 fun v1=>ZE 0 [(8,Z6 [1,1,3])] (ic [3] (WW rd bs p [1,1,3] (Zt:=ob)) ?_)))))
 rintro _ _ ⟨z1,rfl,rfl,ZX⟩
 have hz:=Jz (a:=1) (b:=3) ZX (by decide)
 refine Z1 (Zo 3 [3] (iL (Z7 [z1]) 1 1 fun v2=>ZE 0 [(13,Z6 [z1])] (ic [1,4] (TA rd bs (p+1) g gb rs [z1] 0 16 (Zt:=ob) (hv:=(by simp))) ?_)))
 rintro _ _ ⟨e1,p21,rfl,rfl,Y9⟩
 have X2:=Y9.1
 have TB:=Y9.2
 rw [hbv.2.2.2.1] at X2
 refine iA [.i 0,.i 0,nl] fun b3=>ZA 0 b3 (YE e1) (ie (X4 1 (ic [1] (XN rd bs p21 3 (Zt:=ob)) ?_)))
 rintro _ _ ⟨k1,rfl,rfl,YL⟩
 have qhp3:=YL.lt om
 refine Z1 (XC (fun fz gz F h=>∃(eQ:Z0),(GE g 1 151 eQ)/\F=sF [0,4,5,6] fz []/\h=[Za gz 0,.obj b3 (YE eQ),Za gz 2,Za gz 5]) ?_ ?_)
 ·refine ac (k1==0) Zz (fun Z9=>?_) (fun Z9=>?_)
  ·exact az (ZU 1 [1] (VF [ZO e1] (Yb [e1]) (Xt [e1]).symm 1 3 fun v3=>ZE 0 [(19,Xb [e1])] (Zu [] (Xw 5 0 [e1]) (ZA 2 b3 (YE (Z0.mk 5 0 [e1])) (ie (ZJ ⟨(Z0.mk 5 0 [e1]),(GE.one om om X2 om),rfl,rfl⟩ (wk [2,0,1,3] fl)))))))
  exact ak (ZJ ⟨e1,(GE.le X2 om),rfl,rfl⟩ (wk [0,0,0,2] fl))
 rintro F h ⟨eQ,Qj,rfl,rfl⟩
 refine aD 7 (ZH 4 7 [0,1,3] [1] (Z8 2 (dc 2 [0] [0] [b3] (RU rd bs (p21+1) z1 (Zt:=ob)) ?_)))
 rintro _ _ ⟨e2,p22,rfl,rfl,YX⟩
 have hli:=YX.1
 exact Z8 4 (W5 4 [] [] [ZO e2,ZO eQ] (Yb [e2,eQ]) (Xt [e2,eQ]).symm 2 3 fun v4=>Yh 2 2 [] [(25,Xb [e2,eQ])] (Z8 5 (Yp 5 [] [] [] (Xw 13 0 [e2,eQ]) (Z8 6 (Yy 6 4 [] [] b2 (YE (Z0.mk 13 0 [e2,eQ])) (de (ZK (r3 [2,3] [ZO (Z0.mk 13 0 [e2,eQ])] [0] [(b2,b2)] ⟨(Z0.mk 13 0 [e2,eQ]),p22,rfl,rfl,⟨GE.letS ((hli g).ge (YQ _)) Qj om,by omega⟩⟩ (lr _)))))))))
theorem S6 (rd:Nat) (bs:LI) (p:Nat) (g:XJ) (gb:Nat) (rs:List Func) (f:Func) (i:Int) (w:Int) (Zt:∀z∈bs,0<=z/\z<=255) (hp:p+1000<=1000000000:=by exact ob) (hg:GP g:=by exact ob) (XW:g.funcs <+: rs:=by exact ob) (hi:0<=i:=by exact ob) (hf:g.funcs[i.toNat]? = some f:=by exact ob) (hw:0<=w/\w<f.params.length:=by exact ob):Zf 228 [.p rd 0,.agg (XX g gb),.i i,.i w] [Yc rd bs p,Xu gb rs] (fun r h=>∃(e:Z0) (p2:Nat),r=ZO e/\h=[Yc rd bs p2,Xu gb rs]/\GE g f.params.length 200 e/\p<=p2/\p2<=p+1000):=by
 obtain ⟨hil,_⟩:=XA.1 hf
 have hgl:=hg.len
 have hso:=(hg.sigs f (ZW hf)).bd
 have hbv:=BB
 refine ZD 136 Tryz.func228 (ar (iA (XX g gb) fun b1=>iA [.i 0,.i 0,nl] fun b2=>ie (Zo 3 [1] (Zm (XS gb g.funcs.length 4 i.toNat 5 i) (Z2 1 (Vn (WD 3 gb 4 4 5 (i.toNat * 5+0) (Zc (X5 rs)) [Z6 f.params] 31 (Z6 f.params) (VE XW hf 0 rfl (Wx rfl))) (Z1 (Yg 1 (iw (Ye f.params) (Z1 (Yg 1 (iL (Z7 [0,1]) 2 1 fun v1=>ZE 0 [(26,Z6 [0,1])] (ic [] (TI f.params [0,1]) ?_)))))))))))))
 rintro _ _ ⟨v2,rfl,rfl⟩
 refine Z1 (ar (iL (Yb []) 0 3 fun v3=>?_))
 refine Z1 (Y1 (ab 0 (Y0 (fun fz gz m F h=>∃(k:Nat) (ys:List Z0) (u:Value) (pq:Nat),(k<=f.params.length)/\(ys.length=k)/\(∀e∈ys,GE g (f.params.length+2) 3 e)/\(p<=pq/\pq<=p+k)/\F=sF [0,2,3,5,8,9,10] fz [(11,Z6 (f.params++[0,1])),(12,Tj ys u),(13,.i k)]/\h=[Za gz 3,Za gz 4,Yc rd bs pq,Za gz 6,.tail u 3]/\m=f.params.length-k) _ _ _ ⟨0,[],v3,p,ob,ob,(fun e he=>by cases he),ob,rfl,rfl,rfl⟩ (wk [3,3,3,3,0] (fc (x:=ZQ (f.params++[0,1]) v2) (Ze.forget _ _) (fr (Yd fl)))) ?_)))
 rintro m F h ⟨k,ys,u,pq,Yf,Zi,Zr,YA,rfl,rfl,rfl⟩
 refine X7 (ZT ((k:Int)<(f.params.length:Int)) (fun Z9=>?_) (fun Z9=>?_))
 ·refine ak (aq (ab 1 (ar (YR ((k:Int)==w) Zz (fun Zg=>?_) (fun Zg=>?_)))))
  ·exact az (Z2 2 (ia (((f.params.length+1:Nat):Int)) (((f.params.length:Int))+(1)) (Zu [] (UQ ((f.params.length+1:Nat):Int)) (VF [ZO (Z0.mk 12 ((f.params.length+1:Nat):Int) [])] (Yb [(Z0.mk 12 ((f.params.length+1:Nat):Int) [])]) (Xt [(Z0.mk 12 ((f.params.length+1:Nat):Int) [])]).symm 1 3 fun v4=>ZE 0 [(41,Xb [(Z0.mk 12 ((f.params.length+1:Nat):Int) [])])] (ip 5 (Yb (ys++[(Z0.mk 12 ((f.params.length+1:Nat):Int) [])])) (Yb ys) (Yb [(Z0.mk 12 ((f.params.length+1:Nat):Int) [])]) u none 3 (U2 _) (U2 _) (QZ _) (by simp<;>omega) (by simp [QY,Yb]) fun v5=>Z1 (az (Z2 1 (ZG k (Z1 (ZI ⟨k+1,(ys++[(Z0.mk 12 ((f.params.length+1:Nat):Int) [])]),v5,pq,ob,ob,(Xe Zr (GE.var om om om)),ob,rfl,rfl,rfl⟩ (wk [2,2,2,2,0] (fw (ZL k fl)))))))))))))
  refine aq (XC (fun fz gz F h=>∃(wb:Bool) (p5:Nat),(pq<=p5/\p5<=pq+1)/\F=sF [0,2,3,5,8,9,10,11,12,13] fz [(52,.b wb)]/\h=[Za gz 0,Za gz 1,Yc rd bs p5,Za gz 3,Za gz 4]) ?_ ?_)
  ·refine az (Z2 2 ?_)
   obtain ⟨x1,Z5⟩:=Zq f.params k om
   refine Zm (Zh none (k:Int) 1 (ZZ Z5)) (Z2 3 (ib (b:=(x1==0)) 48 (fun Zb=>?_) (fun Zb=>?_)))
   ·refine Z2 1 (ic [2] (XN rd bs pq 2 (Zt:=ob)) ?_)
    rintro _ _ ⟨k1,rfl,rfl,Y9⟩
    have qhp2:=Y9.lt om
    exact Z1 (ZJ ⟨(k1==0),pq+1,om,rfl,rfl⟩ (wk [1,1,0,0,0] fl))
   exact Z1 (ZJ ⟨false,pq,ob,rfl,rfl⟩ (ZV 5 fl))
  rintro F h ⟨wb,p5,kR10_0,rfl,rfl⟩
  refine ac wb Iff.rfl (fun ZF=>?_) (fun ZF=>?_)
  ·exact az (Z2 2 (Zu [] (UQ (k:Int)) (Z2 1 (Zu [] (UQ (f.params.length:Int)) (VF [ZO (Z0.mk 12 (k:Int) []),ZO (Z0.mk 12 (f.params.length:Int) [])] (Yb [(Z0.mk 12 (k:Int) []),(Z0.mk 12 (f.params.length:Int) [])]) (Xt [(Z0.mk 12 (k:Int) []),(Z0.mk 12 (f.params.length:Int) [])]).symm 2 3 fun v6=>ZE 0 [(58,Xb [(Z0.mk 12 (k:Int) []),(Z0.mk 12 (f.params.length:Int) [])])] (Zu [] (Xw 1 0 [(Z0.mk 12 (k:Int) []),(Z0.mk 12 (f.params.length:Int) [])]) (VF [ZO (Z0.mk 1 0 [(Z0.mk 12 (k:Int) []),(Z0.mk 12 (f.params.length:Int) [])])] (Yb [(Z0.mk 1 0 [(Z0.mk 12 (k:Int) []),(Z0.mk 12 (f.params.length:Int) [])])]) (Xt [(Z0.mk 1 0 [(Z0.mk 12 (k:Int) []),(Z0.mk 12 (f.params.length:Int) [])])]).symm 1 3 fun v7=>ZE 0 [(60,Xb [(Z0.mk 1 0 [(Z0.mk 12 (k:Int) []),(Z0.mk 12 (f.params.length:Int) [])])])] (ip 6 (Yb (ys++[(Z0.mk 1 0 [(Z0.mk 12 (k:Int) []),(Z0.mk 12 (f.params.length:Int) [])])])) (Yb ys) (Yb [(Z0.mk 1 0 [(Z0.mk 12 (k:Int) []),(Z0.mk 12 (f.params.length:Int) [])])]) u none 3 (U2 _) (U2 _) (QZ _) (by simp<;>omega) (by simp [QY,Yb]) fun v8=>Z1 (az (Z2 1 (ZG k (Z1 (ZI ⟨k+1,(ys++[(Z0.mk 1 0 [(Z0.mk 12 (k:Int) []),(Z0.mk 12 (f.params.length:Int) [])])]),v8,p5,ob,ob,(Xe Zr (GE.two (s1:=1) (s2:=1) om om (GE.var om om om) (GE.var om om om) om)),ob,rfl,rfl,rfl⟩ (wk [3,3,3,3,0] (fw (ZL k fl))))))))))))))))
  exact az (Z2 2 (Zu [] (UQ (k:Int)) (VF [ZO (Z0.mk 12 (k:Int) [])] (Yb [(Z0.mk 12 (k:Int) [])]) (Xt [(Z0.mk 12 (k:Int) [])]).symm 1 3 fun v9=>ZE 0 [(65,Xb [(Z0.mk 12 (k:Int) [])])] (ip 5 (Yb (ys++[(Z0.mk 12 (k:Int) [])])) (Yb ys) (Yb [(Z0.mk 12 (k:Int) [])]) u none 3 (U2 _) (U2 _) (QZ _) (by simp<;>omega) (by simp [QY,Yb]) fun v10=>Z1 (az (Z2 1 (ZG k (Z1 (ZI ⟨k+1,(ys++[(Z0.mk 12 (k:Int) [])]),v10,p5,ob,ob,(Xe Zr (GE.var om om om)),ob,rfl,rfl,rfl⟩ (wk [2,2,2,2,0] (fw (ZL k fl))))))))))))
 refine ax 0 (ar (ZE 2 [(68,Xb ys)] (Zu [] (Xw 9 i ys) (iA [.i 0,.i 0,nl] fun b3=>ZA 0 b3 (YE (Z0.mk 9 i ys)) (ie (Zo 1 [0] (iA [.i 0,.i 0,nl] fun b4=>?_)))))))
 refine ZA 0 b4 (YE (Z0.mk 9 i ys)) (ie (aq (aq (XC (fun fz gz F h=>∃(wb:Bool) (p5:Nat),(pq<=p5/\p5<=pq+1)/\F=sF [0,2,3,5,8,9,10,11,14,15] fz [(82,.b wb)]/\h=[Za gz 0,Za gz 1,Za gz 2,Za gz 3,Yc rd bs p5,Za gz 5]) ?_ ?_))))
 ·refine az (ZU 3 [3] (Zm (XS gb g.funcs.length 4 i.toNat 5 i) (Z2 1 (Vn (WD 5 gb 4 4 5 (i.toNat * 5+1) (Zc (X5 rs)) [.i f.result] 3 (.i f.result) (VE XW hf 1 rfl (Wx rfl))) (Z2 2 (ib (b:=(f.result==1)) 78 (fun ZP=>?_) (fun ZP=>?_)))))))
  ·refine Z2 1 (ic [4] (XN rd bs pq 5 (Zt:=ob)) ?_)
   rintro _ _ ⟨k2,rfl,rfl,X9⟩
   have qhp5:=X9.lt om
   exact Z1 (ZJ ⟨(decide (k2>0)),pq+1,ob,rfl,rfl⟩ (wk [1,1,1,1,0,0] fl))
  exact Z1 (ZJ ⟨false,pq,ob,rfl,rfl⟩ (ZV 6 fl))
 rintro F h ⟨wb,p5,kR15_0,rfl,rfl⟩
 refine XC (fun fz gz F h=>∃(eQ:Z0) (p6:Nat),(GE g (f.params.length+2) 41 eQ)/\(p5<=p6/\p6<=p5+302)/\F=sF [0,2,3,5,8,9,15] fz []/\h=[.obj b4 (YE eQ),Za gz 2,Za gz 3,Yc rd bs p6,Za gz 5]) ?_ ?_
 ·refine ac wb Iff.rfl (fun Yq=>?_) (fun Yq=>?_)
  ·refine Zo 3 [3] (ic [4,4] (TA rd bs p5 g gb rs (f.params++[0,1]) 0 4 (Zt:=ob) (hv:=(by first|omega|(simp only [Yk,YD,X8];omega)))) ?_)
   rintro _ _ ⟨e1,p21,rfl,rfl,Wu⟩
   have X2:=Wu.1
   have TB:=Wu.2
   try rw [Yk] at X2
   rw [hbv.2.1] at X2
   refine iA [.i 0,.i 0,nl] fun b5=>?_
   refine ZA 0 b5 (YE e1) (ie (aq (aq (XC (fun fz gz F h=>∃(wc:Bool),(True)/\F=sF [0,2,3,5,8,9,10,14,15,16] fz [(94,.b wc)]/\h=gz) ?_ ?_))))
   ·refine az (Z2 3 (ib (b:=(decide ((f.params.length:Int)>1))) 89 (fun YW=>?_) (fun YW=>?_)))
    ·refine Z2 1 ?_
     obtain ⟨x2,Zv⟩:=Zq f.params 0 om
     exact Zm (Zh none 0 1 (ZZ Zv)) (Z1 (ZJ ⟨(x2==2),ob,rfl,rfl⟩ (ZV 7 fl)))
    exact Z1 (ZJ ⟨false,ob,rfl,rfl⟩ (ZV 7 fl))
   rintro F h ⟨wc,kR17_0,rfl,rfl⟩
   refine XC (fun fz gz F h=>∃(eA:Z0),(GE g (f.params.length+2) 30 eA)/\F=sF [0,2,3,5,8,9,14,15,16] fz []/\h=[.obj b5 (YE eA),Za gz 1,Za gz 2,Za gz 3,Za gz 4,Za gz 5,Za gz 6]) ?_ ?_
   ·refine ac wc Iff.rfl (fun XH=>?_) (fun XH=>?_)
    ·exact az (Zu [] (UQ 0) (Z2 1 (Zu [] (UQ (f.params.length:Int)) (VF [ZO (Z0.mk 12 0 []),ZO (Z0.mk 12 (f.params.length:Int) [])] (Yb [Z0.mk 12 0 [],(Z0.mk 12 (f.params.length:Int) [])]) (Xt [Z0.mk 12 0 [],(Z0.mk 12 (f.params.length:Int) [])]).symm 2 3 fun v11=>ZE 0 [(98,Xb [Z0.mk 12 0 [],(Z0.mk 12 (f.params.length:Int) [])])] (Zu [] (Xw 11 0 [Z0.mk 12 0 [],(Z0.mk 12 (f.params.length:Int) [])]) (ZA 1 b5 (YE (Z0.mk 11 0 [Z0.mk 12 0 [],(Z0.mk 12 (f.params.length:Int) [])])) (ie (ZJ ⟨(Z0.mk 11 0 [Z0.mk 12 0 [],(Z0.mk 12 (f.params.length:Int) [])]),(GE.two (s1:=1) (s2:=1) om om (GE.var om om om) (GE.var om om om) om),rfl,rfl⟩ (wk [0,1,1,1,1,1,1] fl)))))))))
    exact ak (ZJ ⟨e1,X2,rfl,rfl⟩ (ZV 7 fl))
   rintro F h ⟨eA,Z06,rfl,rfl⟩
   exact az (ZU 2 [0,4] (VF [ZO eA,ZO (Z0.mk 9 i ys)] (Yb [eA,Z0.mk 9 i ys]) (Xt [eA,Z0.mk 9 i ys]).symm 2 3 fun v12=>ZE 0 [(102,Xb [eA,Z0.mk 9 i ys])] (Zu [] (Xw 6 1 [eA,Z0.mk 9 i ys]) (ZA 4 b4 (YE (Z0.mk 6 1 [eA,Z0.mk 9 i ys])) (ie (ZJ ⟨(Z0.mk 6 1 [eA,Z0.mk 9 i ys]),p21,(GE.two (s1:=30) (s2:=10) om om Z06 (GE.node (L:=f.params.length) (s:=3) (q:=10) om (fun _=>by omega) om Zr om om om) om),ob,rfl,rfl⟩ (wk [0,5,5,2,2] fl)))))))
  refine Zo 3 [3] (Zm (XS gb g.funcs.length 4 i.toNat 5 i) (Z2 1 (Vn (WD 5 gb 4 4 5 (i.toNat * 5+1) (Zc (X5 rs)) [.i f.result] 3 (.i f.result) (VE XW hf 1 rfl (Wx rfl))) (YR (f.result==0) Zz (fun XI=>?_) (fun XI=>?_)))))
  ·refine aE 11 (ZH 6 11 [0,3,4,5,7] [3,1] (Z8 1 (dL 1 [1,3] [b3,b1] (Z7 [1,2]) 2 1 fun v13=>Yh 5 5 [] [(112,Z6 [1,2])] (Z8 2 (dc 2 [5] [1,3] [b3,b1] (WW rd bs p5 [1,2] (Zt:=ob)) ?_)))))
   rintro _ _ ⟨z1,rfl,rfl,US⟩
   have hz:=Jz (a:=1) (b:=2) US (by decide)
   refine Z8 6 (dc 6 [0,5] [1] [b3] (TA rd bs (p5+1) g gb rs (f.params++[0,1]) 0 4 (Zt:=ob) (hv:=(by first|omega|(simp only [Yk,YD,X8];omega)))) ?_)
   rintro _ _ ⟨e2,p22,rfl,rfl,UT⟩
   have X2:=UT.1
   have TB:=UT.2
   try rw [Yk] at X2
   rw [hbv.2.1] at X2
   exact Z8 8 (W5 8 [] [] [ZO e2,ZO (Z0.mk 9 i ys)] (Yb [e2,Z0.mk 9 i ys]) (Xt [e2,Z0.mk 9 i ys]).symm 2 3 fun v14=>Yh 2 2 [] [(119,Xb [e2,Z0.mk 9 i ys])] (Z8 9 (Yp 9 [] [] [] (Xw z1 0 [e2,Z0.mk 9 i ys]) (Z8 10 (Yy 10 4 [] [] b4 (YE (Z0.mk z1 0 [e2,Z0.mk 9 i ys])) (de (ZJ ⟨(Z0.mk z1 0 [e2,Z0.mk 9 i ys]),p22,(GE.two (s1:=30) (s2:=10) om om X2 (GE.node (L:=f.params.length) (s:=3) (q:=10) om (fun _=>by omega) om Zr om om om) om),ob,rfl,rfl⟩ (wk [0,5,5,1,1] fl))))))))
  exact ak (ZJ ⟨(Z0.mk 9 i ys),p5,(GE.le (GE.node (L:=f.params.length) (s:=3) (q:=10) om (fun _=>by omega) om Zr om om om) om),ob,rfl,rfl⟩ (wk [0,1,1,1,1] fl))
 rintro F h ⟨eQ,p6,TC,Z05,rfl,rfl⟩
 refine aD 16 (ZH 9 16 [0,2,3,4,5,6,7] [2,2] (dx 8 (XS gb g.funcs.length 4 i.toNat 5 i) (Zk 7 8 [9] (Vu 10 (WD 4 gb 4 4 5 (i.toNat * 5+1) (Zc (X5 rs)) [.i f.result] 3 (.i f.result) (VE XW hf 1 rfl (Wx rfl))) (ZH 5 6 [12] [0] (Z8 1 (Yp 1 [] [0,4,2,2] [b4,gb,b1,b1] (UQ w) (Z8 11 (dc 11 [3,3] [0] [b4] (TA rd bs p6 g gb rs f.params f.result 4 (Zt:=ob) (hv:=(by first|omega|(simp only [Yk,YD,X8];omega)))) ?_)))))))))
 rintro _ _ ⟨e3,p23,rfl,rfl,UU⟩
 have X2:=UU.1
 have TB:=UU.2
 try rw [Yk] at X2
 rw [hbv.2.1] at X2
 exact Z8 13 (W5 13 [] [] [ZO (Z0.mk 12 w []),ZO e3,ZO eQ] (Yb [Z0.mk 12 w [],e3,eQ]) (Xt [Z0.mk 12 w [],e3,eQ]).symm 3 3 fun v15=>Yh 2 2 [] [(134,Xb [Z0.mk 12 w [],e3,eQ])] (Z8 14 (Yp 14 [] [] [] (Xw 8 1 [Z0.mk 12 w [],e3,eQ]) (Z8 15 (Yy 15 4 [] [] b2 (YE (Z0.mk 8 1 [Z0.mk 12 w [],e3,eQ])) (de (ZK (r3 [2,2] [ZO (Z0.mk 8 1 [Z0.mk 12 w [],e3,eQ])] [0] [(b2,b2)] ⟨(Z0.mk 8 1 [Z0.mk 12 w [],e3,eQ]),p23,rfl,rfl,⟨GE.matchL hg (s1:=1) (s2:=30) (s3:=41) (GE.var om om om) X2 TC om,by omega⟩⟩ (lr _)))))))))
theorem S7 (rd:Nat) (bs:LI) (p:Nat) (g:XJ) (gb:Nat) (rs:List Func) (f:Func) (i:Int) (Zt:∀z∈bs,0<=z/\z<=255) (hp:p+1000<=1000000000:=by exact ob) (hg:GP g:=by exact ob) (XW:g.funcs <+: rs:=by exact ob) (hi:0<=i:=by exact ob) (hf:g.funcs[i.toNat]? = some f:=by exact ob) (h0:0<f.params.length:=by exact ob):Zf 229 [.p rd 0,.agg (XX g gb),.i i] [Yc rd bs p,Xu gb rs] (fun r h=>∃(e:Z0) (p2:Nat),r=ZO e/\h=[Yc rd bs p2,Xu gb rs]/\GE g f.params.length 200 e/\p<=p2/\p2<=p+1000):=by
 obtain ⟨hil,_⟩:=XA.1 hf
 have hgl:=hg.len
 have hso:=(hg.sigs f (ZW hf)).bd
 have hbv:=BB
 refine ZD 96 Tryz.func229 (ar (iA (XX g gb) fun b1=>iA [.i 0,.i 0,nl] fun b2=>ie (Zo 3 [1] (Zm (XS gb g.funcs.length 4 i.toNat 5 i) (Z2 1 (Vn (WD 3 gb 4 4 5 (i.toNat * 5+0) (Zc (X5 rs)) [Z6 f.params] 31 (Z6 f.params) (VE XW hf 0 rfl (Wx rfl))) (Z1 (Yg 1 (iw (Ye f.params) (Z1 (Yg 1 (Zu [] (UQ (f.params.length:Int)) (VF [ZO (Z0.mk 12 (f.params.length:Int) [])] (Yb [(Z0.mk 12 (f.params.length:Int) [])]) (Xt [(Z0.mk 12 (f.params.length:Int) [])]).symm 1 3 fun v1=>Z1 (Yg 1 (ia (((f.params.length+2:Nat):Int)) (((f.params.length:Int))+(2)) (Zu [] (UQ ((f.params.length+2:Nat):Int)) (VF [ZO (Z0.mk 12 ((f.params.length+2:Nat):Int) [])] (Yb [(Z0.mk 12 ((f.params.length+2:Nat):Int) [])]) (Xt [(Z0.mk 12 ((f.params.length+2:Nat):Int) [])]).symm 1 3 fun v2=>?_)))))))))))))))))
 refine Z1 (Y1 (ab 0 (Y0 (fun fz gz m F h=>∃(k:Nat) (ys:List Z0) (u:Value) (zs:List Z0) (w:Value),(1<=k/\k<=f.params.length)/\(ys.length=k)/\(zs.length=k)/\(∀e∈ys,GE g (f.params.length+3) 1 e)/\(∀e∈zs,GE g (f.params.length+3) 1 e)/\F=sF [0,2,4,6,7,8] fz [(9,Tj ys u),(10,Tj zs w),(11,.i k)]/\h=[Za gz 2,Za gz 3,Za gz 4,Za gz 5,.tail u 3,.tail w 3]/\m=f.params.length-k) _ _ _ ⟨1,[(Z0.mk 12 (f.params.length:Int) [])],v1,[(Z0.mk 12 ((f.params.length+2:Nat):Int) [])],v2,ob,ob,ob,(Et (GE.var om om om)),(Et (GE.var om om om)),rfl,rfl,rfl⟩ (wk [2,2,2,2,1,0] (fw (fc (x:=.i 1) li fl))) ?_)))
 rintro m F h ⟨k,ys,u,zs,w,Yf,Zi,Zr,YA,XZ,rfl,rfl,rfl⟩
 refine X7 (ZT ((k:Int)<(f.params.length:Int)) (fun Z9=>?_) (fun Z9=>?_))
 ·exact ak (aq (ab 1 (Yg 2 (Zu [] (UQ (k:Int)) (VF [ZO (Z0.mk 12 (k:Int) [])] (Yb [(Z0.mk 12 (k:Int) [])]) (Xt [(Z0.mk 12 (k:Int) [])]).symm 1 3 fun v3=>ZE 0 [(38,Xb [(Z0.mk 12 (k:Int) [])])] (ip 5 (Yb (ys++[(Z0.mk 12 (k:Int) [])])) (Yb ys) (Yb [(Z0.mk 12 (k:Int) [])]) u none 3 (U2 _) (U2 _) (QZ _) (by simp<;>omega) (by simp [QY,Yb]) fun v4=>Z1 (az (Z2 2 (Zu [] (UQ (k:Int)) (VF [ZO (Z0.mk 12 (k:Int) [])] (Yb [(Z0.mk 12 (k:Int) [])]) (Xt [(Z0.mk 12 (k:Int) [])]).symm 1 3 fun v5=>ZE 0 [(43,Xb [(Z0.mk 12 (k:Int) [])])] (ip 7 (Yb (zs++[(Z0.mk 12 (k:Int) [])])) (Yb zs) (Yb [(Z0.mk 12 (k:Int) [])]) w none 3 (U2 _) (U2 _) (QZ _) (by simp<;>omega) (by simp [QY,Yb]) fun v6=>Z1 (az (Z2 1 (ZG k (Z1 (ZI ⟨k+1,(ys++[(Z0.mk 12 (k:Int) [])]),v4,(zs++[(Z0.mk 12 (k:Int) [])]),v6,ob,ob,ob,(Xe YA (GE.var om om om)),(Xe XZ (GE.var om om om)),rfl,rfl,rfl⟩ (wk [4,4,4,4,2,0] (fw (ZL k fl)))))))))))))))))))
 refine ax 0 (ar (ZE 2 [(46,Xb ys)] (Zu [] (Xw 9 i ys) (iA [.i 0,.i 0,nl] fun b3=>ZA 0 b3 (YE (Z0.mk 9 i ys)) (ie (ar (ZE 2 [(49,Xb zs)] (Zu [] (Xw 9 i zs) (iA [.i 0,.i 0,nl] fun b4=>?_)))))))))
 refine ZA 0 b4 (YE (Z0.mk 9 i zs)) (ie (aD 14 (ZH 9 14 [0,1,2,3,7] [1,3,0] (Ky (fun fz gz F h=>∃(e1:Z0) (p21:Nat) (b5:Nat),(GE g (f.params++[3,0,3]).length (bS 4) e1/\p<=p21/\p21<=p+bC 4)/\F=sF [0,2,4,6,7,8,12] fz [(14,.p b5 0)]/\h=[.obj b5 (YE (Z0.mk 1 0 [Z0.mk 9 i ys,Z0.mk 1 0 [e1,Z0.mk 9 i zs]])),Yc rd bs p21,Za gz 5,Za gz 0,Za gz 1,Za gz 2,Za gz 3,Za gz 6,Za gz 7]) ?_ ?_))))
 ·refine WU 4 12 ?_ ?_
  ·refine dL 4 [0,3,1] [b4,b1,b3] (Z7 [3,0,3]) 3 1 fun v7=>Yh 8 8 [] [(55,Z6 [3,0,3])] (WU 5 12 ?_ ?_)
   ·refine dc 5 [] [0,3,1] [b4,b1,b3] (TI f.params [3,0,3]) ?_
    rintro _ _ ⟨v8,rfl,rfl⟩
    refine Yh 7 7 [] [(56,Z6 (f.params++[3,0,3]))] (WU 6 12 ?_ ?_)
    ·refine dc 6 [6,6] [0,1] [b4,b3] (TA rd bs p g gb rs (f.params++[3,0,3]) 0 4 (Zt:=ob) (hv:=(by first|omega|(simp only [Yk,YD,X8];omega)))) ?_
     rintro _ _ ⟨e1,p21,rfl,rfl,ZX⟩
     have X2:=ZX.1
     have TB:=ZX.2
     try rw [Yk] at X2
     rw [hbv.2.1] at X2
     refine WU 8 12 ?_ ?_
     ·refine W5 8 [3] [b3] [ZO e1,ZO (Z0.mk 9 i zs)] (Yb [e1,Z0.mk 9 i zs]) (Xt [e1,Z0.mk 9 i zs]).symm 2 3 fun v9=>Yh 5 5 [] [(59,Xb [e1,Z0.mk 9 i zs])] (WU 9 12 ?_ ?_)
      ·refine Yp 9 [] [3] [b3] (Xw 1 0 [e1,Z0.mk 9 i zs]) (WU 10 12 ?_ ?_)
       ·refine W5 10 [] [] [ZO (Z0.mk 9 i ys),ZO (Z0.mk 1 0 [e1,Z0.mk 9 i zs])] (Yb [Z0.mk 9 i ys,Z0.mk 1 0 [e1,Z0.mk 9 i zs]]) (Xt [Z0.mk 9 i ys,Z0.mk 1 0 [e1,Z0.mk 9 i zs]]).symm 2 3 fun v10=>Yh 3 3 [] [(61,Xb [Z0.mk 9 i ys,Z0.mk 1 0 [e1,Z0.mk 9 i zs]])] (WU 11 12 ?_ ?_)
        ·exact Yp 11 [] [] [] (Xw 1 0 [Z0.mk 9 i ys,Z0.mk 1 0 [e1,Z0.mk 9 i zs]]) (Z8 12 (dA 12 [] [] [.i 0,.i 0,nl] fun b5=>Z8 13 (Yy 13 0 [] [] b5 (YE (Z0.mk 1 0 [Z0.mk 9 i ys,Z0.mk 1 0 [e1,Z0.mk 9 i zs]])) (de (ZJ ⟨e1,p21,b5,(by assumption),rfl,rfl⟩ (wk [0,2,2,4,4,4,4,4,4] fl))))))
        exact dA 12 [] [] [.i 0,.i 0,nl] fun b6=>Z8 11 (Yp 11 [] [] [] (Xw 1 0 [Z0.mk 9 i ys,Z0.mk 1 0 [e1,Z0.mk 9 i zs]]) (Z8 13 (Yy 13 0 [] [] b6 (YE (Z0.mk 1 0 [Z0.mk 9 i ys,Z0.mk 1 0 [e1,Z0.mk 9 i zs]])) (de (ZJ ⟨e1,p21,b6,(by assumption),rfl,rfl⟩ (wk [0,2,2,4,4,4,4,4,4] fl))))))
       exact dA 12 [3] [b3] [.i 0,.i 0,nl] fun b7=>Z8 10 (W5 10 [] [] [ZO (Z0.mk 9 i ys),ZO (Z0.mk 1 0 [e1,Z0.mk 9 i zs])] (Yb [Z0.mk 9 i ys,Z0.mk 1 0 [e1,Z0.mk 9 i zs]]) (Xt [Z0.mk 9 i ys,Z0.mk 1 0 [e1,Z0.mk 9 i zs]]).symm 2 3 fun v11=>Yh 2 2 [] [(61,Xb [Z0.mk 9 i ys,Z0.mk 1 0 [e1,Z0.mk 9 i zs]])] (Z8 11 (Yp 11 [] [] [] (Xw 1 0 [Z0.mk 9 i ys,Z0.mk 1 0 [e1,Z0.mk 9 i zs]]) (Z8 13 (Yy 13 1 [] [] b7 (YE (Z0.mk 1 0 [Z0.mk 9 i ys,Z0.mk 1 0 [e1,Z0.mk 9 i zs]])) (de (ZJ ⟨e1,p21,b7,(by assumption),rfl,rfl⟩ (wk [0,2,2,4,4,4,4,4,4] fl))))))))
      exact dA 12 [3] [b3] [.i 0,.i 0,nl] fun b8=>Z8 9 (Yp 9 [] [4] [b3] (Xw 1 0 [e1,Z0.mk 9 i zs]) (Z8 10 (W5 10 [] [] [ZO (Z0.mk 9 i ys),ZO (Z0.mk 1 0 [e1,Z0.mk 9 i zs])] (Yb [Z0.mk 9 i ys,Z0.mk 1 0 [e1,Z0.mk 9 i zs]]) (Xt [Z0.mk 9 i ys,Z0.mk 1 0 [e1,Z0.mk 9 i zs]]).symm 2 3 fun v12=>Yh 2 2 [] [(61,Xb [Z0.mk 9 i ys,Z0.mk 1 0 [e1,Z0.mk 9 i zs]])] (Z8 11 (Yp 11 [] [] [] (Xw 1 0 [Z0.mk 9 i ys,Z0.mk 1 0 [e1,Z0.mk 9 i zs]]) (Z8 13 (Yy 13 1 [] [] b8 (YE (Z0.mk 1 0 [Z0.mk 9 i ys,Z0.mk 1 0 [e1,Z0.mk 9 i zs]])) (de (ZJ ⟨e1,p21,b8,(by assumption),rfl,rfl⟩ (wk [0,2,2,4,4,4,4,4,4] fl))))))))))
     exact dA 12 [2,3] [b4,b3] [.i 0,.i 0,nl] fun b9=>Z8 8 (W5 8 [4] [b3] [ZO e1,ZO (Z0.mk 9 i zs)] (Yb [e1,Z0.mk 9 i zs]) (Xt [e1,Z0.mk 9 i zs]).symm 2 3 fun v13=>Yh 4 4 [] [(59,Xb [e1,Z0.mk 9 i zs])] (Z8 9 (Yp 9 [] [4] [b3] (Xw 1 0 [e1,Z0.mk 9 i zs]) (Z8 10 (W5 10 [] [] [ZO (Z0.mk 9 i ys),ZO (Z0.mk 1 0 [e1,Z0.mk 9 i zs])] (Yb [Z0.mk 9 i ys,Z0.mk 1 0 [e1,Z0.mk 9 i zs]]) (Xt [Z0.mk 9 i ys,Z0.mk 1 0 [e1,Z0.mk 9 i zs]]).symm 2 3 fun v14=>Yh 2 2 [] [(61,Xb [Z0.mk 9 i ys,Z0.mk 1 0 [e1,Z0.mk 9 i zs]])] (Z8 11 (Yp 11 [] [] [] (Xw 1 0 [Z0.mk 9 i ys,Z0.mk 1 0 [e1,Z0.mk 9 i zs]]) (Z8 13 (Yy 13 2 [] [] b9 (YE (Z0.mk 1 0 [Z0.mk 9 i ys,Z0.mk 1 0 [e1,Z0.mk 9 i zs]])) (de (ZJ ⟨e1,p21,b9,(by assumption),rfl,rfl⟩ (wk [0,2,2,4,4,4,4,4,4] fl))))))))))))
    refine dA 12 [0,3,1] [b4,b1,b3] [.i 0,.i 0,nl] fun b10=>Z8 6 (dc 6 [7,7] [1,2] [b4,b3] (TA rd bs p g gb rs (f.params++[3,0,3]) 0 4 (Zt:=ob) (hv:=(by first|omega|(simp only [Yk,YD,X8];omega)))) ?_)
    rintro _ _ ⟨e2,p22,rfl,rfl,Y9⟩
    have X2:=Y9.1
    have TB:=Y9.2
    try rw [Yk] at X2
    rw [hbv.2.1] at X2
    exact Z8 8 (W5 8 [4] [b3] [ZO e2,ZO (Z0.mk 9 i zs)] (Yb [e2,Z0.mk 9 i zs]) (Xt [e2,Z0.mk 9 i zs]).symm 2 3 fun v15=>Yh 4 4 [] [(59,Xb [e2,Z0.mk 9 i zs])] (Z8 9 (Yp 9 [] [4] [b3] (Xw 1 0 [e2,Z0.mk 9 i zs]) (Z8 10 (W5 10 [] [] [ZO (Z0.mk 9 i ys),ZO (Z0.mk 1 0 [e2,Z0.mk 9 i zs])] (Yb [Z0.mk 9 i ys,Z0.mk 1 0 [e2,Z0.mk 9 i zs]]) (Xt [Z0.mk 9 i ys,Z0.mk 1 0 [e2,Z0.mk 9 i zs]]).symm 2 3 fun v16=>Yh 2 2 [] [(61,Xb [Z0.mk 9 i ys,Z0.mk 1 0 [e2,Z0.mk 9 i zs]])] (Z8 11 (Yp 11 [] [] [] (Xw 1 0 [Z0.mk 9 i ys,Z0.mk 1 0 [e2,Z0.mk 9 i zs]]) (Z8 13 (Yy 13 4 [] [] b10 (YE (Z0.mk 1 0 [Z0.mk 9 i ys,Z0.mk 1 0 [e2,Z0.mk 9 i zs]])) (de (ZJ ⟨e2,p22,b10,(by assumption),rfl,rfl⟩ (wk [0,2,2,4,4,4,4,4,4] fl))))))))))))
   refine dA 12 [0,3,1] [b4,b1,b3] [.i 0,.i 0,nl] fun b11=>Z8 5 (dc 5 [] [1,4,2] [b4,b1,b3] (TI f.params [3,0,3]) ?_)
   rintro _ _ ⟨v17,rfl,rfl⟩
   refine Yh 6 6 [] [(56,Z6 (f.params++[3,0,3]))] (Z8 6 (dc 6 [7,7] [1,2] [b4,b3] (TA rd bs p g gb rs (f.params++[3,0,3]) 0 4 (Zt:=ob) (hv:=(by first|omega|(simp only [Yk,YD,X8];omega)))) ?_))
   rintro _ _ ⟨e3,p23,rfl,rfl,YL⟩
   have X2:=YL.1
   have TB:=YL.2
   try rw [Yk] at X2
   rw [hbv.2.1] at X2
   exact Z8 8 (W5 8 [4] [b3] [ZO e3,ZO (Z0.mk 9 i zs)] (Yb [e3,Z0.mk 9 i zs]) (Xt [e3,Z0.mk 9 i zs]).symm 2 3 fun v18=>Yh 4 4 [] [(59,Xb [e3,Z0.mk 9 i zs])] (Z8 9 (Yp 9 [] [4] [b3] (Xw 1 0 [e3,Z0.mk 9 i zs]) (Z8 10 (W5 10 [] [] [ZO (Z0.mk 9 i ys),ZO (Z0.mk 1 0 [e3,Z0.mk 9 i zs])] (Yb [Z0.mk 9 i ys,Z0.mk 1 0 [e3,Z0.mk 9 i zs]]) (Xt [Z0.mk 9 i ys,Z0.mk 1 0 [e3,Z0.mk 9 i zs]]).symm 2 3 fun v19=>Yh 2 2 [] [(61,Xb [Z0.mk 9 i ys,Z0.mk 1 0 [e3,Z0.mk 9 i zs]])] (Z8 11 (Yp 11 [] [] [] (Xw 1 0 [Z0.mk 9 i ys,Z0.mk 1 0 [e3,Z0.mk 9 i zs]]) (Z8 13 (Yy 13 5 [] [] b11 (YE (Z0.mk 1 0 [Z0.mk 9 i ys,Z0.mk 1 0 [e3,Z0.mk 9 i zs]])) (de (ZJ ⟨e3,p23,b11,(by assumption),rfl,rfl⟩ (wk [0,2,2,4,4,4,4,4,4] fl))))))))))))
  refine dA 12 [0,3,1] [b4,b1,b3] [.i 0,.i 0,nl] fun b12=>Z8 4 (dL 4 [1,4,2] [b4,b1,b3] (Z7 [3,0,3]) 3 1 fun v20=>Yh 7 7 [] [(55,Z6 [3,0,3])] (Z8 5 (dc 5 [] [1,4,2] [b4,b1,b3] (TI f.params [3,0,3]) ?_)))
  rintro _ _ ⟨v21,rfl,rfl⟩
  refine Yh 6 6 [] [(56,Z6 (f.params++[3,0,3]))] (Z8 6 (dc 6 [7,7] [1,2] [b4,b3] (TA rd bs p g gb rs (f.params++[3,0,3]) 0 4 (Zt:=ob) (hv:=(by first|omega|(simp only [Yk,YD,X8];omega)))) ?_))
  rintro _ _ ⟨e4,p24,rfl,rfl,YX⟩
  have X2:=YX.1
  have TB:=YX.2
  try rw [Yk] at X2
  rw [hbv.2.1] at X2
  exact Z8 8 (W5 8 [4] [b3] [ZO e4,ZO (Z0.mk 9 i zs)] (Yb [e4,Z0.mk 9 i zs]) (Xt [e4,Z0.mk 9 i zs]).symm 2 3 fun v22=>Yh 4 4 [] [(59,Xb [e4,Z0.mk 9 i zs])] (Z8 9 (Yp 9 [] [4] [b3] (Xw 1 0 [e4,Z0.mk 9 i zs]) (Z8 10 (W5 10 [] [] [ZO (Z0.mk 9 i ys),ZO (Z0.mk 1 0 [e4,Z0.mk 9 i zs])] (Yb [Z0.mk 9 i ys,Z0.mk 1 0 [e4,Z0.mk 9 i zs]]) (Xt [Z0.mk 9 i ys,Z0.mk 1 0 [e4,Z0.mk 9 i zs]]).symm 2 3 fun v23=>Yh 2 2 [] [(61,Xb [Z0.mk 9 i ys,Z0.mk 1 0 [e4,Z0.mk 9 i zs]])] (Z8 11 (Yp 11 [] [] [] (Xw 1 0 [Z0.mk 9 i ys,Z0.mk 1 0 [e4,Z0.mk 9 i zs]]) (Z8 13 (Yy 13 6 [] [] b12 (YE (Z0.mk 1 0 [Z0.mk 9 i ys,Z0.mk 1 0 [e4,Z0.mk 9 i zs]])) (de (ZJ ⟨e4,p24,b12,(by assumption),rfl,rfl⟩ (wk [0,2,2,4,4,4,4,4,4] fl))))))))))))
 rintro F h ⟨e1,p21,b5,ZX,rfl,rfl⟩
 have X2:=ZX.1
 have TB:=ZX.2
 try rw [Yk] at X2
 rw [hbv.2.1] at X2
 refine Y6 3 [6] (Zm (XS gb g.funcs.length 4 i.toNat 5 i) (Z2 1 (Vn (WD 2 gb 4 4 5 (i.toNat * 5+1) (Zc (X5 rs)) [.i f.result] 3 (.i f.result) (VE XW hf 1 rfl (Wx rfl))) (Z1 (XC (fun fz gz F h=>∃(eQ:Z0) (p6:Nat),(GE g (f.params.length+3) 52 eQ)/\(p<=p6/\p6<=p+650)/\F=sF [0,2,4,6,7,14] fz []/\h=[.obj b5 (YE eQ),Yc rd bs p6,Za gz 2,Za gz 5,Za gz 6]) ?_ ?_)))))
 ·refine ac (f.result==3) Zz (fun Zg=>?_) (fun Zg=>?_)
  ·refine aE 13 (ZH 8 13 [0,1,2,3,7] [4,6] (da 8 (((f.params.length+2:Nat):Int)) (((f.params.length:Int))+(2)) (Z8 4 (dL 4 [6,4] [b1,b3] (Z7 [3,0,3]) 3 1 fun v24=>Yh 6 6 [] [(74,Z6 [3,0,3])] (Z8 5 (dc 5 [] [6,4] [b1,b3] (TI f.params [3,0,3]) ?_))))))
   rintro _ _ ⟨v25,rfl,rfl⟩
   refine Yh 5 5 [] [(75,Z6 (f.params++[3,0,3]))] (Z8 6 (dc 6 [3,3] [2] [b3] (TA rd bs p21 g gb rs (f.params++[3,0,3]) 0 4 (Zt:=ob) (hv:=(by first|omega|(simp only [Yk,YD,X8];omega)))) ?_))
   rintro _ _ ⟨e5,p25,rfl,rfl,X9⟩
   have X2:=X9.1
   have TB:=X9.2
   try rw [Yk] at X2
   rw [hbv.2.1] at X2
   exact Z8 9 (Yp 9 [] [4] [b3] (UQ ((f.params.length+2:Nat):Int)) (Z8 10 (W5 10 [] [] [ZO (Z0.mk 9 i ys),ZO e5,ZO (Z0.mk 12 ((f.params.length+2:Nat):Int) [])] (Yb [Z0.mk 9 i ys,e5,(Z0.mk 12 ((f.params.length+2:Nat):Int) [])]) (Xt [Z0.mk 9 i ys,e5,(Z0.mk 12 ((f.params.length+2:Nat):Int) [])]).symm 3 3 fun v26=>Yh 2 2 [] [(80,Xb [Z0.mk 9 i ys,e5,(Z0.mk 12 ((f.params.length+2:Nat):Int) [])])] (Z8 11 (Yp 11 [] [] [] (Xw 6 3 [Z0.mk 9 i ys,e5,(Z0.mk 12 ((f.params.length+2:Nat):Int) [])]) (Z8 12 (Yy 12 5 [] [] b5 (YE (Z0.mk 6 3 [Z0.mk 9 i ys,e5,(Z0.mk 12 ((f.params.length+2:Nat):Int) [])])) (de (ZJ ⟨(Z0.mk 6 3 [Z0.mk 9 i ys,e5,(Z0.mk 12 ((f.params.length+2:Nat):Int) [])]),p25,(GE.three (s1:=10) (s2:=30) (s3:=1) om om (GE.node (L:=f.params.length) (s:=1) (q:=10) om (fun _=>by omega) om YA om om om) X2 (GE.var om om om) om),ob,rfl,rfl⟩ (wk [0,1,1,5,5] fl))))))))))
  exact ak (ZJ ⟨(Z0.mk 1 0 [Z0.mk 9 i ys,Z0.mk 1 0 [e1,Z0.mk 9 i zs]]),p21,(GE.two (s1:=10) (s2:=41) om om (GE.node (L:=f.params.length) (s:=1) (q:=10) om (fun _=>by omega) om YA om om om) (GE.two (s1:=30) (s2:=10) om om X2 (GE.node (L:=f.params.length) (s:=1) (q:=10) om (fun _=>by omega) om XZ om om om) om) om),ob,rfl,rfl⟩ (wk [0,0,0,2,2] fl))
 rintro F h ⟨eQ,p6,V6,KS,rfl,rfl⟩
 refine aD 15 (ZH 9 15 [1,2,3,4,5,6] [4,4] (dx 7 (XS gb g.funcs.length 4 i.toNat 5 i) (Zk 7 8 [8] (Vu 9 (WD 2 gb 4 4 5 (i.toNat * 5+1) (Zc (X5 rs)) [.i f.result] 3 (.i f.result) (VE XW hf 1 rfl (Wx rfl))) (ZH 5 6 [11] [0] (Z8 0 (Yp 0 [] [0,2,4,4] [b5,gb,b1,b1] (UQ 0) (Z8 10 (dc 10 [1,1] [0] [b5] (TA rd bs p6 g gb rs f.params f.result 4 (Zt:=ob) (hv:=(by first|omega|(simp only [Yk,YD,X8];omega)))) ?_)))))))))
 rintro _ _ ⟨e6,p26,rfl,rfl,XV⟩
 have X2:=XV.1
 have TB:=XV.2
 try rw [Yk] at X2
 rw [hbv.2.1] at X2
 exact Z8 12 (W5 12 [] [] [ZO (Z0.mk 12 0 []),ZO e6,ZO eQ] (Yb [Z0.mk 12 0 [],e6,eQ]) (Xt [Z0.mk 12 0 [],e6,eQ]).symm 3 3 fun v27=>Yh 2 2 [] [(94,Xb [Z0.mk 12 0 [],e6,eQ])] (Z8 13 (Yp 13 [] [] [] (Xw 8 3 [Z0.mk 12 0 [],e6,eQ]) (Z8 14 (Yy 14 4 [] [] b2 (YE (Z0.mk 8 3 [Z0.mk 12 0 [],e6,eQ])) (de (ZK (r3 [2,2] [ZO (Z0.mk 8 3 [Z0.mk 12 0 [],e6,eQ])] [0] [(b2,b2)] ⟨(Z0.mk 8 3 [Z0.mk 12 0 [],e6,eQ]),p26,rfl,rfl,⟨GE.matchT hg (s1:=1) (s2:=30) (s3:=52) (GE.var om om om) X2 V6 om,by omega⟩⟩ (lr _)))))))))
theorem RB (rd:Nat) (bs:LI) (p:Nat) (g:XJ) (gb:Nat) (rs:List Func) (f:Func) (i:Int) (Zt:∀z∈bs,0<=z/\z<=255) (hp:p+1000<=1000000000:=by exact ob) (hg:GP g:=by exact ob) (XW:g.funcs <+: rs:=by exact ob) (hi:0<=i:=by exact ob) (hf:g.funcs[i.toNat]? = some f:=by exact ob) (h0:0<f.params.length:=by exact ob):Zf 230 [.p rd 0,.agg (XX g gb),.i i] [Yc rd bs p,Xu gb rs] (fun r h=>∃(e:Z0) (p2:Nat),r=ZO e/\h=[Yc rd bs p2,Xu gb rs]/\GE g f.params.length 200 e/\p<=p2/\p2<=p+1000):=by
 obtain ⟨hil,_⟩:=XA.1 hf
 have hgl:=hg.len
 have hso:=(hg.sigs f (ZW hf)).bd
 have hbv:=BB
 refine ZD 75 Tryz.func230 (ar (iA (XX g gb) fun b1=>iA [.i 0,.i 0,nl] fun b2=>ie (Zo 3 [1] (Zm (XS gb g.funcs.length 4 i.toNat 5 i) (Z2 1 (Vn (WD 3 gb 4 4 5 (i.toNat * 5+0) (Zc (X5 rs)) [Z6 f.params] 31 (Z6 f.params) (VE XW hf 0 rfl (Wx rfl))) (Z1 (ar (Zu [] (UQ 0) (Zu [] (KL 1) (VF [ZO (Z0.mk 12 0 []),ZO (Z0.mk 0 1 [])] (Yb [Z0.mk 12 0 [],Z0.mk 0 1 []]) (Xt [Z0.mk 12 0 [],Z0.mk 0 1 []]).symm 2 3 fun v1=>ZE 0 [(20,Xb [Z0.mk 12 0 [],Z0.mk 0 1 []])] (Zu [] (Xw 2 0 [Z0.mk 12 0 [],Z0.mk 0 1 []]) (VF [ZO (Z0.mk 2 0 [Z0.mk 12 0 [],Z0.mk 0 1 []])] (Yb [Z0.mk 2 0 [Z0.mk 12 0 [],Z0.mk 0 1 []]]) (Xt [Z0.mk 2 0 [Z0.mk 12 0 [],Z0.mk 0 1 []]]).symm 1 3 fun v2=>?_)))))))))))))
 refine Z1 (Y1 (ab 0 (Y0 (fun fz gz m F h=>∃(k:Nat) (ys:List Z0) (u:Value) (pq:Nat),(1<=k/\k<=f.params.length)/\(ys.length=k)/\(∀e∈ys,GE g f.params.length 4 e)/\(p<=pq/\pq<=p+30*k)/\F=sF [0,2,4,6,7] fz [(8,Tj ys u),(9,.i k)]/\h=[Za gz 2,Za gz 3,Yc rd bs pq,Za gz 5,.tail u 3]/\m=f.params.length-k) _ _ _ ⟨1,[Z0.mk 2 0 [Z0.mk 12 0 [],Z0.mk 0 1 []]],v2,p,ob,ob,(Et (GE.two (s1:=1) (s2:=1) om om (GE.var om om om) (GE.int om om) om)),ob,rfl,rfl,rfl⟩ (wk [2,2,2,2,0] (fr (fc (x:=.i 1) li fl))) ?_)))
 rintro m F h ⟨k,ys,u,pq,Yf,Zi,Zr,YA,rfl,rfl,rfl⟩
 refine X4 2 (iw (Ye f.params) (ZT ((k:Int)<(f.params.length:Int)) (fun Z9=>?_) (fun Z9=>?_)))
 ·refine ak (aq (ab 1 (aE 12 (ZH 6 12 [0,1,2,3,4,5] [1] ?_))))
  obtain ⟨x1,Z5⟩:=Zq f.params k om
  refine dx 6 (Zh none (k:Int) 1 (ZZ Z5)) (Zk 4 5 [7] (Z8 8 (dc 8 [2,2] [] [] (AY rd bs pq g gb rs f.params x1 (Zt:=ob)) ?_)))
  rintro _ _ ⟨e1,p21,rfl,rfl,ZX⟩
  have hle:=ZX.1
  exact Z8 9 (W5 9 [] [] [ZO e1] (Yb [e1]) (Xt [e1]).symm 1 3 fun v3=>Yh 2 2 [] [(38,Xb [e1])] (Z8 10 (dp 10 5 [] [] (Yb (ys++[e1])) (Yb ys) (Yb [e1]) u none 3 (U2 _) (U2 _) (QZ _) (by simp<;>omega) (by simp [QY,Yb]) fun v4=>Zk 0 1 [11] (de (az (Z2 1 (ZG k (Z1 (ZI ⟨k+1,(ys++[e1]),v4,p21,ob,ob,(Xe Zr hle),ob,rfl,rfl,rfl⟩ (wk [4,4,2,2,0] (fr (ZL k fl))))))))))))
 refine ax 0 (ar (ZE 2 [(41,Xb ys)] (Zu [] (Xw 9 i ys) (iA [.i 0,.i 0,nl] fun b3=>?_))))
 refine ZA 0 b3 (YE (Z0.mk 9 i ys)) (ie (Y6 3 [2] (Zm (XS gb g.funcs.length 4 i.toNat 5 i) (Z2 1 (Vn (WD 4 gb 4 4 5 (i.toNat * 5+1) (Zc (X5 rs)) [.i f.result] 3 (.i f.result) (VE XW hf 1 rfl (Wx rfl))) (Z1 (XC (fun fz gz F h=>∃(eQ:Z0) (p6:Nat),(GE g f.params.length 34 eQ)/\(p<=p6/\p6<=p+350)/\F=sF [0,2,4,6,7,10] fz []/\h=[.obj b3 (YE eQ),Za gz 1,Za gz 2,Yc rd bs p6,Za gz 4]) ?_ ?_)))))))
 ·refine ac (f.result==1) Zz (fun Zg=>?_) (fun Zg=>?_)
  ·refine aE 8 (ZH 4 8 [0,1,2,4] [2,0] (Z8 3 (dc 3 [3,3] [0] [b3] (TA rd bs pq g gb rs f.params 0 3 (Zt:=ob)) ?_)))
   rintro _ _ ⟨e2,p22,rfl,rfl,Y9⟩
   have X2:=Y9.1
   have TB:=Y9.2
   try rw [Yk] at X2
   first|rw [hbv.2.1] at X2|rw [hbv.1] at X2
   exact Z8 5 (W5 5 [] [] [ZO e2,ZO (Z0.mk 9 i ys)] (Yb [e2,Z0.mk 9 i ys]) (Xt [e2,Z0.mk 9 i ys]).symm 2 3 fun v5=>Yh 2 2 [] [(55,Xb [e2,Z0.mk 9 i ys])] (Z8 6 (Yp 6 [] [] [] (Xw 6 1 [e2,Z0.mk 9 i ys]) (Z8 7 (Yy 7 3 [] [] b3 (YE (Z0.mk 6 1 [e2,Z0.mk 9 i ys])) (de (ZJ ⟨(Z0.mk 6 1 [e2,Z0.mk 9 i ys]),p22,(GE.two (s1:=20) (s2:=13) om om X2 (GE.node (L:=f.params.length) (s:=4) (q:=13) om (fun _=>by omega) om Zr om om om) om),ob,rfl,rfl⟩ (wk [0,3,3,1,1] fl))))))))
  exact ak (ZJ ⟨(Z0.mk 9 i ys),pq,(GE.le (GE.node (L:=f.params.length) (s:=4) (q:=13) om (fun _=>by omega) om Zr om om om) om),ob,rfl,rfl⟩ (ZV 5 fl))
 rintro F h ⟨eQ,p6,V6,KS,rfl,rfl⟩
 refine ar (Zu [] (KL 0) (Zu [] (UQ 0) (VF [ZO (Z0.mk 0 0 []),ZO (Z0.mk 12 0 [])] (Yb [Z0.mk 0 0 [],Z0.mk 12 0 []]) (Xt [Z0.mk 0 0 [],Z0.mk 12 0 []]).symm 2 3 fun v6=>ZE 0 [(59,Xb [Z0.mk 0 0 [],Z0.mk 12 0 []])] (Zu [] (Xw 4 0 [Z0.mk 0 0 [],Z0.mk 12 0 []]) (iA [.i 0,.i 0,nl] fun b4=>ZA 0 b4 (YE (Z0.mk 4 0 [Z0.mk 0 0 [],Z0.mk 12 0 []])) (ie (aD 15 (ZH 7 15 [0,1,2,3,4,5,6,7] [0,2,4,4] (dx 8 (XS gb g.funcs.length 4 i.toNat 5 i) (Zk 5 6 [9] (Vu 10 (WD 6 gb 4 4 5 (i.toNat * 5+1) (Zc (X5 rs)) [.i f.result] 3 (.i f.result) (VE XW hf 1 rfl (Wx rfl))) (Z8 11 (dc 11 [5,5] [1,0] [b3,b4] (TA rd bs p6 g gb rs f.params f.result 4 (Zt:=ob)) ?_)))))))))))))
 rintro _ _ ⟨e3,p23,rfl,rfl,YL⟩
 have X2:=YL.1
 have TB:=YL.2
 try rw [Yk] at X2
 first|rw [hbv.2.1] at X2|rw [hbv.1] at X2
 exact Z8 12 (W5 12 [] [] [ZO (Z0.mk 4 0 [Z0.mk 0 0 [],Z0.mk 12 0 []]),ZO eQ,ZO e3] (Yb [Z0.mk 4 0 [Z0.mk 0 0 [],Z0.mk 12 0 []],eQ,e3]) (Xt [Z0.mk 4 0 [Z0.mk 0 0 [],Z0.mk 12 0 []],eQ,e3]).symm 3 3 fun v7=>Yh 2 2 [] [(73,Xb [Z0.mk 4 0 [Z0.mk 0 0 [],Z0.mk 12 0 []],eQ,e3])] (Z8 13 (Yp 13 [] [] [] (Xw 7 0 [Z0.mk 4 0 [Z0.mk 0 0 [],Z0.mk 12 0 []],eQ,e3]) (Z8 14 (Yy 14 6 [] [] b2 (YE (Z0.mk 7 0 [Z0.mk 4 0 [Z0.mk 0 0 [],Z0.mk 12 0 []],eQ,e3])) (de (ZK (r3 [2,2] [ZO (Z0.mk 7 0 [Z0.mk 4 0 [Z0.mk 0 0 [],Z0.mk 12 0 []],eQ,e3])] [0] [(b2,b2)] ⟨(Z0.mk 7 0 [Z0.mk 4 0 [Z0.mk 0 0 [],Z0.mk 12 0 []],eQ,e3]),p23,rfl,rfl,⟨GE.three (s1:=3) (s2:=34) (s3:=30) om om (GE.two (s1:=1) (s2:=1) om om (GE.int om om) (GE.var om om om) om) V6 X2 om,by omega⟩⟩ (lr _)))))))))
theorem Sb (xs:LI) (t:Int) (hl:xs.length<=1000:=by exact ob):Zf 225 [Z6 xs,.i t] [] (fun r h=>∃(w:Int),r=.i w/\h=[]/\-1<=w/\w<xs.length):=by
 refine ZD 19 Tryz.func225 (Ya (Y1 (ab 0 (Y0 (fun fz gz m F h=>∃(k:Nat),(k<=xs.length)/\F=sF [0,1] fz [(5,.i k)]/\h=gz/\m=xs.length-k) _ _ _ ⟨0,ob,rfl,rfl,rfl⟩ (wk [] (Yd fl)) ?_))))
 rintro m F h ⟨k,Yf,rfl,rfl,rfl⟩
 refine X4 2 (iw (Ye xs) (ZT ((k:Int)<(xs.length:Int)) (fun Z9=>?_) (fun Z9=>?_)))
 ·refine ak (aq (ab 1 (Yg 2 ?_)))
  obtain ⟨x1,Z5⟩:=Zq xs k om
  refine Zm (Zh none (k:Int) 1 (ZZ Z5)) (YR (x1==t) Zz (fun Zg=>?_) (fun Zg=>?_))
  ·exact ar (Zs (r1 [] ⟨(k:Int),rfl,rfl,ob⟩))
  exact ak (az (Z2 1 (ZG k (Z1 (ZI ⟨k+1,ob,rfl,rfl,rfl⟩ (wk [] (ZL k fl)))))))
 exact ax 0 (ar (Zs (r1 [] ⟨(-1),rfl,rfl,ob⟩)))
theorem Rj (rd:Nat) (bs:LI) (p:Nat) (g:XJ) (gb:Nat) (rs:List Func) (f:Func) (i:Int) (Zt:∀z∈bs,0<=z/\z<=255) (hp:p+90000<=1000000000) (hg:GP g) (XW:g.funcs <+: rs) (hi:0<=i) (hf:g.funcs[i.toNat]? = some f) (h0:i=0->f.params.length=0):Zf 177 [.p rd 0,.agg (XX g gb),.i i] [Yc rd bs p,Xu gb rs] (fun r h=>∃(e:Z0) (p2:Nat),r=ZO e/\h=[Yc rd bs p2,Xu gb rs]/\GE g f.params.length 30 e/\p<=p2/\p2<=p+90000):=by
 obtain ⟨hil,_⟩:=XA.1 hf
 have hgl:=hg.len
 have hso:=(hg.sigs f (ZW hf)).bd
 have hbv:=BB
 refine ZD 121 Tryz.func177 (ar (iA (XX g gb) fun b1=>iA [.i 0,.i 0,nl] fun b2=>ie (Zo 3 [1] (Zm (XS gb g.funcs.length 4 i.toNat 5 i) (Z2 1 (Vn (WD 3 gb 4 4 5 (i.toNat * 5+0) (Zc (X5 rs)) [Z6 f.params] 31 (Z6 f.params) (VE XW hf 0 rfl (Wx rfl))) (Z1 (Zo 3 [1] (Zm (XS gb g.funcs.length 4 i.toNat 5 i) (Z2 1 (Vn (WD 3 gb 4 4 5 (i.toNat * 5+1) (Zc (X5 rs)) [.i f.result] 3 (.i f.result) (VE XW hf 1 rfl (Wx rfl))) (Z1 (Yg 1 (ic [] (Sb f.params 1) ?_))))))))))))))
 rintro _ _ ⟨w1,rfl,rfl,ZX⟩
 have hpl:=ZX
 refine Z1 (ar (Zu [] (KL 0) (iA [.i 0,.i 0,nl] fun b3=>ZA 0 b3 (YE (Z0.mk 0 0 [])) (ie (Yg 1 (ic [3] (XN rd bs p 4 (Zt:=ob)) ?_))))))
 rintro _ _ ⟨k1,rfl,rfl,Y9⟩
 have qhp2:=Y9.lt om
 refine Z1 (aq (aq (XC (fun fz gz F h=>∃(wb:Bool),(wb=true->i=0)/\F=sF [0,2,4,6,7,8,9,10,11] fz [(34,.b wb)]/\h=gz) ?_ ?_)))
 ·refine az (Z2 3 (ib (b:=(decide (k1<3))) 31 (fun Zb=>?_) (fun Zb=>?_)))
  ·have YL:k1<3:=(dq).1 Zb
   exact Z1 (ZJ ⟨(i==0),(by first|exact (fun h=>Bool.noConfusion h)|(intro h;omega)|(intro h;simp at h;omega)),rfl,rfl⟩ (ZV 5 fl))
  have YX:¬(k1<3):=YS dq Zb
  exact Z1 (ZJ ⟨false,(by first|exact (fun h=>Bool.noConfusion h)|(intro h;omega)|(intro h;simp at h;omega)),rfl,rfl⟩ (ZV 5 fl))
 rintro F h ⟨wb,kR6_0,rfl,rfl⟩
 refine XC (fun fz gz F h=>∃(eQ:Z0) (p6:Nat),(GE g f.params.length 200 eQ)/\(p<=p6/\p6<=p+42000)/\F=sF [0,4,6,7,8,10] fz []/\h=[Yc rd bs p6,.obj b3 (YE eQ),Za gz 2,Za gz 3,Za gz 4]) ?_ ?_
 ·refine ac wb Iff.rfl (fun Z9=>?_) (fun Z9=>?_)
  ·refine az (ZU 2 [3] (ic [0,3] (RY rd bs (p+1) g gb rs (Zt:=ob)) ?_))
   rintro _ _ ⟨e1,p21,rfl,rfl,X9⟩
   have hbd:=X9.1
   have hbp:=X9.2
   exact ZA 2 b3 (YE e1) (ie (ZJ ⟨e1,p21,(by rw [h0 (kR6_0 (by assumption))];exact hbd),ob,rfl,rfl⟩ (wk [1,0,1,1,0] fl)))
  refine aq (XC (fun fz gz F h=>∃(wb:Bool),(wb=true->0<=w1)/\F=sF [0,2,4,6,7,8,9,10,11] fz [(51,.b wb)]/\h=gz) ?_ ?_)
  ·refine az (Z2 3 (ib (b:=(decide (k1<3))) 40 (fun ZP=>?_) (fun ZP=>?_)))
   ·have XV:k1<3:=(dq).1 ZP
    refine Z2 4 (ib (b:=(decide (w1>=0))) 44 (fun YW=>?_) (fun YW=>?_))
    ·have Wu:w1>=0:=(dq).1 YW
     refine Z2 3 (ib (b:=(f.result==0)) 47 (fun We=>?_) (fun We=>?_))
     ·have V5:f.result=0:=(Zz).1 We
      exact Z1 (ZJ ⟨true,(by first|exact (fun h=>Bool.noConfusion h)|(intro h;omega)|(intro h;simp at h;omega)),rfl,rfl⟩ (ZV 5 fl))
     have Vm:¬(f.result=0):=YS Zz We
     exact Z1 (ZJ ⟨(f.result==1),(by first|exact (fun h=>Bool.noConfusion h)|(intro h;omega)|(intro h;simp at h;omega)),rfl,rfl⟩ (ZV 5 fl))
    have US:¬(w1>=0):=YS dq YW
    exact Z1 (ZJ ⟨false,(by first|exact (fun h=>Bool.noConfusion h)|(intro h;omega)|(intro h;simp at h;omega)),rfl,rfl⟩ (ZV 5 fl))
   have UT:¬(k1<3):=YS dq ZP
   exact Z1 (ZJ ⟨false,(by first|exact (fun h=>Bool.noConfusion h)|(intro h;omega)|(intro h;simp at h;omega)),rfl,rfl⟩ (ZV 5 fl))
  rintro F h ⟨wb,kR8_0,rfl,rfl⟩
  refine ac wb Iff.rfl (fun Zg=>?_) (fun Zg=>?_)
  ·refine az (ZU 4 [3] (ic [0,3] (S6 rd bs (p+1) g gb rs _ i w1 (Zt:=ob) (hw:=(by have:=kR8_0 (by assumption);omega))) ?_))
   rintro _ _ ⟨e2,p22,rfl,rfl,UU⟩
   have hbd:=UU.1
   have hbp:=UU.2
   exact ZA 2 b3 (YE e2) (ie (ZJ ⟨e2,p22,(GE.le hbd om),ob,rfl,rfl⟩ (wk [1,0,1,1,0] fl)))
  refine aq (XC (fun fz gz F h=>∃(wb:Bool),(wb=true->0<f.params.length)/\F=sF [0,2,4,6,7,8,10,11] fz [(77,.b wb)]/\h=gz) ?_ ?_)
  ·refine az (Z2 3 (ib (b:=(decide (k1<3))) 59 (fun Uk=>?_) (fun Uk=>?_)))
   ·have QA:k1<3:=(dq).1 Uk
    refine Z2 1 (iw (Ye f.params) (Z2 3 (ib (b:=(decide ((f.params.length:Int)>0))) 64 (fun TU=>?_) (fun TU=>?_))))
    ·have Qi:(f.params.length:Int)>0:=(dq).1 TU
     refine Z2 1 ?_
     obtain ⟨x1,Z5⟩:=Zq f.params 0 om
     refine Zm (Zh none 0 1 (ZZ Z5)) (Z2 4 (ib (b:=(x1==3)) 70 (fun Aa=>?_) (fun Aa=>?_)))
     ·have Js:x1=3:=(Zz).1 Aa
      refine Z2 3 (ib (b:=(f.result==0)) 73 (fun KO=>?_) (fun KO=>?_))
      ·have KR:f.result=0:=(Zz).1 KO
       exact Z1 (ZJ ⟨true,(by first|exact (fun h=>Bool.noConfusion h)|(intro h;omega)|(intro h;simp at h;omega)),rfl,rfl⟩ (ZV 5 fl))
      have De:¬(f.result=0):=YS Zz KO
      exact Z1 (ZJ ⟨(f.result==3),(by first|exact (fun h=>Bool.noConfusion h)|(intro h;omega)|(intro h;simp at h;omega)),rfl,rfl⟩ (ZV 5 fl))
     have Ad:¬(x1=3):=YS Zz Aa
     exact Z1 (ZJ ⟨false,(by first|exact (fun h=>Bool.noConfusion h)|(intro h;omega)|(intro h;simp at h;omega)),rfl,rfl⟩ (ZV 5 fl))
    have Z6u:¬((f.params.length:Int)>0):=YS dq TU
    exact Z1 (ZJ ⟨false,(by first|exact (fun h=>Bool.noConfusion h)|(intro h;omega)|(intro h;simp at h;omega)),rfl,rfl⟩ (ZV 5 fl))
   have Z6v:¬(k1<3):=YS dq Uk
   exact Z1 (ZJ ⟨false,(by first|exact (fun h=>Bool.noConfusion h)|(intro h;omega)|(intro h;simp at h;omega)),rfl,rfl⟩ (ZV 5 fl))
  rintro F h ⟨wb,kR10_0,rfl,rfl⟩
  refine ac wb Iff.rfl (fun ZF=>?_) (fun ZF=>?_)
  ·refine az (ZU 3 [3] (ic [0,3] (S7 rd bs (p+1) g gb rs _ i (Zt:=ob) (h0:=(kR10_0 (by assumption)))) ?_))
   rintro _ _ ⟨e3,p23,rfl,rfl,Ix⟩
   have hbd:=Ix.1
   have hbp:=Ix.2
   exact ZA 2 b3 (YE e3) (ie (ZJ ⟨e3,p23,(GE.le hbd om),ob,rfl,rfl⟩ (wk [1,0,1,1,0] fl)))
  refine aq (XC (fun fz gz F h=>∃(wb:Bool),(wb=true->0<f.params.length)/\F=sF [0,2,4,6,7,8,10] fz [(102,.b wb)]/\h=gz) ?_ ?_)
  ·refine az (Z2 3 (ib (b:=(decide (k1<3))) 84 (fun KP=>?_) (fun KP=>?_)))
   ·have Z6w:k1<3:=(dq).1 KP
    refine Z2 1 (iw (Ye f.params) (Z2 3 (ib (b:=(decide ((f.params.length:Int)>0))) 89 (fun Fl=>?_) (fun Fl=>?_))))
    ·have Z6x:(f.params.length:Int)>0:=(dq).1 Fl
     refine Z2 1 ?_
     obtain ⟨x2,Zv⟩:=Zq f.params 0 om
     refine Zm (Zh none 0 1 (ZZ Zv)) (Z2 4 (ib (b:=(x2==0)) 95 (fun Fm=>?_) (fun Fm=>?_)))
     ·have Z6y:x2=0:=(Zz).1 Fm
      refine Z2 3 (ib (b:=(f.result==0)) 98 (fun Fo=>?_) (fun Fo=>?_))
      ·have Z6z:f.result=0:=(Zz).1 Fo
       exact Z1 (ZJ ⟨true,(by first|exact (fun h=>Bool.noConfusion h)|(intro h;omega)|(intro h;simp at h;omega)),rfl,rfl⟩ (ZV 5 fl))
      have Z70:¬(f.result=0):=YS Zz Fo
      exact Z1 (ZJ ⟨(f.result==1),(by first|exact (fun h=>Bool.noConfusion h)|(intro h;omega)|(intro h;simp at h;omega)),rfl,rfl⟩ (ZV 5 fl))
     have Z71:¬(x2=0):=YS Zz Fm
     exact Z1 (ZJ ⟨false,(by first|exact (fun h=>Bool.noConfusion h)|(intro h;omega)|(intro h;simp at h;omega)),rfl,rfl⟩ (ZV 5 fl))
    have Z72:¬((f.params.length:Int)>0):=YS dq Fl
    exact Z1 (ZJ ⟨false,(by first|exact (fun h=>Bool.noConfusion h)|(intro h;omega)|(intro h;simp at h;omega)),rfl,rfl⟩ (ZV 5 fl))
   have Z73:¬(k1<3):=YS dq KP
   exact Z1 (ZJ ⟨false,(by first|exact (fun h=>Bool.noConfusion h)|(intro h;omega)|(intro h;simp at h;omega)),rfl,rfl⟩ (ZV 5 fl))
  rintro F h ⟨wb,kR12_0,rfl,rfl⟩
  refine ac wb Iff.rfl (fun Yq=>?_) (fun Yq=>?_)
  ·refine az (ZU 3 [3] (ic [0,3] (RB rd bs (p+1) g gb rs _ i (Zt:=ob) (h0:=(kR12_0 (by assumption)))) ?_))
   rintro _ _ ⟨e4,p24,rfl,rfl,Iy⟩
   have hbd:=Iy.1
   have hbp:=Iy.2
   exact ZA 2 b3 (YE e4) (ie (ZJ ⟨e4,p24,(GE.le hbd om),ob,rfl,rfl⟩ (wk [1,0,1,1,0] fl)))
  refine az (ZU 4 [3] (ic [0,3] (Ic rd bs (p+1) g gb rs f.params f.result 18 (Zt:=ob)) ?_))
  rintro _ _ ⟨e5,p25,rfl,rfl,Iz⟩
  have hbd:=Iz.1
  have hbp:=Iz.2
  exact ZA 2 b3 (YE e5) (ie (ZJ ⟨e5,p25,(GE.le hbd om),ob,rfl,rfl⟩ (wk [1,0,1,1,0] fl)))
 rintro F h ⟨eQ,p6,Qj,Fw,rfl,rfl⟩
 refine Y6 1 [1] (ic [] (Ik eQ (hz:=(by have:=Qj.2;omega))) ?_)
 rintro _ _ ⟨w2,rfl,rfl,Sv⟩
 have Ft:=Sv
 have X6:=Qj.2
 refine ZT (w2<0) (fun XH=>?_) (fun XH=>?_)
 ·refine Zo 4 [3] (ic [0,3] (Ic rd bs p6 g gb rs f.params f.result 12 (Zt:=ob)) ?_)
  rintro _ _ ⟨e6,p26,rfl,rfl,IA⟩
  have hbd:=IA.1
  have hbp:=IA.2
  exact ZA 3 b2 (YE e6) (ie (ZK (r3 [1,1] [ZO e6] [0] [(b2,b2)] ⟨e6,p26,rfl,rfl,⟨hbd,by omega⟩⟩ (lr _))))
 exact ak (Zo 1 [1] (ZA 2 b2 (YE eQ) (ie (ZK (r3 [1,3] [ZO eQ] [0] [(b2,b2)] ⟨eQ,p6,rfl,rfl,⟨⟨Qj.1,by omega⟩,by omega⟩⟩ (lr _))))))
theorem UA (ps:LI) (rt:Int) :Zf 176 [Z6 ps,.i rt] [] (Yt (Bz (Func.mk ps rt (Z0.mk 0 0 [])))):=by
 exact ZD 8 Tryz.func176 (ar (iA [nl,.i 0,.i 0,.i 0,nl] fun b1=>ie (Yg 3 (ZA 0 b1 [Z6 ps,.i rt,.i 0,.i 0,nl] (ie (ZK (r3 [] [.agg [Z6 ps,.i rt,.i 0,.i 0,nl]] [0] [(b1,b1)] ⟨rfl,rfl⟩ (Ze.agg (.cons (Ze.sl _ (Ys Z7 ob)) (.cons li (.cons li (.cons li (.cons (Ze.sl _ rfl) .nil)))))))))))))
theorem S5 (rd:Nat) (bs:LI) (p:Nat) (xs:LI) (Zt:∀z∈bs,0<=z/\z<=255) (hp:p+1<=1000000000:=by exact ob) (hx:0<xs.length/\xs.length<=1000000:=by exact ob) (hy:xs.all (fun x=>decide (0<=x))=true:=by exact ob):Zf 62 [.p rd 0,Z6 xs] [Yc rd bs p] (fun r h=>∃(nn:Nat),r=.i nn/\h=[.obj rd [V7 bs,.i (p+1:Nat)]]/\(nn:Int)∈xs):=(WW rd bs p xs Zt hp hx).mono fun r h ⟨z,hr,hh,hz⟩=>by
  have h0:0<=z:=of_decide_eq_true (Kh.1 hy z hz)
  exact ⟨z.toNat,by rw [hr,Int.toNat_of_nonneg h0],hh,by rw [Int.toNat_of_nonneg h0];exact hz⟩
theorem Rk (rd:Nat) (bs:LI) (p:Nat) (g:XJ) (gb:Nat) (rs:List Func) (f:Func) (i:Int) (nl:Nat) (Zt:∀z∈bs,0<=z/\z<=255) (hp:p+90000<=1000000000:=by exact ob) (hg:GP g:=by exact ob) (XW:g.funcs <+: rs:=by exact ob) (hi:0<=i:=by exact ob) (hf:g.funcs[i.toNat]? = some f:=by exact ob) (h0:i=0->f.params.length=0:=by exact ob) (hn:g.funcs.length=nl:=by exact ob):Zf 177 [.p rd 0,.agg [YM g.decls,.ms gb 0 nl 4],.i i] [Yc rd bs p,Xu gb rs] (fun r h=>∃(e:Z0) (p2:Nat),r=ZO e/\h=[Yc rd bs p2,Xu gb rs]/\GE g f.params.length 30 e/\p<=p2/\p2<=p+90000):=(by subst hn;exact Rj rd bs p g gb rs f i Zt hp hg XW hi hf h0)
theorem RI (rd:Nat) (bs:LI) (p:Nat) (Zt:∀z∈bs,0<=z/\z<=255) (hp:p+400000<=1000000000):Zf 134 [.p rd 0] [Yc rd bs p] (fun r h=>∃(rs:List Func) (ds:List Zd) (m:Nat) (gb:Nat) (p2:Nat),r=.agg [YM ds,.ms gb 0 m 4]/\h=[Xu gb rs,Yc rd bs p2]/\(GL ds m 0 rs/\GD ds/\1<=m/\m<=4)/\p<=p2/\p2<=p+400000):=by
 refine ZD 110 Tryz.func134 (ar (iA [nl,nl] fun b1=>ie (Yg 1 (ic [1] (RG rd bs p (Zt:=ob)) ?_))))
 rintro _ _ ⟨ds1,v1,rfl,rfl,ZX⟩
 have hgd:=ZX
 refine Z2 1 (iA [nl,nl] fun b2=>ZA 0 b2 [K7 ds1 v1,nl] (ie (ar (iL (Z7 [1]) 1 1 fun v2=>ZE 0 [(13,Z6 [1])] (Zu [] (UA [1] 0) (iL (Z7 [1,1]) 2 1 fun v3=>ZE 0 [(15,Z6 [1,1])] (Zu [] (UA [1,1] 1) (iL (Z7 [1]) 1 1 fun v4=>ZE 0 [(17,Z6 [1])] (Zu [] (UA [1] 1) (iL (Z7 [1,0]) 2 1 fun v5=>ZE 0 [(19,Z6 [1,0])] (Zu [] (UA [1,0] 1) (iL (Z7 [2,1]) 2 1 fun v6=>ZE 0 [(21,Z6 [2,1])] (Zu [] (UA [2,1] 1) (iL (Z7 [1,1]) 2 1 fun v7=>ZE 0 [(23,Z6 [1,1])] (Zu [] (UA [1,1] 0) (iL (X5 [Func.mk [1] 0 (Z0.mk 0 0 []),Func.mk [1,1] 1 (Z0.mk 0 0 []),Func.mk [1] 1 (Z0.mk 0 0 []),Func.mk [1,0] 1 (Z0.mk 0 0 []),Func.mk [2,1] 1 (Z0.mk 0 0 []),Func.mk [1,1] 0 (Z0.mk 0 0 [])]) 6 5 fun v8=>Z1 (ar (iL (Z7 [3]) 1 1 fun v9=>ZE 0 [(26,Z6 [3])] (Zu [] (UA [3] 0) (iL (Z7 [0]) 1 1 fun v10=>ZE 0 [(28,Z6 [0])] (Zu [] (UA [0] 1) (iL (Z7 [0,1]) 2 1 fun v11=>ZE 0 [(30,Z6 [0,1])] (Zu [] (UA [0,1] 1) (iL (Z7 [3,0]) 2 1 fun v12=>ZE 0 [(32,Z6 [3,0])] (Zu [] (UA [3,0] 3) (iL (Z7 [3]) 1 1 fun v13=>ZE 0 [(34,Z6 [3])] (Zu [] (UA [3] 1) (iL (Z7 [1,3,0]) 3 1 fun v14=>ZE 0 [(36,Z6 [1,3,0])] (Zu [] (UA [1,3,0] 0) (iL (X5 [Func.mk [3] 0 (Z0.mk 0 0 []),Func.mk [0] 1 (Z0.mk 0 0 []),Func.mk [0,1] 1 (Z0.mk 0 0 []),Func.mk [3,0] 3 (Z0.mk 0 0 []),Func.mk [3] 1 (Z0.mk 0 0 []),Func.mk [1,3,0] 0 (Z0.mk 0 0 [])]) 6 5 fun v15=>Z1 (ar (iL (Z7 [0]) 1 1 fun v16=>ZE 0 [(39,Z6 [0])] (Zu [] (UA [0] 0) (iL (Z7 [0,0]) 2 1 fun v17=>ZE 0 [(41,Z6 [0,0])] (Zu [] (UA [0,0] 0) (iL (Z7 [1,0]) 2 1 fun v18=>ZE 0 [(43,Z6 [1,0])] (Zu [] (UA [1,0] 0) (iL (Z7 [0]) 1 1 fun v19=>ZE 0 [(45,Z6 [0])] (Zu [] (UA [0] 1) (iL (X5 [Func.mk [0] 0 (Z0.mk 0 0 []),Func.mk [0,0] 0 (Z0.mk 0 0 []),Func.mk [1,0] 0 (Z0.mk 0 0 []),Func.mk [0] 1 (Z0.mk 0 0 [])]) 4 5 fun v20=>Z1 (aD 26 (Zk 23 26 [2,3,4] (dn 5 (.i (([Func.mk [1] 0 (Z0.mk 0 0 []),Func.mk [1,1] 1 (Z0.mk 0 0 []),Func.mk [1] 1 (Z0.mk 0 0 []),Func.mk [1,0] 1 (Z0.mk 0 0 []),Func.mk [2,1] 1 (Z0.mk 0 0 []),Func.mk [1,1] 0 (Z0.mk 0 0 [])].length:Nat):Int)) (.i (((X5 [Func.mk [1] 0 (Z0.mk 0 0 []),Func.mk [1,1] 1 (Z0.mk 0 0 []),Func.mk [1] 1 (Z0.mk 0 0 []),Func.mk [1,0] 1 (Z0.mk 0 0 []),Func.mk [2,1] 1 (Z0.mk 0 0 []),Func.mk [1,1] 0 (Z0.mk 0 0 [])]).length:Nat):Int)) (li (by rw [AQ])) (Zk 19 22 [9,10,11] (dn 12 (.i (([Func.mk [3] 0 (Z0.mk 0 0 []),Func.mk [0] 1 (Z0.mk 0 0 []),Func.mk [0,1] 1 (Z0.mk 0 0 []),Func.mk [3,0] 3 (Z0.mk 0 0 []),Func.mk [3] 1 (Z0.mk 0 0 []),Func.mk [1,3,0] 0 (Z0.mk 0 0 [])].length:Nat):Int)) (.i (((X5 [Func.mk [3] 0 (Z0.mk 0 0 []),Func.mk [0] 1 (Z0.mk 0 0 []),Func.mk [0,1] 1 (Z0.mk 0 0 []),Func.mk [3,0] 3 (Z0.mk 0 0 []),Func.mk [3] 1 (Z0.mk 0 0 []),Func.mk [1,3,0] 0 (Z0.mk 0 0 [])]).length:Nat):Int)) (li (by rw [AQ])) (Zk 15 18 [16,17,18] (dn 19 (.i (([Func.mk [0] 0 (Z0.mk 0 0 []),Func.mk [0,0] 0 (Z0.mk 0 0 []),Func.mk [1,0] 0 (Z0.mk 0 0 []),Func.mk [0] 1 (Z0.mk 0 0 [])].length:Nat):Int)) (.i (((X5 [Func.mk [0] 0 (Z0.mk 0 0 []),Func.mk [0,0] 0 (Z0.mk 0 0 []),Func.mk [1,0] 0 (Z0.mk 0 0 []),Func.mk [0] 1 (Z0.mk 0 0 [])]).length:Nat):Int)) (li (by rw [AQ])) (Z8 0 (dL 0 [] [] (Z7 []) 0 1 fun v21=>Yh 13 13 [] [(48,Z6 [])] (Z8 1 (Yp 1 [] [] [] (UA [] 0) (Z8 6 (dc 6 [22] [] [] (XN rd bs (p+1) (([Func.mk [1] 0 (Z0.mk 0 0 []),Func.mk [1,1] 1 (Z0.mk 0 0 []),Func.mk [1] 1 (Z0.mk 0 0 []),Func.mk [1,0] 1 (Z0.mk 0 0 []),Func.mk [2,1] 1 (Z0.mk 0 0 []),Func.mk [1,1] 0 (Z0.mk 0 0 [])].length:Nat):Int) (Zt:=ob)) ?_)))))))))))))))))))))))))))))))))))))))))))))))))))))
 rintro _ _ ⟨k1,rfl,rfl,Y9⟩
 have qhp2:=Y9.lt (by simp)
 simp only [YD,X8] at qhp2
 obtain ⟨x1,Z5⟩:=Zq [Func.mk [1] 0 (Z0.mk 0 0 []),Func.mk [1,1] 1 (Z0.mk 0 0 []),Func.mk [1] 1 (Z0.mk 0 0 []),Func.mk [1,0] 1 (Z0.mk 0 0 []),Func.mk [2,1] 1 (Z0.mk 0 0 []),Func.mk [1,1] 0 (Z0.mk 0 0 [])] k1.toNat (by simp only [YD,X8];omega)
 refine dx 7 (Zh (some v8) k1 5 (CV Z5)) (Zk 9 10 [8] (Z8 13 (dc 13 [0] [] [] (XN rd bs ((p+1)+1) (([Func.mk [3] 0 (Z0.mk 0 0 []),Func.mk [0] 1 (Z0.mk 0 0 []),Func.mk [0,1] 1 (Z0.mk 0 0 []),Func.mk [3,0] 3 (Z0.mk 0 0 []),Func.mk [3] 1 (Z0.mk 0 0 []),Func.mk [1,3,0] 0 (Z0.mk 0 0 [])].length:Nat):Int) (Zt:=ob)) ?_)))
 rintro _ _ ⟨k2,rfl,rfl,YL⟩
 have qhp3:=YL.lt (by simp)
 simp only [YD,X8] at qhp3
 obtain ⟨x2,Zv⟩:=Zq [Func.mk [3] 0 (Z0.mk 0 0 []),Func.mk [0] 1 (Z0.mk 0 0 []),Func.mk [0,1] 1 (Z0.mk 0 0 []),Func.mk [3,0] 3 (Z0.mk 0 0 []),Func.mk [3] 1 (Z0.mk 0 0 []),Func.mk [1,3,0] 0 (Z0.mk 0 0 [])] k2.toNat (by simp only [YD,X8];omega)
 refine dx 14 (Zh (some v15) k2 5 (CV Zv)) (Zk 6 7 [15] (Z8 20 (dc 20 [0] [] [] (XN rd bs (((p+1)+1)+1) (([Func.mk [0] 0 (Z0.mk 0 0 []),Func.mk [0,0] 0 (Z0.mk 0 0 []),Func.mk [1,0] 0 (Z0.mk 0 0 []),Func.mk [0] 1 (Z0.mk 0 0 [])].length:Nat):Int) (Zt:=ob)) ?_)))
 rintro _ _ ⟨k3,rfl,rfl,YX⟩
 have qhp4:=YX.lt (by simp)
 simp only [YD,X8] at qhp4
 obtain ⟨x3,X3⟩:=Zq [Func.mk [0] 0 (Z0.mk 0 0 []),Func.mk [0,0] 0 (Z0.mk 0 0 []),Func.mk [1,0] 0 (Z0.mk 0 0 []),Func.mk [0] 1 (Z0.mk 0 0 [])] k3.toNat (by simp only [YD,X8];omega)
 refine dx 21 (Zh (some v20) k3 5 (CV X3)) (Zk 3 4 [22] (Z8 23 (Pd 23 [] [] (Zc (X5 [Func.mk [] 0 (Z0.mk 0 0 []),x1,x2,x3])) 4 5 fun g1=>Zk 1 2 [24] (Z8 25 (Yy 25 22 [] [] b2 [K7 ds1 v1,.ms g1 0 4 4] (de (Yg 1 (iL (Z7 [4,4,3,2,4]) 5 1 fun v22=>ZE 0 [(74,Z6 [4,4,3,2,4])] (ic [3] (S5 rd bs ((((p+1)+1)+1)+1) [4,4,3,2,4] (Zt:=ob) (hy:=(by decide))) ?_)))))))))
 rintro _ _ ⟨nn1,rfl,rfl,X9⟩
 have hnn:=Z1k (a:=2) (b:=4) X9 (by decide)
 refine Z1 (Zo 3 [2] (Zm (Fy 3 g1 4 4 nn1 5 (Zc (X5 [Func.mk [] 0 (Z0.mk 0 0 []),x1,x2,x3]))) (Z2 1 (ZA 2 b2 [K7 ds1 v1,.ms g1 0 nn1 4] (ie (X4 1 (ia (((nn1:Int)-1)) (((nn1:Int))-(1)) (Z1 (ab 0 (Y0 (fun fz gz m F h=>∃(j:Nat) (rq:List Func) (pq:Nat),(j<=nn1)/\(GL ds1 nn1 j rq)/\(p<=pq/\pq+90000*j<=p+10+90000*nn1)/\F=sF [0,2,3] fz [(8,.i ((j:Int)-1))]/\h=[Za gz 0,Yc rd bs pq,Za gz 25,Za gz 24,Xu g1 rq]/\m=j+1) _ _ _ ⟨nn1,[Func.mk [] 0 (Z0.mk 0 0 []),x1,x2,x3],((((p+1)+1)+1)+1)+1,ob,(GL.start (Gk Z5 (by decide)) (Gk Zv (by decide)) (Gk X3 (by decide))),ob,rfl,rfl,rfl⟩ (wk [0,0,23,22,1] fl) ?_))))))))))
 rintro m F h ⟨j,rq,pq,Yf,Zi,Zr,rfl,rfl,rfl⟩
 refine X7 (ZT (((j:Int)-1)>=0) (fun Z9=>?_) (fun Z9=>?_))
 ·obtain ⟨f1,hf1⟩:=Zq (rq.take nn1) (((j:Int)-1).toNat) (by rw [Zi.len_take om];omega)
  have hfq:rq[j-1]? = some f1:=by have h:=hf1;rw [show ((j:Int)-1).toNat=j-1 by omega,List.getElem?_take_of_lt om] at h;exact h
  refine ak (aq (ab 1 (ar (TZ 3 [(88,.agg [YM ds1,.ms g1 0 nn1 4])] [0] (ic [1,3] (Rk rd bs pq (XJ.mk ds1 (rq.take nn1)) g1 rq f1 ((j:Int)-1) nn1 (Zt:=ob) (hg:=(Zi.gp hgd om)) (XW:=(List.take_prefix nn1 rq)) (hf:=hf1) (h0:=(fun h=>Zi.zero f1 (by rw [<-hfq,show j-1=0 by omega]))) (hn:=(Zi.len_take om))) ?_)))))
  rintro _ _ ⟨e1,p21,rfl,rfl,XV⟩
  have hbw:eW ds1 nn1 f1.params.length e1/\(e1).sz<=30:=by have h:=XV.1;unfold GE at h;rw [show (XJ.mk ds1 (rq.take nn1)).funcs.length=nn1 from Zi.len_take om] at h;exact h
  exact iA [.i 0,.i 0,nl] fun b3=>ZA 0 b3 (YE e1) (ie (aE 19 (ZH 13 19 [0,1,2,3,4,5] [3,3] (dx 6 (XS g1 nn1 4 (((j:Int)-1).toNat) 5 ((j:Int)-1)) (Zk 11 12 [7] (Vu 8 (WD 2 g1 4 4 5 ((((j:Int)-1).toNat)*5+0) (Zc (X5 rq)) [Z6 f1.params] 31 (Z6 f1.params) (VE (List.take_prefix nn1 rq) hf1 0 rfl (Wx rfl))) (ZH 7 10 [9,10,11] [3] (dx 12 (XS g1 nn1 4 (((j:Int)-1).toNat) 5 ((j:Int)-1)) (Zk 5 6 [13] (Vu 14 (WD 2 g1 4 4 5 ((((j:Int)-1).toNat)*5+1) (Zc (X5 rq)) [.i f1.result] 3 (.i f1.result) (VE (List.take_prefix nn1 rq) hf1 1 rfl (Wx rfl))) (ZH 2 4 [15,16] [0] (dx 17 (XS g1 nn1 4 (((j:Int)-1).toNat) 5 ((j:Int)-1)) (Z8 18 (JW 18 2 [] [] g1 4 4 5 ((((j:Int)-1).toNat)*5) [Z6 f1.params,.i f1.result,.i e1.op,.i e1.num,Xb e1.kids] (Zc (X5 rq)) (Zc (X5 (rq.set ((j:Int)-1).toNat ⟨f1.params,f1.result,e1⟩))) (by rw [F8,Zi.len];simp only [YD,X8];omega) (PZ ⟨f1.params,f1.result,e1⟩ (by rw [Zi.len];omega)) (de (az (Z2 1 (ia ((((j:Int)-1)-1)) (((j:Int)-1)-(1)) (Z1 (ZI ⟨(j-1),(rq.set ((j:Int)-1).toNat ⟨f1.params,f1.result,e1⟩),p21,ob,(by rw [show ((j:Int)-1).toNat=j-1 by omega];exact Zi.set om hfq hbw),ob,rfl,rfl,rfl⟩ (wk [3,2,2,2,0] (fc (x:=.i (((j:Int)-1)-1)) li fl))))))))))))))))))))))
 exact ax 0 (Zo 1 [0] (ZA 2 b1 [K7 ds1 v1,.ms g1 0 nn1 4] (ie (ZK (r3 [4,2] [.agg [K7 ds1 v1,.ms g1 0 nn1 4]] [0] [(b1,b1)] ⟨rq,ds1,nn1,g1,pq,rfl,rfl,⟨⟨by rw [show j=0 by omega] at Zi;exact Zi,hgd,by omega,by omega⟩,by omega⟩⟩ (Ze.agg (.cons (Ze.forget _ _) (.cons (lr _) .nil))))))))
theorem RH (rd:Nat) (bs:LI) (p:Nat) (Zt:∀z∈bs,0<=z/\z<=255) (hp:p+400000<=1000000000:=by exact ob):Zf 134 [.p rd 0] [Yc rd bs p] (fun r h=>∃(g:XJ) (p2:Nat),r=Kq g/\h=[Yc rd bs p2]/\Eh g/\p<=p2/\p2<=p+400000):=(W3.frzP (E:=List Func × List Zd × Nat × Nat) (ds:=fun e=>e.2.1) (rs:=fun e=>e.1) (m:=fun e=>e.2.2.1) (hs:=fun e=>[.obj rd [V7 bs,.i (e.2.2.2:Nat)]]) (Q:=fun e=>(GL e.2.1 e.2.2.1 0 e.1/\GD e.2.1/\1<=e.2.2.1/\e.2.2.1<=4)/\p<=e.2.2.2/\e.2.2.2<=p+400000)
  ((RI rd bs p Zt hp).mono fun r h ⟨rs,ds,m,gb,p2,hr,hh,hq⟩=>⟨(rs,ds,m,p2),gb,hr,hh,hq⟩) fun e hq=>⟨hq.1.2.2.2,hq.1.1.len⟩).mono
  fun r h ⟨e,hr,hh,hq⟩=>⟨⟨e.2.1,e.1.take e.2.2.1⟩,e.2.2.2,hr,hh,hq.1.1.done hq.1.2.1 hq.1.2.2,hq.2⟩
theorem Fh (a:Nat) (n:Nat) (ha:a<=1000000:=by exact ob) (hn:n<=1000000:=by exact ob):Zf 175 [.i a,.i n] [] (fun r h=>∃(xs:LI),r=Z6 xs/\h=[]/\xs.length=n/\∀i∈xs,(a:Int)<=i/\i<(a:Int)+n):=by
 refine ZD 20 Tryz.func175 (Ya (ar (iL (Z7 []) 0 1 fun v1=>?_)))
 refine Z1 (Y1 (ab 0 (Y0 (fun fz gz m F h=>∃(k:Nat) (ys:LI) (u:Value),(k<=n)/\(ys.length=k)/\(∀i∈ys,(a:Int)<=i/\i<(a:Int)+n)/\F=sF [0,1] fz [(5,ZQ ys u),(6,.i k)]/\h=[.tail u 1]/\m=n-k) _ _ _ ⟨0,[],v1,ob,ob,(fun i hi=>by cases hi),rfl,rfl,rfl⟩ (wk [0] (fr (Yd fl))) ?_)))
 rintro m F h ⟨k,ys,u,Yf,Zi,Zr,rfl,rfl,rfl⟩
 refine X7 (ZT ((k:Int)<(n:Int)) (fun Z9=>?_) (fun Z9=>?_))
 ·exact ak (aq (ab 1 (az (Z2 3 (ia (((a+k:Nat):Int)) (((a:Int))+((k:Int))) (iL (Z7 [((a+k:Nat):Int)]) 1 1 fun v2=>ZE 0 [(17,Z6 [((a+k:Nat):Int)])] (ip 1 (Z7 (ys++[((a+k:Nat):Int)])) (Z7 ys) (Z7 [((a+k:Nat):Int)]) u none 1 (Yw _) (Yw _) (XT _) (by simp<;>omega) (by simp [XR,Z7]) fun v3=>Z1 (az (Z2 1 (ZG k (Z1 (ZI ⟨k+1,(ys++[((a+k:Nat):Int)]),v3,ob,ob,(Xe Zr om),rfl,rfl,rfl⟩ (wk [0] (fr (ZL k fl)))))))))))))))
 exact ax 0 (ar (Zs (r2 [] [ZQ ys u] ⟨ys,rfl,rfl,⟨by omega,Zr⟩⟩ (Ze.forget _ _))))
theorem I8 (l:Nat) (xs:List Z3) (w:Value) (q:Nat) (s:Z3) (hl:xs.length<=4000000000:=by exact ob) (hq:q<=1000000:=by exact ob):Zf 269 [.p l 0,Ym s] [.obj l [YG xs w,.i q],.tail w 5] (fun r h=>∃(w2:Value),r=.i q/\h=[.obj l [YG (xs++[s]) w2,.i (((q+1):Nat):Int)],.tail w2 5]):=by
 exact ZD 28 Tryz.func269 (ar (iA (Xf s) fun b1=>Z1 (aD 11 (ZH 5 11 [0,1,2,3,4,5] [1,0] (Z8 6 (W5 6 [1] [l] [Ym s] (Zj [s]) (WO [s]).symm 1 5 fun v1=>Yh 4 4 [] [(11,Wp [s])] (Z8 7 (dp 7 3 [] [] (Zj (xs++[s])) (Zj xs) (Zj [s]) w none 5 (X1 _) (X1 _) (V4 _) (by simp<;>omega) (by simp [Wj,Zj]) fun v2=>Zk 1 3 [8,9] (Z8 10 (Yy 10 3 [] [] l [YG (xs++[s]) v2,.i q] (de (Zo 5 [0] (ZG q (Z2 2 (ZA 0 l [YG (xs++[s]) v2,.i (q+1:Nat)] (ie (Zo 4 [0] (ia ((((q+1:Nat):Int)-1)) ((((q+1:Nat):Int))-(1)) (Zs (r2 [0,0] [.i (((q+1:Nat):Int)-1)] ⟨v2,rfl,rfl⟩ li))))))))))))))))))))
theorem Ij (g:XJ) (e:Z0) (us:LI) (q:Nat) (bb:Nat) (he:eW g.decls g.funcs.length us.length e:=by exact ob) (hu:∀a∈us,0<=a/\a<(q:Int)) (hul:us.length+4*e.sz<=100000:=by exact ob) (hql:q+6*e.sz<=100000:=by exact ob) (hb:e.sz<bb:=by exact ob) (ih:∀(l:Nat) (e2:Z0) (us2:LI) (xs2:List Z3) (w2:Value) (q2:Nat),(eW g.decls g.funcs.length us2.length e2)->(∀a∈us2,0<=a/\a<(q2:Int))->(us2.length+4*e2.sz<=100000)->(xs2.length+6*e2.sz<=100000)->(q2+6*e2.sz<=100000)->(e2.sz<bb)->Zf 224 [.p l 0,Kq g,ZO e2,Z6 us2] [.obj l [YG xs2 w2,.i q2],.tail w2 5] (fun r h=>∃(ys:List Z3) (v:Int) (w2:Value),r=.i v/\h=[.obj l [YG (xs2++ys) w2,.i (((q2+YH ys):Nat):Int)],.tail w2 5]/\LW g.decls g.funcs.length q2 e2 ys v)):Zf 174 [Kq g,ZO e,Z6 us,.i q] [] (fun r h=>∃(b:Z4),r=ZC b/\h=[]/\LB g.decls g.funcs.length q e b):=by
 refine ZD 26 Tryz.func174 (ar (iA (FF g) fun b1=>iA (YE e) fun b2=>iA [nl,.i 0] fun b3=>ie (ar (iL (Zj []) 0 5 fun v1=>Z2 2 (iA [YG [] v1,.i q] fun b4=>Z1 (Zo 4 [4,3] (ic [0,0] (ih b4 e us [] v1 q he hu ob ob ob ob) ?_)))))))
 rintro _ _ ⟨ys1,v2,w21,rfl,rfl,ZX⟩
 have hlw:=ZX
 exact Z1 (Zo 6 [0] (ZA 2 b3 [YG ([]++ys1) w21,.i v2] (ie (ZK (r3 [] [.agg [YG ([]++ys1) w21,.i v2]] [0] [(b3,b3)] ⟨(Z4.mk ([]++ys1) v2),rfl,rfl,(by rw [Kj];exact hlw.block)⟩ (Ze.agg (.cons (Ze.forget _ _) (.cons (lr _) .nil))))))))
theorem RX (l:Nat) (g:XJ) (e:Z0) (us:LI) (xs:List Z3) (w:Value) (q:Nat) (hd:GD g.decls) (he:eW g.decls g.funcs.length us.length e) (hu:∀a∈us,0<=a/\a<(q:Int)) (hul:us.length+4*e.sz<=100000) (hxl:xs.length+6*e.sz<=100000) (hql:q+6*e.sz<=100000) (ih:∀(l:Nat) (e2:Z0) (us2:LI) (xs2:List Z3) (w2:Value) (q2:Nat),(eW g.decls g.funcs.length us2.length e2)->(∀a∈us2,0<=a/\a<(q2:Int))->(us2.length+4*e2.sz<=100000)->(xs2.length+6*e2.sz<=100000)->(q2+6*e2.sz<=100000)->(e2.sz<e.sz)->Zf 224 [.p l 0,Kq g,ZO e2,Z6 us2] [.obj l [YG xs2 w2,.i q2],.tail w2 5] (fun r h=>∃(ys:List Z3) (v:Int) (w2:Value),r=.i v/\h=[.obj l [YG (xs2++ys) w2,.i (((q2+YH ys):Nat):Int)],.tail w2 5]/\LW g.decls g.funcs.length q2 e2 ys v)):Zf 224 [.p l 0,Kq g,ZO e,Z6 us] [.obj l [YG xs w,.i q],.tail w 5] (fun r h=>∃(ys:List Z3) (v:Int) (w2:Value),r=.i v/\h=[.obj l [YG (xs++ys) w2,.i (((q+YH ys):Nat):Int)],.tail w2 5]/\LW g.decls g.funcs.length q e ys v):=by
 have XD:=hd.ok
 obtain ⟨ho,h12,h13,h7,h8,h9,hnum,hkl,hks⟩:=(PK e).1 he
 have hez:=e.sz_eq
 refine ZD 148 Tryz.func224 (ar (iA (FF g) fun b1=>iA (YE e) fun b2=>Z1 (X7 (Vx [0] (ab 0 (ar (YR (e.op==12) Zz (fun Z9=>?_) (fun Z9=>?_))))))))
 ·refine Zo 3 [0] ?_
  obtain ⟨x1,Z5⟩:=Zq us e.num.toNat (by have:=h12 om;omega)
  have huv:=hu _ (ZW Z5)
  exact Zm (Zh none e.num 1 (ZZ Z5)) (Zs (r1 [2,2] ⟨[],x1,w,rfl,rfl,(LW.var huv)⟩ (eq:=(ro (ls:=[YG xs w,.i q]) (by simp [YH]) (rc rz)))))
 refine ar (YR (e.op==13) Zz (fun Zg=>?_) (fun Zg=>?_))
 ·refine aD 9 (ZH 5 9 [0,1,2,3] [1,0] ?_)
  obtain ⟨x2,Zv⟩:=Zq e.kids 0 (by have:=h13 om;omega)
  have hekx2:=AT hks Zv
  have hszx2:=A4 Zv
  have htzx2:=Jn Zv
  rw [Wv] at hekx2
  rw [Mr om] at hekx2
  refine dx 4 (Zh none 0 3 (AP Zv)) (Zk 2 4 [5,6] (Z8 7 (dc 7 [2,2] [] [] (ih l x2 us xs w q (by first|assumption|(rw [Yk];assumption)) (by first|assumption|exact Cp hu hlwhp1.v|exact E4 hu) (by first|omega|(simp only [Yk,YD,X8];omega)) (by first|omega|(simp only [Yk,YD,X8];omega)) ob ob) ?_)))
  rintro _ _ ⟨ys1,v1,w21,rfl,rfl,ZX⟩
  have hlwhp1:=ZX
  have hldhp1:=ZX.dn
  refine Zk 0 1 [8] (de (aD 12 (ZH 8 12 [0,1,2,3] [3,2] ?_)))
  obtain ⟨x3,X3⟩:=Zq e.kids 1 (by have:=h13 om;omega)
  have hz2:=HQ Zv X3
  have hz3:=x2.sz_eq
  have hekx3:=AT hks X3
  have hszx3:=A4 X3
  have htzx3:=Jn X3
  rw [Wv] at hekx3
  rw [Mr om] at hekx3
  refine dx 4 (Zh none 1 3 (AP X3)) (Zk 4 7 [5,6,7] (Z8 8 (dL 8 [1,2] [b2,b1] (Z7 [v1]) 1 1 fun v2=>Yh 3 3 [] [(45,Z6 [v1])] (Z8 9 (dc 9 [] [1,2] [b2,b1] (TI us [v1]) ?_)))))
  rintro _ _ ⟨v3,rfl,rfl⟩
  refine Yh 2 2 [] [(46,Z6 (us++[v1]))] (Z8 10 (dc 10 [2,2] [] [] (ih l x3 (us++[v1]) (xs++ys1) w21 (q+YH ys1) (by first|assumption|(rw [Yk];assumption)) (by first|assumption|exact Cp hu hlwhp1.v|exact E4 hu) (by first|omega|(simp only [Yk,YD,X8];omega)) (by first|omega|(simp only [Yk,YD,X8];omega)) ob ob) ?_))
  rintro _ _ ⟨ys2,v4,w22,rfl,rfl,Y9⟩
  have hlwhp2:=Y9
  have hldhp2:=Y9.dn
  exact Zk 0 1 [11] (de (ZK (r1 [0,0] ⟨(ys1++ys2),v4,w22,rfl,rfl,(LW.let_ hlwhp1 hlwhp2 (by have:=HQ Zv X3;omega))⟩ (eq:=(ro (ls:=[YG ((xs++ys1)++ys2) w22,.i ((((q+YH ys1)+YH ys2):Nat):Int)]) (by rw [Qw,<-J7,VN]) (rc rz))))))
 refine Y1 (XC (fun fz gz F h=>F=sF [0,3,5,6] fz [(48,.b ((e.op==7)||(e.op==8)))]/\h=gz) ?_ ?_)
 ·refine ac (e.op==7) Zz (fun ZF=>?_) (fun ZF=>?_)
  ·exact ak (ZJ ⟨rfl,rfl⟩ (ZV 4 (fc (x:=.b (e.op==7)) (lb (by first|rfl|(rw [Zw ZF])|(rw [Zp ZF])|(simp [ZF];done)|(rw [Xc];simp [ZF];done)|omega)) fl)))
  exact UM (ZJ ⟨rfl,rfl⟩ (ZV 4 (fc (x:=.b (e.op==8)) (lb (by first|rfl|(rw [Zw ZF])|(rw [Zp ZF])|(simp [ZF];done)|(rw [Xc];simp [ZF];done)|omega)) fl)))
 rintro F h ⟨rfl,rfl⟩
 refine ac ((e.op==7)||(e.op==8)) (p:=(e.op=7)∨(e.op=8)) (Xo Zz Zz) (fun Yq=>?_) (fun Yq=>?_)
 ·refine aD 9 (ZH 5 9 [0,1,2,3] [1,0] ?_)
  obtain ⟨x4,Te⟩:=Zq e.kids 0 om
  have hekx4:=AT hks Te
  have hszx4:=A4 Te
  have htzx4:=Jn Te
  rw [Wv] at hekx4
  rw [Z3d om] at hekx4
  refine dx 4 (Zh none 0 3 (AP Te)) (Zk 2 4 [5,6] (Z8 7 (dc 7 [2,2] [] [] (ih l x4 us xs w q (by first|assumption|(rw [Yk];assumption)) (by first|assumption|exact Cp hu hlwhp1.v|exact E4 hu) (by first|omega|(simp only [Yk,YD,X8];omega)) (by first|omega|(simp only [Yk,YD,X8];omega)) ob ob) ?_)))
  rintro _ _ ⟨ys3,v5,w23,rfl,rfl,YL⟩
  have hlwhp3:=YL
  have hldhp3:=YL.dn
  refine Zk 0 1 [8] (de (ar (iL (Yu []) 0 2 fun v6=>Z1 (Zo 4 [4,3] (ic [] (Kb g.decls e.num) ?_)))))
  rintro _ _ ⟨v7,rfl,rfl⟩
  refine Z1 (Y1 (ab 1 (Y0 (fun fz gz m F h=>∃(k:Nat) (cs:List Z4) (u:Value),(1<=k/\k<=e.kids.length)/\(cs.length+1=k)/\(Uq g.decls g.funcs.length (VK g.decls e.op e.num (q+YH ys3)) 0 cs)/\(YK cs+6*x4.sz<=cs.length+6*Xa (e.kids.take k))/\(TE Wd cs)/\F=sF [0,3,5,6,10] fz [(11,U9 cs u),(12,Z6 (Y2 g.decls e.num)),(13,.i k)]/\h=[Za gz 2,Za gz 4,Za gz 5,.tail u 2,Za gz 3]/\m=e.kids.length-k) _ _ _ ⟨1,[],v6,ob,ob,True.intro,(by have h:Xa (e.kids.take 1)=Xa (e.kids.take 0)+x4.sz:=Jn Te;simp only [YK,X8];omega),True.intro,rfl,rfl,rfl⟩ (wk [2,3,3,1,1] (fr (fc (x:=ZQ (Y2 g.decls e.num) v7) (Ze.forget _ _) (fc (x:=.i 1) li fl)))) ?_)))
  rintro m F h ⟨k,cs,u,Yf,Zi,Zr,YA,XZ,rfl,rfl,rfl⟩
  refine Y6 3 [1] (iw (EV e.kids) (ZT ((k:Int)<(e.kids.length:Int)) (fun XH=>?_) (fun XH=>?_)))
  ·refine ak (aq (ab 2 (Ya (X7 (Vx [1] (XC (fun fz gz F h=>∃(mf:Nat),(VK g.decls e.op e.num (q+YH ys3) cs.length=(q+YH ys3)+mf)/\(mf<=3)/\(UG g.decls e.op e.num us.length k=us.length+mf)/\F=sF [0,3,5,6,10,11,12,13] fz [(14,.i mf)]/\h=gz) ?_ ?_))))))
   ·refine ac (e.op==8) Zz (fun XI=>?_) (fun XI=>?_)
    ·refine aE 10 (ZH 6 10 [0,1,2,3] [2] (da 4 (((k-1:Nat):Int)) (((k:Int))-(1)) ?_))
     obtain ⟨x5,UV⟩:=Zq (Y2 g.decls e.num) (k-1) (by have:=h8 om;omega)
     exact dx 5 (Zh none ((k-1:Nat):Int) 1 (ZZ UV)) (Zk 3 4 [6] (Z8 7 (Yp 7 [] [] [] (Q0 g.decls x5) (dn 8 (.i (((Y4 g.decls x5).length:Nat):Int)) (.i (((Z7 (Y4 g.decls x5)).length:Nat):Int)) (li (by rw [Ye])) (Zk 0 1 [9] (de (ZJ ⟨(Y4 g.decls x5).length,(Gi om (by rw [show cs.length=k-1 by omega];exact UV)),(by have:=VD XD x5;omega),(Z3e om (show k=(k-1)+1 by omega) UV),rfl,rfl⟩ (ZV 5 (fc (x:=.i (((Y4 g.decls x5).length:Nat):Int)) (li (by first|rfl|(rw [Zw XI])|(rw [Zp XI])|(simp [XI];done)|(rw [Xc];simp [XI];done)|omega)) fl)))))))))
    exact ak (ZJ ⟨0,(Gj om),om,(Ms om),rfl,rfl⟩ (ZV 5 (fc (x:=.i 0) (li (by first|rfl|(rw [Zw XI])|(rw [Zp XI])|(simp [XI];done)|(rw [Xc];simp [XI];done)|omega)) fl)))
   rintro F h ⟨mf,Z07,Z76,Z08,rfl,rfl⟩
   refine aE 25 (ZH 20 25 [0,1,2,3,4] [2,1] ?_)
   obtain ⟨x6,QB⟩:=Zq e.kids k om
   have hekx6:=AT hks QB
   have hszx6:=A4 QB
   have htzx6:=Jn QB
   rw [Wv] at hekx6
   rw [Z08] at hekx6
   have htk:=KG (xs:=e.kids) (k+1)
   have hbl:=CH cs
   refine dx 5 (Zh none (k:Int) 3 (AP QB)) (ZH 7 19 [6,7,8,9,10,11,12,15,16,17,18,19] [0,0] (da 20 ((((q+YH ys3)+mf:Nat):Int)) (((((q+YH ys3):Nat):Int))+((mf:Int))) (Z8 13 (dc 13 [] [0,1,2] [l,b2,b1] (Fh (q+YH ys3) mf) ?_))))
   rintro _ _ ⟨xs1,rfl,rfl,YX⟩
   have hnx:=YX
   refine Z8 14 (dc 14 [] [0,1,2] [l,b2,b1] (TI us xs1) ?_)
   rintro _ _ ⟨v8,rfl,rfl⟩
   refine Yh 4 4 [] [(98,Z6 (us++xs1))] (Z8 21 (dc 21 [] [] [] (Ij g x6 (us++xs1) ((q+YH ys3)+mf) e.sz (he:=(by rw [Yk,hnx.1];exact hekx6)) (hu:=(Z5v hu hnx.2)) (hul:=(by rw [Yk,hnx.1];omega)) (hql:=om) (ih:=ih)) ?_))
   rintro _ _ ⟨b3,rfl,rfl,X9⟩
   have hlb:=X9
   exact Z8 22 (W5 22 [] [] [ZC b3] (Yu [b3]) (U0 [b3]).symm 1 2 fun v9=>Yh 2 2 [] [(106,XG [b3])] (Z8 23 (dp 23 5 [] [] (Yu (cs++[b3])) (Yu cs) (Yu [b3]) u none 2 (Uy _) (Uy _) (CS _) (by simp<;>omega) (by simp [KD,Yu]) fun v10=>Zk 0 1 [24] (de (az (Z2 1 (ZG k (Z1 (ZI ⟨k+1,(cs++[b3]),v10,ob,ob,(HS Zr (by rw [Z07];exact hlb.1)),(by have:=hlb.2;rw [BC,Yk];simp only [YK,YD,X8];omega),(Lw XZ hlb.op),rfl,rfl,rfl⟩ (wk [3,3,3,0,2] (fw (ZL k fl))))))))))))
  refine ax 1 (Zo 6 [1,1] (iL (Z7 [v5]) 1 1 fun v11=>ZE 2 [(116,.agg [.i e.op,.i e.num,.i 0,Z6 [v5],XG cs])] (ic [1,4] (I8 l (xs++ys3) w23 (q+YH ys3) (Z3.mk e.op e.num 0 [v5] cs) (hl:=(by first|(have h1:=QG zs;have h2:=KG (xs:=e.kids) k;have h3:=Jl zs;(try simp only [Yk]);omega)|((try simp only [Yk]);omega))) (hq:=(by first|(have h1:=QG zs;have h2:=KG (xs:=e.kids) k;have h3:=Jl zs;(try simp only [Yk]);omega)|((try simp only [Yk]);omega)))) ?_)))
  rintro _ _ ⟨w24,rfl,rfl⟩
  refine Z1 ?_
  have hcb:YP e.op=false:=by simp [YP];omega
  exact ZK (r1 [0,0] ⟨(ys3++[Z3.mk e.op e.num 0 [v5] cs]),(((q+YH ys3):Nat):Int),w24,rfl,rfl,(LW.branch (s0:=x4.sz) (sr:=Xa (e.kids.take k)-x4.sz) om (fun h=>by have:=h7 h;omega) (fun h=>by have:=h8 h;omega) hnum hlwhp3.fs hlwhp3.v Zr om hlwhp3.sz (by have:=CH cs;omega) (by have:=KG (xs:=e.kids) k;omega) hlwhp3.op XZ)⟩ (eq:=(ro (ls:=[YG ((xs++ys3)++[(Z3.mk e.op e.num 0 [v5] cs)]) w24,.i ((((q+YH ys3)+1):Nat):Int)]) (by rw [BF (s:=Z3.mk e.op e.num 0 [v5] cs) hcb,<-J7,VN]) (rc rz))))
 refine ak (ar (iL (Z7 []) 0 1 fun v12=>?_))
 refine Z1 (Y1 (ab 3 (Y0 (fun fz gz m F h=>∃(k:Nat) (asl:LI) (u:Value) (zs:List Z3) (w3:Value),(k<=e.kids.length)/\(asl.length=k)/\(U3 g.decls g.funcs.length q zs)/\(∀a∈asl,0<=a/\a<((q+YH zs:Nat):Int))/\(Y5 zs<=6*Xa (e.kids.take k))/\(UD Wd zs)/\F=sF [0,3,5,6] fz [(15,ZQ asl u),(16,.i k)]/\h=[Za gz 1,Za gz 2,.obj l [YG (xs++zs) w3,.i (((q+YH zs):Nat):Int)],.tail u 1,.tail w3 5]/\m=e.kids.length-k) _ _ _ ⟨0,[],v12,[],w,ob,ob,True.intro,(fun a ha=>by cases ha),(by simp [Y5]),True.intro,rfl,rfl,rfl⟩ (wk [1,1,1,0,0] (fr (Yd fl)) (e:=(rc (rc (ro (ls:=[YG xs w,.i q]) (by simp [YH]) (rc (rc rz))))))) ?_)))
 rintro m F h ⟨k,asl,u,zs,w3,VZ,Wi,Xs,EB,Z6q,Hl,rfl,rfl,rfl⟩
 refine Y6 3 [0] (iw (EV e.kids) (ZT ((k:Int)<(e.kids.length:Int)) (fun TV=>?_) (fun TV=>?_)))
 ·refine ak (aq (ab 4 (aD 10 (ZH 5 10 [0,1,2,3,4] [1,0] ?_))))
  obtain ⟨x7,Df⟩:=Zq e.kids k om
  have hzl:=QG zs
  have hzd:=Jl zs
  have htk:=KG (xs:=e.kids) (k+1)
  have hekx7:=AT hks Df
  have hszx7:=A4 Df
  have htzx7:=Jn Df
  rw [Wv] at hekx7
  rw [Ms om] at hekx7
  refine dx 5 (Zh none (k:Int) 3 (AP Df)) (Zk 2 4 [6,7] (Z8 8 (dc 8 [2,3] [] [] (ih l x7 us (xs++zs) w3 (q+YH zs) (by first|assumption|(rw [Yk];assumption)) (by first|assumption|exact Cp hu hlwhp1.v|exact E4 hu) (by first|omega|(simp only [Yk,YD,X8];omega)) (by first|omega|(simp only [Yk,YD,X8];omega)) ob ob) ?_)))
  rintro _ _ ⟨ys4,v13,w25,rfl,rfl,XV⟩
  have hlwhp6:=XV
  have hldhp6:=XV.dn
  exact Zk 0 1 [9] (de (az (Z2 2 (iL (Z7 [v13]) 1 1 fun v14=>ZE 0 [(137,Z6 [v13])] (ip 5 (Z7 (asl++[v13])) (Z7 asl) (Z7 [v13]) u none 1 (Yw _) (Yw _) (XT _) (by simp<;>omega) (by simp [XR,Z7]) fun v15=>Z1 (az (Z2 1 (ZG k (Z1 (ZI ⟨k+1,(asl++[v13]),v15,(zs++ys4),w25,ob,ob,(AU.2 ⟨Xs,hlwhp6.fs⟩),(by rw [Qw,<-J7];exact Cp EB hlwhp6.v),(by have:=hlwhp6.sz;rw [Un];omega),(DC.2 ⟨Hl,hlwhp6.op⟩),rfl,rfl,rfl⟩ (wk [4,4,2,0,1] (fr (ZL k fl)) (e:=(rc (rc (ro (ls:=[YG ((xs++zs)++ys4) w25,.i ((((q+YH zs)+YH ys4):Nat):Int)]) (by rw [Qw,<-J7,VN]) (rc (rc rz)))))))))))))))))
 refine ax 3 (Zo 6 [0,0] (iL (Yu []) 0 2 fun v16=>ZE 1 [(146,.agg [.i e.op,.i e.num,.i 0,Z6 asl,XG []])] (ic [3,4] (I8 l (xs++zs) w3 (q+YH zs) (Z3.mk e.op e.num 0 asl []) (hl:=(by first|(have h1:=QG zs;have h2:=KG (xs:=e.kids) k;have h3:=Jl zs;(try simp only [Yk]);omega)|((try simp only [Yk]);omega))) (hq:=(by first|(have h1:=QG zs;have h2:=KG (xs:=e.kids) k;have h3:=Jl zs;(try simp only [Yk]);omega)|((try simp only [Yk]);omega)))) ?_)))
 rintro _ _ ⟨w26,rfl,rfl⟩
 refine Z1 ?_
 have hcb:YP e.op=false:=by simp [YP];omega
 exact ZK (r1 [0,0] ⟨(zs++[Z3.mk e.op e.num 0 asl []]),(((q+YH zs):Nat):Int),w26,rfl,rfl,(LW.node om h9 hnum Xs EB om (by have:=KG (xs:=e.kids) k;omega) Hl)⟩ (eq:=(ro (ls:=[YG ((xs++zs)++[(Z3.mk e.op e.num 0 asl [])]) w26,.i ((((q+YH zs)+1):Nat):Int)]) (by rw [BF (s:=Z3.mk e.op e.num 0 asl []) hcb,<-J7,<-VN]) (rc rz))))
theorem RW (l:Nat) (g:XJ) (e:Z0) (us:LI) (xs:List Z3) (w:Value) (q:Nat) (hd:GD g.decls) (he:eW g.decls g.funcs.length us.length e) (hu:∀a∈us,0<=a/\a<(q:Int)) (hul:us.length+4*e.sz<=100000) (hxl:xs.length+6*e.sz<=100000) (hql:q+6*e.sz<=100000):Zf 224 [.p l 0,Kq g,ZO e,Z6 us] [.obj l [YG xs w,.i q],.tail w 5] (fun r h=>∃(ys:List Z3) (v:Int) (w2:Value),r=.i v/\h=[.obj l [YG (xs++ys) w2,.i (((q+YH ys):Nat):Int)],.tail w2 5]/\LW g.decls g.funcs.length q e ys v):=by
 have key:∀k:Nat,∀(l:Nat) (e2:Z0) (us2:LI) (xs2:List Z3) (w2:Value) (q2:Nat),(eW g.decls g.funcs.length us2.length e2)->(∀a∈us2,0<=a/\a<(q2:Int))->(us2.length+4*e2.sz<=100000)->(xs2.length+6*e2.sz<=100000)->(q2+6*e2.sz<=100000)->(e2.sz<k)->Zf 224 [.p l 0,Kq g,ZO e2,Z6 us2] [.obj l [YG xs2 w2,.i q2],.tail w2 5] (fun r h=>∃(ys:List Z3) (v:Int) (w2:Value),r=.i v/\h=[.obj l [YG (xs2++ys) w2,.i (((q2+YH ys):Nat):Int)],.tail w2 5]/\LW g.decls g.funcs.length q2 e2 ys v):=by
  intro k
  induction k with
  | zero=>intro l e2 us2 xs2 w2 q2 h1 h2 h3 h4 h5 h6;omega
  | succ k ih=>intro l e2 us2 xs2 w2 q2 h1 h2 h3 h4 h5 h6;exact RX l g e2 us2 xs2 w2 q2 hd h1 h2 h3 h4 h5 fun l e3 us3 xs3 w3 q3 a1 a2 a3 a4 a5 a6=>ih l e3 us3 xs3 w3 q3 a1 a2 a3 a4 a5 om
 exact key (e.sz+1) l e us xs w q he hu hul hxl hql om
theorem Fg (g:XJ) (e:Z0) (us:LI) (q:Nat) (hd:GD g.decls:=by exact ob) (he:eW g.decls g.funcs.length us.length e:=by exact ob) (hu:∀a∈us,0<=a/\a<(q:Int)) (hul:us.length+4*e.sz<=100000:=by exact ob) (hql:q+6*e.sz<=100000:=by exact ob):Zf 174 [Kq g,ZO e,Z6 us,.i q] [] (fun r h=>∃(b:Z4),r=ZC b/\h=[]/\LB g.decls g.funcs.length q e b):=(Ij g e us q (e.sz+1) he hu hul hql om (fun l e2 us2 xs2 w2 q2 h1 h2 h3 h4 h5 _=>RW l g e2 us2 xs2 w2 q2 hd h1 h2 h3 h4 h5))
theorem Aq (ds:List Zd) (hd:Wh ds:=by exact ob):Zf 96 [YM ds] [] (Yt (YM ds)):=by
 have hdl:=hd.len
 refine ZD 55 Tryz.func96 (Ya (ar (iL (X0 []) 0 3 fun v1=>?_)))
 refine Z1 (Y1 (ab 0 (Y0 (fun fz gz m F h=>∃(k:Nat) (v:Value),(k<=ds.length)/\F=sF [0] fz [(3,K7 (ds.take k) v),(4,.i k)]/\h=[.tail v 3]/\m=ds.length-k) _ _ _ ⟨0,v1,ob,rfl,rfl,rfl⟩ (wk [0] (fc (x:=K7 [] v1) (Ze.slh _ (Ys X0 rfl)) (Yd fl))) ?_)))
 rintro m F h ⟨k,v,Yf,rfl,rfl,rfl⟩
 refine X4 2 (iw (Tw ds) (ZT ((k:Int)<(ds.length:Int)) (fun Z9=>?_) (fun Z9=>?_)))
 ·obtain ⟨xd,hxd⟩:=Zq ds k om
  have hcl:=hd.cons_at hxd
  refine ak (aq (ab 1 (ar (iL (Wo []) 0 1 fun v2=>?_))))
  refine Z1 (Y1 (ab 2 (Y0 (fun fz gz m F h=>∃(j:Nat) (u:Value),(j<=xd.cons.length)/\F=sF [0,3,4] fz [(5,DA (xd.cons.take j) u),(6,.i j)]/\h=[.tail u 1,Za gz 1]/\m=xd.cons.length-j) _ _ _ ⟨0,v2,ob,rfl,rfl,rfl⟩ (wk [0,0] (fc (x:=DA [] v2) (Ze.slh _ (Ys Wo rfl)) (Yd fl))) ?_)))
  rintro m F h ⟨j,u,VZ,rfl,rfl,rfl⟩
  refine X4 3 (Zm (Zh none (k:Int) 3 (U1 hxd)) (Z2 2 (iw (QX xd.cons) (ZT ((j:Int)<(xd.cons.length:Int)) (fun Zg=>?_) (fun Zg=>?_)))))
  ·refine ak (aq (ab 3 (az (Z2 3 (Zm (Zh none (k:Int) 3 (U1 hxd)) (Z2 3 ?_))))))
   obtain ⟨x1,Z5⟩:=Zq xd.cons j om
   have hfl:=hd.fields_at hxd Z5
   refine Zm (Zh none (j:Int) 1 (CT Z5)) (Z2 2 (ic [] (Vr x1.fields) ?_))
   rintro _ _ ⟨v3,rfl,rfl⟩
   exact ZE 1 [(36,CE x1)] (iL (Wo [x1]) 1 1 fun v4=>ZE 0 [(37,Qm [x1])] (ip 2 (Wo (xd.cons.take (j+1))) (Wo (xd.cons.take j)) (Wo [x1]) u none 1 (ES _) (ES _) (PB _) (by simp<;>omega) (by rw [Vh Z5];simp [Wo]) fun v5=>Z1 (az (Z2 1 (ZG j (Z1 (ZI ⟨j+1,v5,ob,rfl,rfl,rfl⟩ (wk [0,2] (fr (ZL j fl))))))))))
  exact ax 2 (aE 16 (Zk 13 16 [0,1,2] (dx 3 (Zh none (k:Int) 3 (U1 hxd)) (Zk 8 12 [4,5,6,7] (dx 8 (Zh none (k:Int) 3 (U1 hxd)) (Yh 3 7 [9,10,11,12] [(51,.agg [.i xd.frm,.i xd.to_,Qm (xd.cons.take j)])] (Z8 13 (dL 13 [] [] (X0 [Zd.mk xd.frm xd.to_ (xd.cons.take j)]) 1 3 fun v6=>Yh 2 2 [] [(52,YM [Zd.mk xd.frm xd.to_ (xd.cons.take j)])] (Z8 14 (dp 14 2 [] [] (X0 (ds.take (k+1))) (X0 (ds.take k)) (X0 [Zd.mk xd.frm xd.to_ (xd.cons.take j)]) v none 3 (KE _) (KE _) (CU _) (by simp<;>omega) (by rw [Vh hxd];simp [X0,WT (show xd.cons.length<=j by omega)]) fun v7=>Zk 0 1 [15] (de (az (Z2 1 (ZG k (Z1 (ZI ⟨k+1,v7,ob,rfl,rfl,rfl⟩ (wk [0] (fr (ZL k fl)))))))))))))))))))
 exact ax 0 (ar (Zs (Y3 (K7 (ds.take k) v) (Ze.sl _ (Ys X0 (by rw [WT om]))))))
theorem S4 (g:XJ) (hg:Eh g:=by exact ob):Zf 133 [Kq g] [] (fun r h=>∃(n:Zx),r=Yl n/\h=[]/\FO n 181 Wd):=by
 have hgl:=hg.gp.len
 have XD:=hg.gp.decls.ok
 refine ZD 49 Tryz.func133 (ar (iA (FF g) fun b1=>iA [nl,nl] fun b2=>ie (Zo 2 [1] (Zu [] (Aq g.decls) (iL (Yx []) 0 5 fun v1=>Z2 1 (iA [nl,nl] fun b3=>?_))))))
 refine ZA 0 b3 [YM g.decls,W6 [] v1] (ie (Y1 (ab 0 (Y0 (fun fz gz m F h=>∃(k:Nat) (rs:List Y8) (u:Value),(k<=g.funcs.length)/\(rs.length=k)/\(∀r∈rs,RN g.decls g.funcs.length r)/\F=sF [1,2,3] fz [(4,.i k)]/\h=[.obj b3 [YM g.decls,W6 rs u],Za gz 2,Za gz 3,.tail u 5]/\m=g.funcs.length-k) _ _ _ ⟨0,[],v1,ob,ob,(fun r hr=>by cases hr),rfl,rfl,rfl⟩ (wk [0,1,1,0] (Yd fl)) ?_))))
 rintro m F h ⟨k,rs,u,Yf,Zi,Zr,rfl,rfl,rfl⟩
 refine Y6 3 [2] (iw (AQ g.funcs) (ZT ((k:Int)<(g.funcs.length:Int)) (fun Z9=>?_) (fun Z9=>?_)))
 ·refine ak (aq (ab 1 (Zo 3 [2] ?_)))
  obtain ⟨x1,Z5⟩:=Zq g.funcs k om
  have hso:=(hg.gp.sigs _ (ZW Z5)).bd
  have hsi:=hg.gp.sigs _ (ZW Z5)
  have hbo:=hg.body _ (ZW Z5)
  refine Zm (Zh none (k:Int) 5 (CV Z5)) (Z2 1 (iA [nl,.i 0,.i 0,.i 0,nl] fun b4=>?_))
  refine ZA 0 b4 (Dq x1) (ie (Zo 2 [0] (iw (Ye x1.params) (Z1 (aD 9 (ZH 4 9 [0,1,2,3,5] [3,0] (Ky (fun fz gz F h=>∃(b5:Z4) (b6:Nat) (xs1:LI),(xs1.length=x1.params.length/\∀i∈xs1,(0:Int)<=i/\i<(0:Int)+x1.params.length)/\(LB g.decls g.funcs.length x1.params.length x1.body b5)/\F=sF [1,2,3,4,5] fz [(7,.p b6 0)]/\h=[.obj b6 (YI b5),Za gz 0,Za gz 1,Za gz 2,Za gz 3,Za gz 4]) ?_ ?_)))))))
  ·refine WU 4 7 ?_ ?_
   ·refine dc 4 [] [0,3] [b4,b1] (Fh 0 x1.params.length) ?_
    rintro _ _ ⟨xs1,rfl,rfl,ZX⟩
    have hnx:=ZX
    refine WU 6 7 ?_ ?_
    ·refine dc 6 [] [] [] (Fg g x1.body xs1 x1.params.length (hd:=hg.gp.decls) (he:=(by rw [hnx.1];exact hbo.1)) (hu:=(fun a ha=>by have:=hnx.2 a ha;omega))) ?_
     rintro _ _ ⟨b5,rfl,rfl,Y9⟩
     have hlb:=Y9
     exact Z8 7 (dA 7 [] [] [nl,.i 0] fun b6=>Z8 8 (Yy 8 0 [] [] b6 (YI b5) (de (ZJ ⟨_,b6,_,(by assumption),(by assumption),rfl,rfl⟩ (ZV 6 fl)))))
    refine dA 7 [0,3] [b4,b1] [nl,.i 0] fun b7=>Z8 6 (dc 6 [] [] [] (Fg g x1.body xs1 x1.params.length (hd:=hg.gp.decls) (he:=(by rw [hnx.1];exact hbo.1)) (hu:=(fun a ha=>by have:=hnx.2 a ha;omega))) ?_)
    rintro _ _ ⟨b8,rfl,rfl,YL⟩
    have hlb:=YL
    exact Z8 8 (Yy 8 0 [] [] b7 (YI b8) (de (ZJ ⟨_,b7,_,(by assumption),(by assumption),rfl,rfl⟩ (ZV 6 fl))))
   refine dA 7 [0,3] [b4,b1] [nl,.i 0] fun b9=>Z8 4 (dc 4 [] [1,4] [b4,b1] (Fh 0 x1.params.length) ?_)
   rintro _ _ ⟨xs2,rfl,rfl,YX⟩
   have hnx:=YX
   refine Z8 6 (dc 6 [] [] [] (Fg g x1.body xs2 x1.params.length (hd:=hg.gp.decls) (he:=(by rw [hnx.1];exact hbo.1)) (hu:=(fun a ha=>by have:=hnx.2 a ha;omega))) ?_)
   rintro _ _ ⟨b10,rfl,rfl,X9⟩
   have hlb:=X9
   exact Z8 8 (Yy 8 0 [] [] b9 (YI b10) (de (ZJ ⟨_,b9,_,(by assumption),(by assumption),rfl,rfl⟩ (ZV 6 fl))))
  rintro F h ⟨b5,b6,xs1,ZX,Y9,rfl,rfl⟩
  have hnx:=ZX
  have hlb:=Y9
  refine aE 14 (ZH 7 14 [0,1,2,3,6,7,8] [2,1,1,0] (WU 4 5 ?_ ?_))
  ·refine dc 4 [] [0,1,2] [b6,b4,b3] (Vr x1.params) ?_
   rintro _ _ ⟨v2,rfl,rfl⟩
   exact Z8 5 (dL 5 [0,1,2] [b6,b4,b3] (Z7 []) 0 1 fun v3=>Yh 4 5 [9] [(44,.agg [Z6 x1.params,Z6 [],.i x1.result,Wp b5.steps,.i b5.result])] (Z8 10 (dL 10 [2] [b3] (Yx [Y8.mk x1.params [] x1.result (Z4.mk b5.steps b5.result)]) 1 5 fun v4=>Yh 3 3 [] [(45,TY [Y8.mk x1.params [] x1.result (Z4.mk b5.steps b5.result)])] (Z8 11 (dp 11 8 [] [] (Yx (rs++[Y8.mk x1.params [] x1.result (Z4.mk b5.steps b5.result)])) (Yx rs) (Yx [Y8.mk x1.params [] x1.result (Z4.mk b5.steps b5.result)]) u none 5 (VQ _) (VQ _) (Jm _) (by simp<;>omega) (by simp [A1,Yx]) fun v5=>Zk 1 2 [12] (Z8 13 (Yy 13 6 [] [] b3 [YM g.decls,W6 (rs++[Y8.mk x1.params [] x1.result (Z4.mk b5.steps b5.result)]) v5] (de (az (Z2 1 (ZG k (Z1 (ZI ⟨k+1,(rs++[Y8.mk x1.params [] x1.result (Z4.mk b5.steps b5.result)]),v5,ob,ob,(Xe Zr (RN.of hsi hlb hbo.2)),rfl,rfl,rfl⟩ (wk [0,6,6,0] (ZL k fl)))))))))))))))
  refine dL 5 [0,1,1,2] [b6,b4,b4,b3] (Z7 []) 0 1 fun v6=>Z8 4 (dc 4 [] [0,1,2] [b6,b4,b3] (Vr x1.params) ?_)
  rintro _ _ ⟨v7,rfl,rfl⟩
  exact Yh 4 5 [9] [(44,.agg [Z6 x1.params,Z6 [],.i x1.result,Wp b5.steps,.i b5.result])] (Z8 10 (dL 10 [2] [b3] (Yx [Y8.mk x1.params [] x1.result (Z4.mk b5.steps b5.result)]) 1 5 fun v8=>Yh 3 3 [] [(45,TY [Y8.mk x1.params [] x1.result (Z4.mk b5.steps b5.result)])] (Z8 11 (dp 11 8 [] [] (Yx (rs++[Y8.mk x1.params [] x1.result (Z4.mk b5.steps b5.result)])) (Yx rs) (Yx [Y8.mk x1.params [] x1.result (Z4.mk b5.steps b5.result)]) u none 5 (VQ _) (VQ _) (Jm _) (by simp<;>omega) (by simp [A1,Yx]) fun v9=>Zk 1 2 [12] (Z8 13 (Yy 13 6 [] [] b3 [YM g.decls,W6 (rs++[Y8.mk x1.params [] x1.result (Z4.mk b5.steps b5.result)]) v9] (de (az (Z2 1 (ZG k (Z1 (ZI ⟨k+1,(rs++[Y8.mk x1.params [] x1.result (Z4.mk b5.steps b5.result)]),v9,ob,ob,(Xe Zr (RN.of hsi hlb hbo.2)),rfl,rfl,rfl⟩ (wk [0,6,6,0] (ZL k fl))))))))))))))
 exact ax 0 (Zo 1 [0] (ZA 1 b2 [YM g.decls,W6 rs u] (ie (ZK (r3 [] [.agg [YM g.decls,W6 rs u]] [0] [(b2,b2)] ⟨(Zx.mk g.decls rs),rfl,rfl,(RN.all hg.gp.decls (by show 1<=rs.length/\rs.length<=4;omega) (by show ∀r∈rs,RN g.decls rs.length r;rw [show rs.length=g.funcs.length by omega];exact Zr) om)⟩ (Ze.agg (.cons (lr _) (.cons (Ze.forget _ _) .nil))))))))
theorem Z4t (n:Zx) (hz:Jc n:=by exact ob):Zf 83 [Yl n] [] (Yt (.b (Q5 n))):=by
 have hzl:=hz.len
 refine ZD 35 Tryz.func83 (ar (iA (YN n) fun b1=>Z1 (Y6 1 [0] (Zu [] (Z4s n (hz:=hz.decls) (hr:=(fun r hr=>⟨hz.params r hr,hz.lent r hr⟩))) (YR (!K6 n) (p:=¬(K6 n=true)) (Xh Iff.rfl) (fun Z9=>?_) (fun Z9=>?_))))))
 ·exact ar (Zs (Y3 (.b false) (lb (by first|rfl|omega|grind [Q5]))))
 have hok:=Ll hz (by simpa using Z9)
 refine ak (Y1 (ab 0 (Y0 (fun fz gz m F h=>∃(k:Nat),(k<=n.routines.length)/\(J1 n (n.routines.drop k)=J1 n n.routines)/\F=sF [1] fz [(3,.i k)]/\h=gz/\m=n.routines.length-k) _ _ _ ⟨0,ob,ob,rfl,rfl,rfl⟩ (wk [0] (Yd fl)) ?_)))
 rintro m F h ⟨k,Yf,Zi,rfl,rfl,rfl⟩
 refine Y6 3 [0] (iw (Up n.routines) (ZT ((k:Int)<(n.routines.length:Int)) (fun Zg=>?_) (fun Zg=>?_)))
 ·refine ak (aq (ab 1 (Zo 3 [0] ?_)))
  obtain ⟨x1,Z5⟩:=Zq n.routines k om
  have Zt:=hz.body _ (ZW Z5)
  have hps:=hok.params_at Z5
  refine Zm (Zh none (k:Int) 5 (WB Z5)) (Z2 1 (iA [nl,nl,.i 0,nl,.i 0] fun b2=>ZA 0 b2 (K4 x1) (ie (aD 15 (ZH 13 15 [0,1] [0] (Z8 2 (Yp 2 [] [] [] (MU x1.body) (AN [1,3] [(34,.b ((decide ((WF x1.body)<0))||((XL n x1.params x1.body) != x1.result)))] (fun gz=>gz) ?_ ?_))))))))
  ·refine Zk 10 12 [3,4] (db (b:=(decide ((WF x1.body)<0))) 24 (fun Zb=>?_) (fun Zb=>?_))
   ·exact Zk 0 10 [5,6,7,8,9,10,11,12,13,14] (de (wk [0,0] (ZM true Zb fl)))
   exact ZH 3 10 [5,6,7,8,9,11,12] [1,0,0,0] (Z8 10 (Yp 10 [] [0] [b2] (ML n x1.params x1.body ob ob) (Zk 0 2 [13,14] (de (wk [0,0] (ZM ((XL n x1.params x1.body) != x1.result) Zb fl))))))
  refine ac ((decide ((WF x1.body)<0))||((XL n x1.params x1.body) != x1.result)) (p:=((WF x1.body)<0)∨((XL n x1.params x1.body)≠x1.result)) (Xo dq Xd) (fun ZF=>?_) (fun ZF=>?_)
  ·refine Ya ?_
   rw [Yo Z5] at Zi
   exact ZK (Y3 (.b false) (lb (by clear Z5;first|rfl|omega|grind [J1,Q5])))
  refine ak (az (Z2 1 (ZG k (Z1 ?_))))
  have hdr:=Yo Z5
  exact ZI ⟨k+1,ob,(by rw [hdr] at Zi;clear hdr Z5;grind [J1]),rfl,rfl,rfl⟩ (wk [1] (ZL k fl))
 refine ax 0 (Ya ?_)
 try rw [Xz (xs:=n.routines) (k:=k) om] at Zi
 exact ZK (Y3 (.b true) (lb (by first|rfl|omega|grind [J1,Q5])))
theorem Gr (op:Int) :Zf 110 [.i op] [] (Yt (.b (YP op))):=by
 exact ZD 5 Tryz.func110 (Ya (Yg 1 (Zu [] (Ub op 14 17) (Zs (Y3 (.b (decide (14<=op/\op<=17))) (lb (by first|rfl|omega|grind [YP])))))))
theorem MM (op:Int) :Zf 267 [.i op] [] (Yt (.b (QT op))):=by
 refine ZD 17 Tryz.func267 (Ya (ar (WQ 6 [0] [(8,.b ((op==6)||(op==9)))] (fun gz=>gz) ?_ (fun hj1=>?_))))
 ·refine WQ 10 [0] [(12,.b (((op==6)||(op==9))||(op==10)))] (fun gz=>gz) ?_ (fun hj2=>?_)
  ·refine WQ 14 [] [(16,.b ((((op==6)||(op==9))||(op==10))||(op==11)))] (fun gz=>gz) ?_ (fun hj3=>?_)
   ·exact Zs (Y3 (.b ((((op==6)||(op==9))||(op==10))||(op==11))) (lb (by first|rfl|omega|grind [QT])))
   refine Z2 1 (ib (b:=(((op==6)||(op==9))||(op==10))) 13 (fun Zb=>?_) (fun Zb=>?_))
   ·exact Z2 3 (Xm (wk [] (ZM true Zb fl)) hj3)
   exact Z2 3 (Xm (wk [] (ZM (op==11) Zb fl)) hj3)
  refine Z2 1 (ib (b:=((op==6)||(op==9))) 9 (fun ZP=>?_) (fun ZP=>?_))
  ·exact Z2 3 (Xm (wk [] (ZM true ZP fl)) hj2)
  exact Z2 3 (Xm (wk [] (ZM (op==10) ZP fl)) hj2)
 refine Z2 3 (ib (b:=(op==6)) 5 (fun YW=>?_) (fun YW=>?_))
 ·exact Z2 3 (Xm (wk [] (ZM true YW fl)) hj1)
 exact Z2 3 (Xm (wk [] (ZM (op==9) YW fl)) hj1)
theorem Ck (n:Zx) (s:Z3) (i:Nat) (hn:Xk n:=by exact ob) (hnum:s.op=9->0<=s.num/\s.num<n.routines.length:=by exact ob):Zf 221 [Yl n,Ym s,.i i] [] (Yt (.b (VT n s.op s.num i))):=by
 refine ZD 21 Tryz.func221 (ar (iA (YN n) fun b1=>iA (Xf s) fun b2=>Z1 (Zo 4 [0] (ib (b:=(s.op==9)) 10 (fun Zb=>?_) (fun Zb=>?_)))))
 ·have ZX:s.op=9:=(Zz).1 Zb
  refine ZU 4 [1,0] ?_
  obtain ⟨x1,Z5⟩:=Zq n.routines s.num.toNat om
  have hlt:=hn.lent_at Z5
  have hlr:=Z0z (n:=n) ZX Z5
  exact Zm (Zh none s.num 5 (WB Z5)) (Z2 3 (Zu [] (VL x1.lent (i:Int)) (Zs (Y3 (.b (decide ((i:Int)∈x1.lent))) (lb (by rw [VT,hlr]))))))
 have Y9:¬(s.op=9):=YS Zz Zb
 exact Zs (Y3 (.b false) (lb (by rw [VT,Dv,Zp Y9];simp)))
theorem DY (n:Zx) (us:LI) (s:Z3) (i:Nat) (a:Int) (hn:Xk n:=by exact ob) (hnum:s.op=9->0<=s.num/\s.num<n.routines.length:=by exact ob) (ha:s.args[i]? = some a:=by exact ob) (hi:0<=a/\a<us.length:=by exact ob):Zf 220 [Yl n,Z6 us,Ym s,.i i] [] (Yt (.b (Qu n us s.op s.num a i))):=by
 have hal:=(XA.1 ha).1
 refine ZD 30 Tryz.func220 (ar (iA (YN n) fun b1=>iA (Xf s) fun b2=>Z1 (Zo 2 [0] (Zu [] (MM s.op) (Z2 1 (ib (b:=QT s.op) 12 (fun Zb=>?_) (fun Zb=>?_)))))))
 ·refine ZU 4 [0] ?_
  obtain ⟨x1,Z5⟩:=Zq s.args i om
  have hxa:x1=a:=by rw [ha] at Z5;exact (Ay Z5).symm
  subst hxa
  refine Zm (Zh none (i:Int) 1 (ZZ Z5)) (Z2 1 ?_)
  obtain ⟨x2,Zv⟩:=Zq us x1.toNat om
  have hga:=UN Zv
  refine Zm (Zh none x1 1 (ZZ Zv)) (Z2 4 (ib (b:=(x2 != 0)) 23 (fun ZP=>?_) (fun ZP=>?_)))
  ·exact ZU 3 [1,0] (Zu [] (Ck n s i) (Zs (Y3 (.b (!VT n s.op s.num i)) (lb (by clear Z5 Zv;first|rfl|(rw [Qu];grind))))))
  exact Zs (Y3 (.b false) (lb (by clear Z5 Zv;first|rfl|(rw [Qu];grind))))
 exact Zs (Y3 (.b false) (lb (by  first|rfl|(rw [Qu];grind))))
theorem MR (xs:LI) (ys:LI) (hl_xs:xs.length<=4294967296:=by exact ob) (hl_ys:ys.length<=4294967296:=by exact ob):Zf 219 [Z6 xs,Z6 ys] [] (Yt (.b (decide (xs=ys)))):=by
 refine ZD 26 Tryz.func219 (Ya (X4 1 (iw (Ye xs) (Z2 1 (iw (Ye ys) (YR ((xs.length:Int) != (ys.length:Int)) Xd (fun Z9=>?_) (fun Z9=>?_)))))))
 ·exact ar (Zs (Y3 (.b false) (lb (eq_comm.1 (decide_eq_false (fun q=>by rw [q] at Z9;exact Z9 rfl))))))
 refine ak (Y1 (ab 0 (Y0 (fun fz gz m F h=>∃(k:Nat),(k<=xs.length)/\(xs.take k=ys.take k)/\F=sF [0,1] fz [(5,.i k)]/\h=gz/\m=xs.length-k) _ _ _ ⟨0,ob,ob,rfl,rfl,rfl⟩ (wk [] (Yd fl)) ?_)))
 rintro m F h ⟨k,Yf,Zi,rfl,rfl,rfl⟩
 refine X4 2 (iw (Ye xs) (ZT ((k:Int)<(xs.length:Int)) (fun Zg=>?_) (fun Zg=>?_)))
 ·refine ak (aq (ab 1 (aD 9 (Zk 7 9 [0,1] ?_))))
  obtain ⟨x1,Z5⟩:=Zq xs k om
  refine dx 2 (Zh none (k:Int) 1 (ZZ Z5)) (Zk 3 6 [3,4,5] ?_)
  obtain ⟨x2,Zv⟩:=Zq ys k om
  refine dx 6 (Zh none (k:Int) 1 (ZZ Zv)) (Zk 0 2 [7,8] (de (ac (x1 != x2) Xd (fun ZF=>?_) (fun ZF=>?_))))
  ·exact ar (Zs (Y3 (.b false) (lb (eq_comm.1 (decide_eq_false (fun q=>by subst q;rw [Z5] at Zv;cases Zv;exact ZF rfl))))))
  refine ak (az (Z2 1 (ZG k (Z1 ?_))))
  have hdr:=Yo Z5
  exact ZI ⟨k+1,ob,(by rw [Vh Z5,Vh Zv,Zi];have hxx:x1=x2:=om;rw [hxx]),rfl,rfl,rfl⟩ (wk [] (ZL k fl))
 exact ax 0 (ar (Zs (Y3 (.b true) (lb (eq_comm.1 (decide_eq_true (by rw [WT om,WT om] at Zi;exact Zi)))))))
theorem JG (xs:LI) (hlen:xs.length<=4294967296:=by exact ob):Zf 82 [Z6 xs] [] (fun r h=>∃(v:Hd),r=.h v/\h=[rV v xs]):=by
 exact ZD 6 Tryz.func82 (Ya (ar (Sz [] 0 fun v1=>Z2 1 (K3 0 v1 [] xs none fun v2=>Zs (r1 [0] ⟨v2,rfl,rfl⟩ (eq:=(rv (xs:=([]++xs)) ob rz)))))))
theorem TW (b:Nat) (ga:Hd) (gb:Hd) (gc:Hd) (gd:Hd) (ge:Hd) (gf:Hd) (L:Zy) (ln:LI) (t:Int) (o:Int) (p:Int) (hlb:L.vars.length<=1000000000:=by exact ob) (hlk:Uh L:=by exact ob):Zf 163 [.p b 0,.i t,.i o,.i p] [.obj b [.h ga,.h gb,.h gc,.h gd,.h ge,.h gf,Z6 ln],rV ga L.vars,rV gb L.own,rV gc L.par,rV gd L.con,rV ge L.fst,rV gf L.tok] (fun r h=>∃(wa:Hd) (wb:Hd) (wc:Hd) (wd:Hd) (we:Hd) (wf:Hd),h=[.obj b [.h wa,.h wb,.h wc,.h wd,.h we,.h wf,Z6 ln],rV wa ((L.grow t o p).vars),rV wb ((L.grow t o p).own),rV wc ((L.grow t o p).par),rV wd ((L.grow t o p).con),rV we ((L.grow t o p).fst),rV wf ((L.grow t o p).tok)]):=by
 obtain ⟨e1,e2,e3,e4,e5⟩:=hlk
 exact ZD 65 Tryz.func163 (Zo 6 [0] (iL (Z7 [t]) 1 1 fun v1=>ZE 0 [(14,Z6 [t])] (K3 2 ga L.vars [t] none fun v2=>Z2 2 (ZA 2 b [.h v2,.h gb,.h gc,.h gd,.h ge,.h gf,Z6 ln] (ie (Zo 6 [0] (iL (Z7 [o]) 1 1 fun v3=>ZE 0 [(24,Z6 [o])] (K3 4 gb L.own [o] none fun v4=>Z2 2 (ZA 2 b [.h v2,.h v4,.h gc,.h gd,.h ge,.h gf,Z6 ln] (ie (Zo 6 [0] (iL (Z7 [p]) 1 1 fun v5=>ZE 0 [(34,Z6 [p])] (K3 6 gc L.par [p] none fun v6=>Z2 2 (ZA 2 b [.h v2,.h v4,.h v6,.h gd,.h ge,.h gf,Z6 ln] (ie (Zo 5 [0] (iL (Z7 [-1]) 1 1 fun v7=>ZE 0 [(43,Z6 [-1])] (K3 8 gd L.con [-1] none fun v8=>Z2 2 (ZA 2 b [.h v2,.h v4,.h v6,.h v8,.h ge,.h gf,Z6 ln] (ie (Zo 5 [0] (iL (Z7 [-1]) 1 1 fun v9=>ZE 0 [(52,Z6 [-1])] (K3 10 ge L.fst [-1] none fun v10=>Z2 2 (ZA 2 b [.h v2,.h v4,.h v6,.h v8,.h v10,.h gf,Z6 ln] (ie (az (ZU 5 [0] (iL (Z7 [-1]) 1 1 fun v11=>ZE 0 [(61,Z6 [-1])] (K3 12 gf L.tok [-1] none fun v12=>Z2 2 (ZA 2 b [.h v2,.h v4,.h v6,.h v8,.h v10,.h v12,Z6 ln] (ie (r2 [0,10,8,6,4,2,0] [] ⟨v2,v4,v6,v8,v10,v12,rfl⟩ (lr _) (eq:=(rc (rv (xs:=(L.vars++[t])) ob (rv (xs:=(L.own++[o])) ob (rv (xs:=(L.par++[p])) ob (rv (xs:=(L.con++[-1])) ob (rv (xs:=(L.fst++[-1])) ob (rv (xs:=(L.tok++[-1])) ob rz))))))))))))))))))))))))))))))))))))))))
theorem Z0u (b:Nat) (ga:Hd) (gb:Hd) (gc:Hd) (gd:Hd) (ge:Hd) (gf:Hd) (L:Zy) (ln:LI) (hlb:L.vars.length<=1000000000:=by exact ob) (hlk:Uh L:=by exact ob) (hln:ln.length<=4294967296:=by exact ob):Zf 266 [.p b 0] [.obj b [.h ga,.h gb,.h gc,.h gd,.h ge,.h gf,Z6 ln],rV ga L.vars,rV gb L.own,rV gc L.par,rV gd L.con,rV ge L.fst,rV gf L.tok] (fun r h=>∃(c:Nat) (wa:Hd) (wb:Hd) (wc:Hd) (wd:Hd) (we:Hd) (wf:Hd),r=.p c 0/\h=[.obj c [.h wa,.h wb,.h wc,.h wd,.h we,.h wf,Z6 ln],rV wa L.vars,rV wb L.own,rV wc L.par,rV wd L.con,rV we L.fst,rV wf L.tok,.obj b [.h ga,.h gb,.h gc,.h gd,.h ge,.h gf,Z6 ln],rV ga L.vars,rV gb L.own,rV gc L.par,rV gd L.con,rV ge L.fst,rV gf L.tok]):=by
 obtain ⟨e1,e2,e3,e4,e5⟩:=hlk
 refine ZD 40 Tryz.func266 (Ya (aD 38 (ZH 10 38 [0,1,2,3,5,6,7,8,10,11,12,13,15,16,17,18,20,21,22,23,25,26,27,28,30,31,32,33] [0,0,0,0,0,0,0] (Z8 4 (QV 4 [1] [0,0,0,0,0,0] [b,b,b,b,b,b] [rV ga L.vars] (JG L.vars) AH (gL (v:=ga) 0 gN) (TX QE) ?_)))))
 rintro _ _ ⟨v1,rfl,rfl⟩
 refine Z8 9 (QV 9 [3] [0,0,0,0,0] [b,b,b,b,b] [rV gb L.own] (JG L.own) AH (gL (v:=gb) 0 gN) (TX QE) ?_)
 rintro _ _ ⟨v2,rfl,rfl⟩
 refine Z8 14 (QV 14 [5] [0,0,0,0] [b,b,b,b] [rV gc L.par] (JG L.par) AH (gL (v:=gc) 0 gN) (TX QE) ?_)
 rintro _ _ ⟨v3,rfl,rfl⟩
 refine Z8 19 (QV 19 [7] [0,0,0] [b,b,b] [rV gd L.con] (JG L.con) AH (gL (v:=gd) 0 gN) (TX QE) ?_)
 rintro _ _ ⟨v4,rfl,rfl⟩
 refine Z8 24 (QV 24 [9] [0,0] [b,b] [rV ge L.fst] (JG L.fst) AH (gL (v:=ge) 0 gN) (TX QE) ?_)
 rintro _ _ ⟨v5,rfl,rfl⟩
 refine Z8 29 (QV 29 [11] [0] [b] [rV gf L.tok] (JG L.tok) AH (gL (v:=gf) 0 gN) (TX QE) ?_)
 rintro _ _ ⟨v6,rfl,rfl⟩
 refine Z8 34 (dc 34 [] [] [] (Vr ln) ?_)
 rintro _ _ ⟨v7,rfl,rfl⟩
 exact Yh 2 3 [35] [(38,.agg [.h v1,.h v2,.h v3,.h v4,.h v5,.h v6,Z6 ln])] (Z8 36 (dA 36 [] [] [.h v1,.h v2,.h v3,.h v4,.h v5,.h v6,Z6 ln] fun b1=>Zk 0 1 [37] (de (ZK (r1 [0,11,9,7,5,3,1,7,6,5,4,3,2,1] ⟨b1,v1,v2,v3,v4,v5,v6,rfl,rfl⟩)))))
theorem Dt (b:Nat) (ga:Hd) (gb:Hd) (gc:Hd) (gd:Hd) (ge:Hd) (gf:Hd) (L:Zy) (ln:LI) (i:Int) (hlk:Uh L:=by exact ob) (hi:0<=i/\i<L.vars.length:=by exact ob) (hq:∀x∈L.own,0<=x/\x<=1000000000):Zf 165 [.p b 0,.i i] [.obj b [.h ga,.h gb,.h gc,.h gd,.h ge,.h gf,Z6 ln],rV ga L.vars,rV gb L.own,rV gc L.par,rV gd L.con,rV ge L.fst,rV gf L.tok] (fun r h=>(∃(wa:Hd) (wb:Hd) (wc:Hd) (wd:Hd) (we:Hd) (wf:Hd) (L':Zy),r=.b true/\h=[.obj b [.h wa,.h wb,.h wc,.h wd,.h we,.h wf,Z6 ln],rV wa L'.vars,rV wb L'.own,rV wc L'.par,rV wd L'.con,rV we L'.fst,rV wf L'.tok]/\UI L i=some L')∨(r=.b false/\h=[]/\UI L i=none)):=by
 obtain ⟨e1,e2,e3,e4,e5⟩:=hlk
 refine ZD 27 Tryz.func165 (Ya (Y6 5 [0] (Zm (V9 2 gb L.own i i.toNat (hq:=rfl)) ?_)))
 obtain ⟨x1,Z5⟩:=Zq L.own i.toNat om
 have hxq:=hq _ (ZW Z5)
 have hgi:=UN Z5
 refine Vn (T2 2 gb L.own i.toNat x1 Z5) (ZT (x1<1) (fun Z9=>?_) (fun Z9=>?_))
 ·exact ar (Zs (r1 [] (.inr ⟨rfl,rfl,(by rw [UI,hgi,Zw Z9])⟩)))
 exact ak (aD 15 (ZH 5 15 [0,1,2,3,4,5,6,7,8,9] [0,0] (dx 10 (V9 2 gb L.own i i.toNat (hq:=rfl)) (Vu 11 (T2 2 gb L.own i.toNat x1 Z5) (da 12 ((x1-1)) ((x1)-(1)) (dx 13 (V9 2 gb L.own i i.toNat (hq:=rfl)) (Z8 14 (Jk 14 2 [] [] gb L.own i.toNat (x1-1) (de (ar (Zs (r1 [1,1,0,0,0,0,0] (.inl ⟨ga,gb,gc,gd,ge,gf,(Zy.mk L.vars (L.own.set i.toNat (x1-1)) L.par L.con L.fst L.tok),rfl,rfl,(by rw [UI,hgi,Zp Z9])⟩) (eq:=(rc (rv (xs:=L.vars) ob (rv (xs:=(L.own.set i.toNat (x1-1))) ob (rv (xs:=L.par) ob (rv (xs:=L.con) ob (rv (xs:=L.fst) ob (rv (xs:=L.tok) ob rz))))))))))))))))))))
theorem Ds (b:Nat) (ga:Hd) (gb:Hd) (gc:Hd) (gd:Hd) (ge:Hd) (gf:Hd) (L:Zy) (ln:LI) (i:Int) (hlk:Uh L:=by exact ob) (hln:ln.length<=4294967296:=by exact ob) (hi:0<=i/\i<L.vars.length:=by exact ob) (hd:∀j:Int,0<=j->j<L.vars.length->gI L.par j<j):Zf 88 [.p b 0,.i i] [.obj b [.h ga,.h gb,.h gc,.h gd,.h ge,.h gf,Z6 ln],rV ga L.vars,rV gb L.own,rV gc L.par,rV gd L.con,rV ge L.fst,rV gf L.tok] (fun r h=>r=.b (VX L ln i)/\h=[.obj b [.h ga,.h gb,.h gc,.h gd,.h ge,.h gf,Z6 ln],rV ga L.vars,rV gb L.own,rV gc L.par,rV gd L.con,rV ge L.fst,rV gf L.tok]):=by
 obtain ⟨e1,e2,e3,e4,e5⟩:=hlk
 refine ZD 31 Tryz.func88 (Ya (aq (ab 0 (Y0 (fun fz gz m F h=>∃(j:Int),(0<=j/\j<L.vars.length)/\(Tv L.own L.par ln (j.toNat+1) j=VX L ln i)/\F=sF [0] fz [(1,.i j)]/\h=gz/\m=j.toNat) _ _ _ ⟨i,ob,ob,rfl,rfl,rfl⟩ (ZV 7 fl) ?_))))
 rintro m F h ⟨j,Yf,Zi,rfl,rfl,rfl⟩
 refine Y6 5 [0] (Zm (V9 2 gb L.own j j.toNat (hq:=rfl)) ?_)
 obtain ⟨x1,Z5⟩:=Zq L.own j.toNat om
 have hg1:=UN Z5
 refine Vn (T2 2 gb L.own j.toNat x1 Z5) (XM [0,1] [(21,.b ((decide (x1<1))&&(!(decide (j∈ln)))))] (fun gz=>gz) ?_ ?_)
 ·refine Z2 2 (ib (b:=(decide (x1<1))) 13 (fun Zb=>?_) (fun Zb=>?_))
  ·exact ZU 5 [0] (Zu [] (VL ln j) (Z1 (ZV 7 (ZM (!(decide (j∈ln))) Zb fl))))
  exact Z1 (ZV 7 (ZM false Zb fl))
 refine ac ((decide (x1<1))&&(!(decide (j∈ln)))) (p:=(x1<1)/\(¬(j∈ln))) (Xv dq (Xh dq)) (fun Z9=>?_) (fun Z9=>?_)
 ·refine ak (ab 1 (Zo 5 [0] (Zm (V9 3 gc L.par j j.toNat (hq:=rfl)) ?_)))
  obtain ⟨x2,Zv⟩:=Zq L.par j.toNat om
  have hg2:=UN Zv
  have hdj:=hd j om om
  rw [hg2] at hdj
  refine Vn (T2 3 gc L.par j.toNat x2 Zv) (Z1 (ar (ZT (x2<0) (fun Zg=>?_) (fun Zg=>?_))))
  ·exact ar (Zs (r2 [0,0,0,0,0,0,0] [.b false] ⟨rfl,rfl⟩ (lb (NZ hg1 hg2 Z9 Zg Zi))))
  exact ak (ZI ⟨x2,om,(O0 hg1 hg2 Yf Z9 Zg hd Zi),rfl,rfl,rfl⟩ (ZV 7 fl))
 exact ax 0 (ar (Zs (r2 [0,0,0,0,0,0,0] [.b true] ⟨rfl,rfl⟩ (lb (O1 hg1 Z9 Zi)))))
theorem L7 (b:Nat) (ga:Hd) (gb:Hd) (gc:Hd) (gd:Hd) (ge:Hd) (gf:Hd) (L:Zy) (ln:LI) (mm:Nat) (hlk:Uh L:=by exact ob) (hlb:L.vars.length<=1000000000:=by exact ob) (hm:mm<=L.vars.length:=by exact ob):Zf 130 [.p b 0,.i mm] [.obj b [.h ga,.h gb,.h gc,.h gd,.h ge,.h gf,Z6 ln],rV ga L.vars,rV gb L.own,rV gc L.par,rV gd L.con,rV ge L.fst,rV gf L.tok] (fun r h=>(∃(wa:Hd) (wb:Hd) (wc:Hd) (wd:Hd) (we:Hd) (wf:Hd) (L':Zy),r=.b true/\h=[.obj b [.h wa,.h wb,.h wc,.h wd,.h we,.h wf,Z6 ln],rV wa L'.vars,rV wb L'.own,rV wc L'.par,rV wd L'.con,rV we L'.fst,rV wf L'.tok]/\QU L mm=some L')∨(r=.b false/\h=[]/\QU L mm=none)):=by
 obtain ⟨e1,e2,e3,e4,e5⟩:=hlk
 refine ZD 88 Tryz.func130 (Ya (Y1 (ab 0 (Y0 (fun fz gz m F h=>∃(k:Nat),(mm<=k/\k<=L.vars.length)/\(JJ (L.own.drop k) (L.tok.drop k)=JJ (L.own.drop mm) (L.tok.drop mm))/\F=sF [0,1] fz [(5,.i k)]/\h=gz/\m=L.vars.length-k) _ _ _ ⟨mm,ob,ob,rfl,rfl,rfl⟩ (ZV 7 fl) ?_))))
 rintro m F h ⟨k,Yf,Zi,rfl,rfl,rfl⟩
 refine Y6 5 [0] (Zm (Au 1 ga L.vars) (ZT ((k:Int)<(L.vars.length:Int)) (fun Z9=>?_) (fun Z9=>?_)))
 ·refine ak (aq (ab 1 (Zo 5 [0] (Zm (V9 2 gb L.own (k:Int) k) ?_))))
  obtain ⟨x1,Z5⟩:=Zq L.own k om
  refine Vn (T2 2 gb L.own k x1 Z5) (Z2 2 (ib (b:=(x1 != 0)) 24 (fun Zb=>?_) (fun Zb=>?_)))
  ·have ZX:x1≠0:=(Xd).1 Zb
   refine Z1 (Vj (Ya ?_))
   obtain ⟨y2,hy2⟩:=Zq L.tok k om
   exact ZK (r1 [] (.inr ⟨rfl,rfl,(by rw [QU,<-Zi,Yo Z5,Yo hy2,JJ,Zw (show x1≠0∨0<=y2 by omega)];rfl)⟩))
  have Y9:¬(x1≠0):=YS Xd Zb
  refine ZU 5 [0] (Zm (V9 6 gf L.tok (k:Int) k) ?_)
  obtain ⟨x2,Zv⟩:=Zq L.tok k om
  refine Vn (T2 6 gf L.tok k x2 Zv) (ZT (x2>=0) (fun Zg=>?_) (fun Zg=>?_))
  ·exact ar (Zs (r1 [] (.inr ⟨rfl,rfl,(by rw [QU,<-Zi,Yo Z5,Yo Zv,JJ,Zw (show x1≠0∨0<=x2 by omega)];rfl)⟩)))
  exact ak (az (Z2 1 (ZG k (Z1 (ZI ⟨k+1,ob,(by rw [Yo Z5,Yo Zv,JJ,Zp om] at Zi;exact Zi),rfl,rfl,rfl⟩ (ZV 7 (ZL k fl)))))))
 exact ax 0 (Zo 6 [0] (Zm (Bo 1 ga L.vars mm) (Z2 2 (Xx (Bn 1 mm ga L.vars) (ZA 1 b [.h (ga.cut mm),.h gb,.h gc,.h gd,.h ge,.h gf,Z6 ln] (ie (Zo 6 [0] (Zm (Bo 2 gb L.own mm) (Z2 2 (Xx (Bn 2 mm gb L.own) (ZA 1 b [.h (ga.cut mm),.h (gb.cut mm),.h gc,.h gd,.h ge,.h gf,Z6 ln] (ie (Zo 6 [0] (Zm (Bo 3 gc L.par mm) (Z2 2 (Xx (Bn 3 mm gc L.par) (ZA 1 b [.h (ga.cut mm),.h (gb.cut mm),.h (gc.cut mm),.h gd,.h ge,.h gf,Z6 ln] (ie (Zo 6 [0] (Zm (Bo 4 gd L.con mm) (Z2 2 (Xx (Bn 4 mm gd L.con) (ZA 1 b [.h (ga.cut mm),.h (gb.cut mm),.h (gc.cut mm),.h (gd.cut mm),.h ge,.h gf,Z6 ln] (ie (Zo 6 [0] (Zm (Bo 5 ge L.fst mm) (Z2 2 (Xx (Bn 5 mm ge L.fst) (ZA 1 b [.h (ga.cut mm),.h (gb.cut mm),.h (gc.cut mm),.h (gd.cut mm),.h (ge.cut mm),.h gf,Z6 ln] (ie (Zo 6 [0] (Zm (Bo 6 gf L.tok mm) (Z2 2 (Xx (Bn 6 mm gf L.tok) (ZA 1 b [.h (ga.cut mm),.h (gb.cut mm),.h (gc.cut mm),.h (gd.cut mm),.h (ge.cut mm),.h (gf.cut mm),Z6 ln] (ie (ar (Zs (r1 [0,5,4,3,2,1,0] (.inl ⟨(ga.cut mm),(gb.cut mm),(gc.cut mm),(gd.cut mm),(ge.cut mm),(gf.cut mm),(Zy.mk (L.vars.take mm) (L.own.take mm) (L.par.take mm) (L.con.take mm) (L.fst.take mm) (L.tok.take mm)),rfl,rfl,(by rw [QU,Zw (by rw [<-Zi,Xz om];rfl)];rfl)⟩) (eq:=(rc (rv (xs:=(L.vars.take mm)) ob (rv (xs:=(L.own.take mm)) ob (rv (xs:=(L.par.take mm)) ob (rv (xs:=(L.con.take mm)) ob (rv (xs:=(L.fst.take mm)) ob (rv (xs:=(L.tok.take mm)) ob rz)))))))))))))))))))))))))))))))))))))))))))))))
theorem Z0w (b:Nat) (ga:Hd) (gb:Hd) (gc:Hd) (gd:Hd) (ge:Hd) (gf:Hd) (n:Zx) (s:Z3) (L:Zy) (ln:LI) (q:Int) (x:Int) (hn:Xk n:=by exact ob) (hk:Xn n.decls L q:=by exact ob) (hlb:L.vars.length<=1000000000:=by exact ob) (ha:s.args[0]? = some x:=by exact ob) (hx:0<=x/\x<L.vars.length:=by exact ob) (hq:0<=q/\q<=999999990:=by exact ob):Zf 166 [.p b 0,Yl n,Ym s] [.obj b [.h ga,.h gb,.h gc,.h gd,.h ge,.h gf,Z6 ln],rV ga L.vars,rV gb L.own,rV gc L.par,rV gd L.con,rV ge L.fst,rV gf L.tok] (fun r h=>(∃(wa:Hd) (wb:Hd) (wc:Hd) (wd:Hd) (we:Hd) (wf:Hd) (L':Zy),r=.b true/\h=[.obj b [.h wa,.h wb,.h wc,.h wd,.h we,.h wf,Z6 ln],rV wa L'.vars,rV wb L'.own,rV wc L'.par,rV wd L'.con,rV we L'.fst,rV wf L'.tok]/\K8 n.decls L s.op x=some L')∨(r=.b false/\h=[]/\K8 n.decls L s.op x=none)):=by
 obtain ⟨e1,e2,e3,e4,e5⟩:=hk.len
 have XD:=hn.decls
 have hal:=(XA.1 ha).1
 obtain ⟨xcon,hxcon⟩:=Zq L.con ((x).toNat) om
 have hgcon:=UN hxcon
 obtain ⟨xtok,hxtok⟩:=Zq L.tok ((x).toNat) om
 have hgtok:=UN hxtok
 obtain ⟨xfst,hxfst⟩:=Zq L.fst ((x).toNat) om
 have hgfst:=UN hxfst
 have hfl:=VD XD xcon
 have har:=hk.arm x om om
 rw [hgcon,hgfst] at har
 refine ZD 105 Tryz.func166 (ar (iA (YN n) fun b1=>iA (Xf s) fun b2=>Z1 (Zo 2 [0] (Zm (Zh none 0 1 (ZZ ha)) (Z1 (Y6 5 [2] (Zm (V9 6 gd L.con x x.toNat (hq:=rfl)) (Vn (T2 6 gd L.con x.toNat xcon hxcon) (WQ 23 [0,4,5,7] [(36,.b ((decide (xcon<0))||((s.op==17)&&(decide (xtok>=0)))))] (fun gz=>gz) ?_ (fun hj1=>?_))))))))))
 ·refine Z2 1 (ib (b:=((decide (xcon<0))||((s.op==17)&&(decide (xtok>=0))))) 37 (fun Zb=>?_) (fun Zb=>?_))
  ·have ZX:(xcon<0)∨((s.op=17)/\(xtok>=0)):=((Xo dq (Xv Zz dq))).1 Zb
   exact Z1 (Vj (ar (Zs (r1 [] (.inr ⟨rfl,rfl,(by rw [K8,hgcon,hgtok,Zw om])⟩)))))
  have Y9:¬((xcon<0)∨((s.op=17)/\(xtok>=0))):=YS (Xo dq (Xv Zz dq)) Zb
  refine Z2 2 (ic [2,2,2,2,2,2,2] (Dt b ga gb gc gd ge gf L ln x (hlk:=hk.len) (hq:=(fun y hy=>⟨hk.nn y hy,by have:=hk.bd y hy;omega⟩))) ?_)
  rintro _ _ (⟨wa1,wb1,wc1,wd1,we1,wf1,L'1,rfl,rfl,YL⟩|⟨rfl,rfl,YX⟩)
  ·obtain ⟨t1,t2,t3,t4,t5,t6,t7⟩:=QI YL
   have hk1:=hk.take YL
   obtain ⟨f1,f2,f3,f4,f5⟩:=hk1.len
   have hxcon1:L'1.con[x.toNat]? = some xcon:=by rw [t4];exact hxcon
   have hvl:L'1.vars.length=L.vars.length:=by rw [t2]
   have har2:=har om
   have hxfst1:L'1.fst[x.toNat]? = some xfst:=by rw [t5];exact hxfst
   refine Z1 (Wz (ak (aD 11 (ZH 4 11 [0,1,2,3,4,5,6] [8,0] (dx 7 (V9 4 wd1 L'1.con x x.toNat (hq:=rfl)) (Vu 8 (T2 4 wd1 L'1.con x.toNat xcon hxcon1) (Z8 9 (Yp 9 [] [] [] (Q0 n.decls xcon) (Zk 0 1 [10] (de (Y1 (ab 0 (Y0 (fun fz gz m F h=>∃(k:Nat) (o:LI),(k<=(Y4 n.decls xcon).length)/\(o.length=L.vars.length)/\(∀y∈o,0<=y/\y<=q+k)/\(T8 o (xfst+k) ((Y4 n.decls xcon).drop k)=T8 L'1.own xfst (Y4 n.decls xcon))/\F=sF [0,5,7,8] fz [(9,.i k)]/\h=[Za gz 0,Za gz 1,rV wb1 o,Za gz 3,Za gz 4,Za gz 5,Za gz 6,Za gz 7]/\m=(Y4 n.decls xcon).length-k) _ _ _ ⟨0,L'1.own,ob,om,(by intro y hy;have h1:=hk1.nn y hy;have h2:=hk1.bd y hy;omega),(by rw [show xfst+((0:Nat):Int)=xfst by omega,TL]),rfl,rfl,rfl⟩ (ZV 8 (Yd fl)) ?_)))))))))))))
   rintro m F h ⟨k,o,Yf,Zi,Zr,YA,rfl,rfl,rfl⟩
   refine X4 2 (io (.i (((Y4 n.decls xcon).length:Nat):Int)) (.i (((Z7 (Y4 n.decls xcon)).length:Nat):Int)) (li (by rw [Ye])) (ZT ((k:Int)<(((Y4 n.decls xcon).length:Nat):Int)) (fun Z9=>?_) (fun Z9=>?_)))
   ·refine ak (aq (ab 1 (Yg 2 ?_)))
    obtain ⟨x1,Z5⟩:=Zq (Y4 n.decls xcon) k om
    refine Zm (Zh none (k:Int) 1 (ZZ Z5)) (YR (x1 != 0) Xd (fun Zg=>?_) (fun Zg=>?_))
    ·refine aE 31 (ZH 22 31 [0,1,2,3,4,5,6,7,8] [0,0] (dx 9 (V9 5 we1 L'1.fst x x.toNat (hq:=rfl)) (Vu 10 (T2 5 we1 L'1.fst x.toNat xfst hxfst1) (Zk 19 20 [11] (da 12 ((xfst+(k:Int))) ((xfst)+((k:Int))) (ZH 9 18 [13,14,15,16,17,18,19,20,21] [0,0] (dx 22 (V9 5 we1 L'1.fst x x.toNat (hq:=rfl)) (Vu 23 (T2 5 we1 L'1.fst x.toNat xfst hxfst1) (Zk 6 7 [24] (da 25 ((xfst+(k:Int))) ((xfst)+((k:Int))) (dx 26 (V9 2 wb1 o (xfst+(k:Int)) ((xfst+(k:Int)).toNat) (hq:=rfl)) ?_)))))))))))
     obtain ⟨x2,Zv⟩:=Zq o ((xfst+(k:Int)).toNat) om
     have hy2:=Zr _ (ZW Zv)
     exact Vu 27 (T2 2 wb1 o ((xfst+(k:Int)).toNat) x2 Zv) (da 28 ((x2+1)) ((x2)+(1)) (dx 29 (V9 2 wb1 o (xfst+(k:Int)) ((xfst+(k:Int)).toNat) (hq:=rfl)) (Z8 30 (Jk 30 2 [] [] wb1 o ((xfst+(k:Int)).toNat) (x2+1) (de (az (Z2 1 (ZG k (Z1 (ZI ⟨k+1,(o.set (xfst+(k:Nat)).toNat (x2+1)),ob,ob,(by intro y hy;first|(rcases K5 hy with hy|rfl<;>first|(have:=Zr y hy;omega)|omega)|(have:=Zr y hy;omega)),(by rw [Yo Z5,T8] at YA;first|(rw [Zw Zg,UN Zv] at YA;rw [show xfst+((k+1:Nat):Int)=xfst+k+1 by omega];exact YA)|(rw [Zp Zg] at YA;rw [show xfst+((k+1:Nat):Int)=xfst+k+1 by omega];exact YA)),rfl,rfl,rfl⟩ (wk [1,1,0,0,0,0,0,0] (ZL k fl) (e:=(rc (rc (rv (xs:=(o.set ((xfst+(k:Int)).toNat) (x2+1))) ob (rc (rc (rc (rc (rc rz))))))))))))))))))))
    exact ak (az (Z2 1 (ZG k (Z1 (ZI ⟨k+1,o,ob,ob,(by intro y hy;first|(rcases K5 hy with hy|rfl<;>first|(have:=Zr y hy;omega)|omega)|(have:=Zr y hy;omega)),(by rw [Yo Z5,T8] at YA;first|(rw [Zw Zg,UN Zv] at YA;rw [show xfst+((k+1:Nat):Int)=xfst+k+1 by omega];exact YA)|(rw [Zp Zg] at YA;rw [show xfst+((k+1:Nat):Int)=xfst+k+1 by omega];exact YA)),rfl,rfl,rfl⟩ (ZV 8 (ZL k fl)))))))
   refine ax 0 (X7 (Vx [7] (ac (s.op==17) Zz (fun ZF=>?_) (fun ZF=>?_))))
   ·refine az (ZU 6 [0] (io (.i (((Y4 n.decls xcon).length:Nat):Int)) (.i (((Z7 (Y4 n.decls xcon)).length:Nat):Int)) (li (by rw [Ye])) (Zm (V9 6 wf1 L'1.tok x x.toNat (hq:=rfl)) (IB 6 wf1 L'1.tok x.toNat (((Y4 n.decls xcon).length:Nat):Int) (ie (Ya ?_))))))
    have hof:o=T8 L'1.own xfst (Y4 n.decls xcon):=by rw [<-YA,Xz om];rfl
    exact ZK (r1 [1,1,1,1,1,1,0] (.inl ⟨wa1,wb1,wc1,wd1,we1,wf1,(Zy.mk L'1.vars o L'1.par L'1.con L'1.fst (L'1.tok.set x.toNat (((Y4 n.decls xcon).length:Nat):Int))),rfl,rfl,(by rw [K8,hgcon,hgfst,hgtok,Zp om,YL,hof,t6];simp [ZF,t2,t3,t4,t5])⟩) (eq:=(rc (rv (xs:=L'1.vars) ob (rv (xs:=o) ob (rv (xs:=L'1.par) ob (rv (xs:=L'1.con) ob (rv (xs:=L'1.fst) ob (rv (xs:=(L'1.tok.set x.toNat (((Y4 n.decls xcon).length:Nat):Int))) ob rz)))))))))
   refine ak (Ya ?_)
   have hof:o=T8 L'1.own xfst (Y4 n.decls xcon):=by rw [<-YA,Xz om];rfl
   exact ZK (r1 [0,0,0,0,0,0,0] (.inl ⟨wa1,wb1,wc1,wd1,we1,wf1,(Zy.mk L'1.vars o L'1.par L'1.con L'1.fst L'1.tok),rfl,rfl,(by rw [K8,hgcon,hgfst,hgtok,Zp om,YL,hof,t6];simp [ZF,t2,t3,t4,t5])⟩) (eq:=(rc (rv (xs:=L'1.vars) ob (rv (xs:=o) ob (rv (xs:=L'1.par) ob (rv (xs:=L'1.con) ob (rv (xs:=L'1.fst) ob (rv (xs:=L'1.tok) ob rz)))))))))
  exact Z1 (Vj (ar (Zs (r1 [] (.inr ⟨rfl,rfl,(by rw [K8,hgcon,hgtok,Zp om,YX])⟩)))))
 refine Z2 2 (ib (b:=(decide (xcon<0))) 22 (fun ZP=>?_) (fun ZP=>?_))
 ·have X9:xcon<0:=(dq).1 ZP
  exact Z2 14 (Xm (ZV 9 (ZM true ZP fl)) hj1)
 have XV:¬(xcon<0):=YS dq ZP
 refine ZU 4 [0] (ib (b:=(s.op==17)) 26 (fun YW=>?_) (fun YW=>?_))
 ·have Wu:s.op=17:=(Zz).1 YW
  exact ZU 5 [2] (Zm (V9 8 gf L.tok x x.toNat (hq:=rfl)) (Vn (T2 8 gf L.tok x.toNat xtok hxtok) (Z2 3 (Xm (ZV 9 (ZM (decide (xtok>=0)) (And.intro ZP YW) fl)) hj1))))
 have V5:¬(s.op=17):=YS Zz YW
 exact Z2 10 (Xm (ZV 9 (ZM false (And.intro ZP YW) fl)) hj1)
theorem Z0v (b:Nat) (ga:Hd) (gb:Hd) (gc:Hd) (gd:Hd) (ge:Hd) (gf:Hd) (n:Zx) (s:Z3) (L:Zy) (ln:LI) (q:Int) (hn:Xk n:=by exact ob) (hnum:s.op=9->0<=s.num/\s.num<n.routines.length:=by exact ob) (hk:Xn n.decls L q:=by exact ob) (hlb:L.vars.length<=1000000000:=by exact ob) (hargs:∀a∈s.args,0<=a/\a<L.vars.length) (hinto:0<s.into->s.into<=L.vars.length:=by exact ob) (hal:s.args.length<=1000000000:=by exact ob) (hln:ln.length<=4294967296:=by exact ob) (hq:0<=q/\q<=999999990:=by exact ob):Zf 168 [.p b 0,Yl n,Ym s] [.obj b [.h ga,.h gb,.h gc,.h gd,.h ge,.h gf,Z6 ln],rV ga L.vars,rV gb L.own,rV gc L.par,rV gd L.con,rV ge L.fst,rV gf L.tok] (fun r h=>(∃(wa:Hd) (wb:Hd) (wc:Hd) (wd:Hd) (we:Hd) (wf:Hd) (L':Zy),r=.b true/\h=[.obj b [.h wa,.h wb,.h wc,.h wd,.h we,.h wf,Z6 ln],rV wa L'.vars,rV wb L'.own,rV wc L'.par,rV wd L'.con,rV we L'.fst,rV wf L'.tok]/\Qx n ln L s.op s.num s.into s.args=some L')∨(r=.b false/\h=[]/\Qx n ln L s.op s.num s.into s.args=none)):=by
 obtain ⟨e1,e2,e3,e4,e5⟩:=hk.len
 refine ZD 79 Tryz.func168 (ar (iA (YN n) fun b1=>iA (Xf s) fun b2=>?_))
 refine Z1 (Y1 (ab 0 (Y0 (fun fz gz m F h=>∃(k:Nat) (L2:Zy) (ka:Hd) (kb:Hd) (kc:Hd) (kd:Hd) (ke:Hd) (kf:Hd),(k<=s.args.length)/\(Xn n.decls L2 q)/\(L2.vars=L.vars)/\(TT n s.op s.num (s.args.drop k) k L2=TT n s.op s.num s.args 0 L)/\F=sF [0,4,5] fz [(7,.i k)]/\h=[Za gz 0,Za gz 1,.obj b [.h ka,.h kb,.h kc,.h kd,.h ke,.h kf,Z6 ln],rV ka L2.vars,rV kb L2.own,rV kc L2.par,rV kd L2.con,rV ke L2.fst,rV kf L2.tok]/\m=s.args.length-k) _ _ _ ⟨0,L,ga,gb,gc,gd,ge,gf,ob,hk,ob,ob,rfl,rfl,rfl⟩ (ZV 9 (Yd fl)) ?_)))
 rintro m F h ⟨k,L2,ka,kb,kc,kd,ke,kf,Yf,Zi,Zr,YA,rfl,rfl,rfl⟩
 refine Y6 3 [0] (iw (Ye s.args) (ZT ((k:Int)<(s.args.length:Int)) (fun Z9=>?_) (fun Z9=>?_)))
 ·obtain ⟨a1,ha1⟩:=Zq s.args k om
  obtain ⟨e6,e7,e8,e9,e10⟩:=Zi.len
  have hav:=hargs a1 (ZW ha1)
  have hvl:L2.vars.length=L.vars.length:=by rw [Zr]
  refine ak (aq (ab 1 (aD 18 (ZH 11 18 [0,1,2,3,4,5,6] [1,2,0] (Z8 7 (QV 7 [3] [] [] [rV ka L2.vars] (DY n L2.vars s k a1 (ha:=ha1)) CM (gS (gL (v:=ka) 0 (gS (gS gN)))) (TX QE) ?_))))))
  rintro _ _ ⟨rfl,rfl⟩
  refine Zk 9 10 [8] (db (b:=Qu n L2.vars s.op s.num a1 k) 24 (fun Zb=>?_) (fun Zb=>?_))
  ·have ZX:Qu n L2.vars s.op s.num a1 k=true:=(Iff.rfl).1 Zb
   refine ZH 5 9 [9,10,11,12] [1] (dx 13 (Zh none (k:Int) 1 (ZZ ha1)) (Zk 3 4 [14] (Z8 15 (dc 15 [3,0,2,2,2,2,2] [] [] (Dt b ka kb kc kd ke kf L2 ln a1 (hlk:=Zi.len) (hq:=(fun y hy=>⟨Zi.nn y hy,by have:=Zi.bd y hy;omega⟩))) ?_))))
   rintro _ _ (⟨wa1,wb1,wc1,wd1,we1,wf1,L'1,rfl,rfl,Y9⟩|⟨rfl,rfl,YL⟩)
   ·obtain ⟨t1,t2,t3,t4,t5,t6,t7⟩:=QI Y9
    have hk2:=Zi.take Y9
    exact Zk 0 2 [16,17] (de (Wz (ak (az (Z2 1 (ZG k (Z1 (ZI ⟨k+1,L'1,wa1,wb1,wc1,wd1,we1,wf1,ob,hk2,(t2.trans Zr),(by rw [Yo ha1,TT,Zw ZX] at YA;simp only [Y9] at YA;exact YA),rfl,rfl,rfl⟩ (wk [7,7,0,0,0,0,0,0,0] (ZL k fl))))))))))
   exact Zk 0 2 [16,17] (de (Vj (ar (Zs (r1 [] (.inr ⟨rfl,rfl,(by rw [Qx,<-YA,Yo ha1,TT,Zw ZX,YL])⟩))))))
  have YX:¬(Qu n L2.vars s.op s.num a1 k=true):=YS Iff.rfl Zb
  exact Zk 0 9 [9,10,11,12,13,14,15,16,17] (de (Wz (ak (az (Z2 1 (ZG k (Z1 (ZI ⟨k+1,L2,ka,kb,kc,kd,ke,kf,ob,Zi,Zr,(by rw [Yo ha1,TT,Zp YX] at YA;exact YA),rfl,rfl,rfl⟩ (wk [1,1,1,0,0,0,0,0,0] (ZL k fl))))))))))
 have hT:TT n s.op s.num s.args 0 L=some L2:=by rw [<-YA,Xz om];rfl
 obtain ⟨e6,e7,e8,e9,e10⟩:=Zi.len
 have hvl:L2.vars.length=L.vars.length:=by rw [Zr]
 refine ax 0 (Y1 (ab 2 (Y0 (fun fz gz m F h=>∃(j:Nat),(j<=s.args.length)/\(Jq n s.op s.num ln L2 (s.args.drop j) j=Jq n s.op s.num ln L2 s.args 0)/\F=sF [0,4,5] fz [(8,.i j)]/\h=gz/\m=s.args.length-j) _ _ _ ⟨0,ob,ob,rfl,rfl,rfl⟩ (ZV 9 (Yd fl)) ?_)))
 rintro m F h ⟨j,VZ,Wi,rfl,rfl,rfl⟩
 refine Y6 3 [0] (iw (Ye s.args) (ZT ((j:Int)<(s.args.length:Int)) (fun Zg=>?_) (fun Zg=>?_)))
 ·obtain ⟨a2,ha2⟩:=Zq s.args j om
  have hav:=hargs a2 (ZW ha2)
  refine ak (aq (ab 3 (Zo 3 [1,0] (Zu [] (Ck n s j) (XM [0,4,5,8] [(54,.b (VT n s.op s.num j&&(!VX L2 ln a2)))] (fun gz=>[Za gz 2,Za gz 3,Za gz 4,Za gz 5,Za gz 6,Za gz 7,Za gz 8,Za gz 0,Za gz 1]) ?_ ?_)))))
  ·refine Z2 1 (ib (b:=VT n s.op s.num j) 45 (fun ZP=>?_) (fun ZP=>?_))
   ·exact ZU 4 [0] (Zm (Zh none (j:Int) 1 (ZZ ha2)) (Z2 1 (Zu [2,2,2,2,2,2,2] (Ds b ka kb kc kd ke kf L2 ln a2 (hlk:=Zi.len) (hd:=Zi.down)) (Z1 (ZV 9 (ZM (!VX L2 ln a2) ZP fl))))))
   exact Z1 (wk [2,2,2,2,2,2,2,0,0] (ZM false ZP fl))
  refine ac (VT n s.op s.num j&&(!VX L2 ln a2)) (p:=(VT n s.op s.num j=true)/\(¬(VX L2 ln a2=true))) (Xv Iff.rfl (Xh Iff.rfl)) (fun ZF=>?_) (fun ZF=>?_)
  ·refine Ya ?_
   have hA:Jq n s.op s.num ln L2 s.args 0=false:=by rw [<-Wi,Yo ha2,Jq,Zw ZF]
   exact ZK (r1 [] (.inr ⟨rfl,rfl,(by rw [Qx,hT];simp only [hA];rfl)⟩))
  exact ak (az (Z2 1 (ZG j (Z1 (ZI ⟨j+1,ob,(by rw [Yo ha2,Jq,Zp ZF] at Wi;exact Wi),rfl,rfl,rfl⟩ (wk [7,7,0,0,0,0,0,0,0] (ZL j fl)))))))
 have hA:Jq n s.op s.num ln L2 s.args 0=true:=by rw [<-Wi,Xz om];rfl
 refine ax 2 (X7 (Vx [0] (VA (s.into>0) (fun Yq=>?_) (fun Yq=>?_))))
 ·obtain ⟨xt,hxt⟩:=Zq L2.tok ((s.into-1).toNat) (by have:=hinto Yq;omega)
  have hgt:=UN hxt
  refine aq (aD 13 (ZH 7 13 [0,1,2,3,4,5] [2,0] (da 6 ((s.into-1)) ((s.into)-(1)) (dx 7 (V9 8 kf L2.tok (s.into-1) ((s.into-1).toNat) (hq:=rfl)) (Vu 8 (T2 8 kf L2.tok ((s.into-1).toNat) xt hxt) (ZH 2 4 [9,10] [0] (dw 11 (Ye s.args) (Zk 0 1 [12] (de (ac (xt != (s.args.length:Int)) Xd (fun XH=>?_) (fun XH=>?_)))))))))))
  ·exact ar (Zs (r1 [] (.inr ⟨rfl,rfl,(by rw [Qx,hT];simp only [hA,↓reduceIte];rw [BQ,Zw Yq,hgt,Zw XH])⟩)))
  exact ak (aE 9 (ZH 3 9 [0,1,2,3,4,5] [2,0] (da 6 ((s.into-1)) ((s.into)-(1)) (dx 7 (V9 8 kf L2.tok (s.into-1) ((s.into-1).toNat) (hq:=rfl)) (Z8 8 (Jk 8 8 [] [] kf L2.tok ((s.into-1).toNat) (-1) (de (ar (Zs (r1 [3,3,3,3,3,3,0] (.inl ⟨ka,kb,kc,kd,ke,kf,(Zy.mk L2.vars L2.own L2.par L2.con L2.fst (L2.tok.set ((s.into-1).toNat) (-1))),rfl,rfl,(by rw [Qx,hT];simp only [hA,↓reduceIte];rw [BQ,Zw Yq,hgt,Zp XH])⟩) (eq:=(rc (rv (xs:=L2.vars) ob (rv (xs:=L2.own) ob (rv (xs:=L2.par) ob (rv (xs:=L2.con) ob (rv (xs:=L2.fst) ob (rv (xs:=(L2.tok.set ((s.into-1).toNat) (-1))) ob rz))))))))))))))))))
 exact ak (ar (Zs (r1 [2,2,2,2,2,2,2] (.inl ⟨ka,kb,kc,kd,ke,kf,L2,rfl,rfl,(by rw [Qx,hT];simp only [hA,↓reduceIte];rw [BQ,Zp Yq])⟩))))
theorem Rq (b:Z4) (t:Int) (hz:b.sz<=1000000) (ih:∀(b2:Z4) (t:Int),(b2.sz<=1000000)->(b2.sz<b.sz)->Zf 276 [ZC b2,.i t] [] (fun r h=>∃(wr:Bool),r=.b wr/\h=[])):Zf 276 [ZC b,.i t] [] (fun r h=>∃(wr:Bool),r=.b wr/\h=[]):=by
 have Zt:=WS b
 have hbl:=QG b.steps
 have hbe:=b.sz_eq
 refine ZD 53 Tryz.func276 (ar (iA (YI b) fun b1=>?_))
 refine Z1 (Y1 (ab 0 (Y0 (fun fz gz m F h=>∃(k:Nat),(k<=b.steps.length)/\F=sF [1,2] fz [(5,.i k)]/\h=gz/\m=b.steps.length-k) _ _ _ ⟨0,ob,rfl,rfl,rfl⟩ (wk [0] (Yd fl)) ?_)))
 rintro m F h ⟨k,Yf,rfl,rfl,rfl⟩
 refine Y6 3 [0] (iw (W8 b.steps) (ZT ((k:Int)<(b.steps.length:Int)) (fun Z9=>?_) (fun Z9=>?_)))
 ·refine ak (aq (ab 1 (Y6 3 [0] ?_)))
  obtain ⟨x1,Z5⟩:=Zq b.steps k om
  have hxs:=Gv (ZW Z5)
  have hxe:=(x1).sz_eq
  have hxk:=U8 x1
  refine Zm (Zh none (k:Int) 5 (XO Z5)) (XM [1,2,5] [(30,.b ((x1.op==10)&&(x1.num==t)))] (fun gz=>gz) ?_ ?_)
  ·refine Z2 4 (ib (b:=(x1.op==10)) 21 (fun Zb=>?_) (fun Zb=>?_))
   ·exact ZU 3 [0] (Zm (Zh none (k:Int) 5 (XO Z5)) (Z1 (wk [0] (ZM (x1.num==t) Zb fl))))
   exact Z1 (wk [0] (ZM false Zb fl))
  refine ac ((x1.op==10)&&(x1.num==t)) (p:=(x1.op=10)/\(x1.num=t)) (Xv Zz Zz) (fun Zg=>?_) (fun Zg=>?_)
  ·exact ar (Zs (r1 [] ⟨true,rfl,rfl⟩))
  refine ak (Ya (ab 2 (Y0 (fun fz gz m F h=>∃(j:Nat),(j<=x1.kids.length)/\F=sF [1,2,5] fz [(6,.i j)]/\h=gz/\m=x1.kids.length-j) _ _ _ ⟨0,ob,rfl,rfl,rfl⟩ (wk [0] (Yd fl)) ?_)))
  rintro m F h ⟨j,VZ,rfl,rfl,rfl⟩
  refine Y6 4 [0] (Zm (Zh none (k:Int) 5 (XO Z5)) (Z2 2 (iw (Vk x1.kids) (ZT ((j:Int)<(x1.kids.length:Int)) (fun ZF=>?_) (fun ZF=>?_)))))
  ·refine ak (aq (ab 3 (Zo 3 [0] (Zm (Zh none (k:Int) 5 (XO Z5)) (Z2 3 ?_)))))
   obtain ⟨x2,Zv⟩:=Zq x1.kids j om
   have hkx:=Ez (ZW Zv)
   refine Zm (Zh none (j:Int) 2 (Vv Zv)) (Z2 2 (ic [] (ih x2 t ob ob) ?_))
   rintro _ _ ⟨wr1,rfl,rfl⟩
   refine ie (ac wr1 Iff.rfl (fun Yq=>?_) (fun Yq=>?_))
   ·exact ar (Zs (r1 [] ⟨true,rfl,rfl⟩))
   exact ak (az (Z2 1 (ZG j (Z1 (ZI ⟨j+1,ob,rfl,rfl,rfl⟩ (wk [0] (ZL j fl)))))))
  exact ax 2 (az (Z2 1 (ZG k (Z1 (ZI ⟨k+1,ob,rfl,rfl,rfl⟩ (wk [0] (ZL k fl)))))))
 exact ax 0 (ar (Zs (r1 [] ⟨false,rfl,rfl⟩)))
theorem Rp (b:Z4) (t:Int) (hz:b.sz<=1000000:=by exact ob):Zf 276 [ZC b,.i t] [] (fun r h=>∃(wr:Bool),r=.b wr/\h=[]):=by
 have key:∀k:Nat,∀(b2:Z4) (t:Int),(b2.sz<=1000000)->(b2.sz<k)->Zf 276 [ZC b2,.i t] [] (fun r h=>∃(wr:Bool),r=.b wr/\h=[]):=by
  intro k
  induction k with
  | zero=>intro b2 t h1 h2;omega
  | succ k ih=>intro b2 t h1 h2;exact Rq b2 t h1 fun b3 t3 q1 q2=>ih b3 t3 q1 om
 exact key (b.sz+1) b t hz om
theorem RJ (n:Zx) (t:Int) (qz:Nat) (hn:FN n qz:=by exact ob) (hqz:qz<=100000:=by exact ob):Zf 233 [Yl n,.i t] [] (fun r h=>∃(wr:Bool),r=.b wr/\h=[]):=by
 have hnl:=hn.len
 refine ZD 21 Tryz.func233 (ar (iA (YN n) fun b1=>?_))
 refine Z1 (Y1 (ab 0 (Y0 (fun fz gz m F h=>∃(k:Nat),(k<=n.routines.length)/\F=sF [1,2] fz [(5,.i k)]/\h=gz/\m=n.routines.length-k) _ _ _ ⟨0,ob,rfl,rfl,rfl⟩ (wk [0] (Yd fl)) ?_)))
 rintro m F h ⟨k,Yf,rfl,rfl,rfl⟩
 refine Y6 3 [0] (iw (Up n.routines) (ZT ((k:Int)<(n.routines.length:Int)) (fun Z9=>?_) (fun Z9=>?_)))
 ·refine ak (aq (ab 1 (Zo 3 [0] ?_)))
  obtain ⟨x1,Z5⟩:=Zq n.routines k om
  have hbz:=(hn.body _ (ZW Z5)).2
  refine Zm (Zh none (k:Int) 5 (WB Z5)) (Z2 3 (ic [] (Rp x1.body t) ?_))
  rintro _ _ ⟨wr1,rfl,rfl⟩
  refine ie (ac wr1 Iff.rfl (fun Zg=>?_) (fun Zg=>?_))
  ·exact ar (Zs (r1 [] ⟨true,rfl,rfl⟩))
  exact ak (az (Z2 1 (ZG k (Z1 (ZI ⟨k+1,ob,rfl,rfl,rfl⟩ (wk [0] (ZL k fl)))))))
 exact ax 0 (ar (Zs (r1 [] ⟨false,rfl,rfl⟩)))
theorem Ig (fs:LI) (q:Nat) (hl:fs.length<=1000000:=by exact ob) (hq:q<=1000000:=by exact ob):Zf 234 [Z6 fs,.i q] [] (fun r h=>∃(xs:LI),r=Z6 xs/\h=[]/\xs.length<=fs.length/\∀i∈xs,(q:Int)<=i/\i<(q:Int)+fs.length):=by
 refine ZD 26 Tryz.func234 (Ya (ar (iL (Z7 []) 0 1 fun v1=>?_)))
 refine Z1 (Y1 (ab 0 (Y0 (fun fz gz m F h=>∃(k:Nat) (ys:LI) (u:Value),(k<=fs.length)/\(ys.length<=k)/\(∀i∈ys,(q:Int)<=i/\i<(q:Int)+fs.length)/\F=sF [0,1] fz [(5,ZQ ys u),(6,.i k)]/\h=[.tail u 1]/\m=fs.length-k) _ _ _ ⟨0,[],v1,ob,ob,(fun i hi=>by cases hi),rfl,rfl,rfl⟩ (wk [0] (fr (Yd fl))) ?_)))
 rintro m F h ⟨k,ys,u,Yf,Zi,Zr,rfl,rfl,rfl⟩
 refine X4 2 (iw (Ye fs) (ZT ((k:Int)<(fs.length:Int)) (fun Z9=>?_) (fun Z9=>?_)))
 ·refine ak (aq (ab 1 (Yg 2 ?_)))
  obtain ⟨x1,Z5⟩:=Zq fs k om
  refine Zm (Zh none (k:Int) 1 (ZZ Z5)) (YR (x1 != 0) Xd (fun Zg=>?_) (fun Zg=>?_))
  ·exact az (Z2 3 (ia (((q+k:Nat):Int)) (((q:Int))+((k:Int))) (iL (Z7 [((q+k:Nat):Int)]) 1 1 fun v2=>ZE 0 [(23,Z6 [((q+k:Nat):Int)])] (ip 1 (Z7 (ys++[((q+k:Nat):Int)])) (Z7 ys) (Z7 [((q+k:Nat):Int)]) u none 1 (Yw _) (Yw _) (XT _) (by simp<;>omega) (by simp [XR,Z7]) fun v3=>Z1 (az (Z2 1 (ZG k (Z1 (ZI ⟨k+1,(ys++[((q+k:Nat):Int)]),v3,ob,ob,(Xe Zr om),rfl,rfl,rfl⟩ (wk [0] (fr (ZL k fl))))))))))))
  exact ak (az (Z2 1 (ZG k (Z1 (ZI ⟨k+1,ys,u,ob,ob,ob,rfl,rfl,rfl⟩ (wk [0] (fr (ZL k fl))))))))
 exact ax 0 (ar (Zs (r2 [] [ZQ ys u] ⟨ys,rfl,rfl,⟨by omega,Zr⟩⟩ (Ze.forget _ _))))
theorem I9 (n:Zx) (qz:Nat) (hn:FN n qz:=by exact ob) (hqz:qz<=100000:=by exact ob):Zf 178 [Yl n] [] (fun r h=>∃(xs:List LI),r=B8 xs/\h=[]/\LC n n.routines.length xs):=by
 have hnl:=hn.len
 refine ZD 31 Tryz.func178 (ar (iA (YN n) fun b1=>Z1 (ar (iL (WA []) 0 1 fun v1=>?_))))
 refine Z1 (Y1 (ab 0 (Y0 (fun fz gz m F h=>∃(k:Nat) (ys:List LI) (u:Value),(k<=n.routines.length)/\(ys.length=k)/\(LC n k ys)/\F=sF [1] fz [(3,FZ ys u),(4,.i k)]/\h=[Za gz 1,.tail u 1]/\m=n.routines.length-k) _ _ _ ⟨0,[],v1,ob,ob,LC.nil,rfl,rfl,rfl⟩ (wk [1,0] (fr (Yd fl))) ?_)))
 rintro m F h ⟨k,ys,u,Yf,Zi,Zr,rfl,rfl,rfl⟩
 refine Y6 3 [0] (iw (Up n.routines) (ZT ((k:Int)<(n.routines.length:Int)) (fun Z9=>?_) (fun Z9=>?_)))
 ·refine ak (aq (ab 1 (Zo 2 [0] (ic [] (RJ n (k:Int) qz) ?_))))
  rintro _ _ ⟨wr1,rfl,rfl⟩
  refine ie (ac wr1 Iff.rfl (fun Zg=>?_) (fun Zg=>?_))
  ·exact az (Z2 1 (iL (Z7 []) 0 1 fun v2=>ZE 0 [(17,Z6 [])] (iL (WA [[]]) 1 1 fun v3=>ZE 0 [(18,B8 [[]])] (ip 3 (WA (ys++[[]])) (WA ys) (WA [[]]) u none 1 (AS _) (AS _) (EX _) (by simp<;>omega) (by simp [EW,WA]) fun v4=>Z1 (az (Z2 1 (ZG k (Z1 (ZI ⟨k+1,(ys++[[]]),v4,ob,ob,(Zr.snoc (by simp) (fun r hr v hv=>by cases hv)),rfl,rfl,rfl⟩ (wk [3,0] (fr (ZL k fl))))))))))))
  refine az (ZU 4 [0] ?_)
  obtain ⟨x1,Z5⟩:=Zq n.routines k om
  have hrp:=(FN.ok hn).params_at Z5
  have hss:=(Ui.bd (f:=⟨(x1).params,(x1).result,default⟩) (hn.sigs _ (ZW Z5))).1
  refine Zm (Zh none (k:Int) 5 (WB Z5)) (Z2 2 (ic [] (Ig x1.params 0) ?_))
  rintro _ _ ⟨xs1,rfl,rfl,ZX⟩
  have hhf:=ZX
  exact iL (WA [xs1]) 1 1 fun v5=>ZE 0 [(28,B8 [xs1])] (ip 2 (WA (ys++[xs1])) (WA ys) (WA [xs1]) u none 1 (AS _) (AS _) (EX _) (by simp<;>omega) (by simp [EW,WA]) fun v6=>Z1 (az (Z2 1 (ZG k (Z1 (ZI ⟨k+1,(ys++[xs1]),v6,ob,ob,(Zr.snoc om (fun r hr v hv=>by rw [Z5] at hr;cases hr;have:=hhf.2 v hv;omega)),rfl,rfl,rfl⟩ (wk [2,0] (fr (ZL k fl)))))))))
 exact ax 0 (ar (Zs (r2 [] [FZ ys u] ⟨ys,rfl,rfl,(by rw [show n.routines.length=k by omega];exact Zr)⟩ (Ze.forget _ _))))
theorem Rt (n:Zx) (b:Z4) (t:Int) (mq:Nat) (hn:Xk n) (hf:fB n.decls n.routines.length mq b) (hz:b.sz<=1000000) (ih:∀(b2:Z4) (t:Int) (m2:Nat),(fB n.decls n.routines.length m2 b2)->(b2.sz<=1000000)->(b2.sz<b.sz)->Zf 235 [Yl n,ZC b2,.i t] [] (fun r h=>∃(wr:Bool),r=.b wr/\h=[])):Zf 235 [Yl n,ZC b,.i t] [] (fun r h=>∃(wr:Bool),r=.b wr/\h=[]):=by
 have hbl:=QG b.steps
 have hbe:=b.sz_eq
 refine ZD 68 Tryz.func235 (ar (iA (YN n) fun b1=>iA (YI b) fun b2=>Z1 (X7 (Vx [0] (ac (b.result==t) Zz (fun Z9=>?_) (fun Z9=>?_))))))
 ·exact ar (Zs (r1 [] ⟨true,rfl,rfl⟩))
 refine ak (Y1 (ab 0 (Y0 (fun fz gz m F h=>∃(k:Nat),(k<=b.steps.length)/\F=sF [2,3,4] fz [(7,.i k)]/\h=gz/\m=b.steps.length-k) _ _ _ ⟨0,ob,rfl,rfl,rfl⟩ (wk [0,0] (Yd fl)) ?_)))
 rintro m F h ⟨k,Yf,rfl,rfl,rfl⟩
 refine Y6 3 [0] (iw (W8 b.steps) (ZT ((k:Int)<(b.steps.length:Int)) (fun Zg=>?_) (fun Zg=>?_)))
 ·refine ak (aq (ab 1 (Zo 3 [0] ?_)))
  obtain ⟨x1,Z5⟩:=Zq b.steps k om
  have hfs:=(D0 x1).1 (BL ((BJ b).1 hf).1 Z5)
  have hxs:=Gv (ZW Z5)
  have hxe:=(x1).sz_eq
  have hxk:=U8 x1
  refine Zm (Zh none (k:Int) 5 (XO Z5)) (Z2 1 (iA [.i 0,.i 0,.i 0,nl,nl] fun b3=>?_))
  refine ZA 0 b3 (Xf x1) (ie (Y1 (ab 2 (Y0 (fun fz gz m F h=>∃(j:Nat),(j<=x1.args.length)/\F=sF [2,3,4,7,8] fz [(9,.i j)]/\h=gz/\m=x1.args.length-j) _ _ _ ⟨0,ob,rfl,rfl,rfl⟩ (ZV 3 (Yd fl)) ?_))))
  rintro m F h ⟨j,VZ,rfl,rfl,rfl⟩
  refine Y6 3 [0] (iw (Ye x1.args) (ZT ((j:Int)<(x1.args.length:Int)) (fun ZF=>?_) (fun ZF=>?_)))
  ·refine ak (aq (ab 3 (Zo 3 [0] ?_)))
   obtain ⟨x2,Zv⟩:=Zq x1.args j om
   refine Zm (Zh none (j:Int) 1 (ZZ Zv)) (WQ 12 [2,3,4,7,8,9] [(45,.b ((x2==t)&&QT x1.op))] (fun gz=>gz) ?_ (fun hj1=>?_))
   ·refine XM [2,3,4,7,8,9] [(52,.b (((x2==t)&&QT x1.op)&&(!VT n x1.op x1.num j)))] (fun gz=>gz) ?_ ?_
    ·refine Z2 1 (ib (b:=((x2==t)&&QT x1.op)) 46 (fun Zb=>?_) (fun Zb=>?_))
     ·exact ZU 3 [2,0] (Zu [] (Ck n x1 j (hnum:=hfs.call)) (Z1 (ZV 3 (ZM (!VT n x1.op x1.num j) Zb fl))))
     exact Z1 (ZV 3 (ZM false Zb fl))
    refine ac (((x2==t)&&QT x1.op)&&(!VT n x1.op x1.num j)) (p:=((x2=t)/\(QT x1.op=true))/\(¬(VT n x1.op x1.num j=true))) (Xv (Xv Zz Iff.rfl) (Xh Iff.rfl)) (fun Yq=>?_) (fun Yq=>?_)
    ·exact ar (Zs (r1 [] ⟨true,rfl,rfl⟩))
    exact ak (az (Z2 1 (ZG j (Z1 (ZI ⟨j+1,ob,rfl,rfl,rfl⟩ (ZV 3 (ZL j fl)))))))
   refine Z2 4 (ib (b:=(x2==t)) 41 (fun ZP=>?_) (fun ZP=>?_))
   ·exact ZU 2 [0] (Zu [] (MM x1.op) (Z2 1 (Xm (ZV 3 (ZM (QT x1.op) ZP fl)) hj1)))
   exact Z2 4 (Xm (ZV 3 (ZM false ZP fl)) hj1)
  refine ax 2 (Ya (ab 4 (Y0 (fun fz gz m F h=>∃(j:Nat),(j<=x1.kids.length)/\F=sF [2,3,4,7,8] fz [(10,.i j)]/\h=gz/\m=x1.kids.length-j) _ _ _ ⟨0,ob,rfl,rfl,rfl⟩ (ZV 3 (Yd fl)) ?_)))
  rintro m F h ⟨j,Ox,rfl,rfl,rfl⟩
  refine Y6 3 [0] (iw (Vk x1.kids) (ZT ((j:Int)<(x1.kids.length:Int)) (fun XH=>?_) (fun XH=>?_)))
  ·refine ak (aq (ab 5 (aD 8 (ZH 4 8 [0,1,2,3] [2,0] ?_))))
   obtain ⟨x3,X3⟩:=Zq x1.kids j om
   have hkx:=Ez (ZW X3)
   have hfk:=BK hfs.kids X3
   refine dx 4 (Zh none (j:Int) 2 (Vv X3)) (Zk 1 3 [5,6] (Z8 7 (dc 7 [] [] [] (ih x3 t (VK n.decls x1.op x1.num (mq+YH (b.steps.take k)) (0+j)) hfk ob ob) ?_)))
   rintro _ _ ⟨wr1,rfl,rfl⟩
   refine de (ac wr1 Iff.rfl (fun XI=>?_) (fun XI=>?_))
   ·exact ar (Zs (r1 [] ⟨true,rfl,rfl⟩))
   exact ak (az (Z2 1 (ZG j (Z1 (ZI ⟨j+1,ob,rfl,rfl,rfl⟩ (ZV 3 (ZL j fl)))))))
  exact ax 4 (az (Z2 1 (ZG k (Z1 (ZI ⟨k+1,ob,rfl,rfl,rfl⟩ (wk [1,1] (ZL k fl)))))))
 exact ax 0 (ar (Zs (r1 [] ⟨false,rfl,rfl⟩)))
theorem Rs (n:Zx) (b:Z4) (t:Int) (mq:Nat) (hn:Xk n:=by exact ob) (hf:fB n.decls n.routines.length mq b:=by exact ob) (hz:b.sz<=1000000:=by exact ob):Zf 235 [Yl n,ZC b,.i t] [] (fun r h=>∃(wr:Bool),r=.b wr/\h=[]):=by
 have key:∀k:Nat,∀(b2:Z4) (t:Int) (m2:Nat),(fB n.decls n.routines.length m2 b2)->(b2.sz<=1000000)->(b2.sz<k)->Zf 235 [Yl n,ZC b2,.i t] [] (fun r h=>∃(wr:Bool),r=.b wr/\h=[]):=by
  intro k
  induction k with
  | zero=>intro b2 t m2 h1 h2 h3;omega
  | succ k ih=>intro b2 t m2 h1 h2 h3;exact Rt n b2 t m2 hn h1 h2 fun b3 t3 m3 q1 q2 q3=>ih b3 t3 m3 q1 q2 om
 exact key (b.sz+1) b t mq hf hz om
theorem RK (n:Zx) (rt:Y8) (i:Nat) (qz:Nat) (hn:FN n qz:=by exact ob) (hqz:qz<=100000:=by exact ob) (hr:n.routines[i]? = some rt:=by exact ob):Zf 179 [Yl n,.i i] [] (fun r h=>∃(xs:LI),r=Z6 xs/\h=[]/\xs.length<=rt.lent.length/\∀v∈xs,v∈rt.lent):=by
 have hok:=FN.ok hn
 have hrl:=hn.lent rt (ZW hr)
 have hrb:=hn.body rt (ZW hr)
 obtain ⟨hil,_⟩:=XA.1 hr
 have hnl:=hn.len
 refine ZD 50 Tryz.func179 (ar (iA (YN n) fun b1=>Z1 (ar (iL (Z7 []) 0 1 fun v1=>?_))))
 refine Z1 (Y1 (ab 0 (Y0 (fun fz gz m F h=>∃(k:Nat) (ys:LI) (u:Value),(k<=rt.lent.length)/\(ys.length<=k)/\(∀v∈ys,v∈rt.lent)/\F=sF [1,2] fz [(5,ZQ ys u),(6,.i k)]/\h=[Za gz 1,.tail u 1]/\m=rt.lent.length-k) _ _ _ ⟨0,[],v1,ob,ob,(fun v hv=>by cases hv),rfl,rfl,rfl⟩ (wk [1,0] (fr (Yd fl))) ?_)))
 rintro m F h ⟨k,ys,u,Yf,Zi,Zr,rfl,rfl,rfl⟩
 refine Y6 4 [0] (Zm (Zh none (i:Int) 5 (WB hr)) (Z2 2 (iw (Ye rt.lent) (ZT ((k:Int)<(rt.lent.length:Int)) (fun Z9=>?_) (fun Z9=>?_)))))
 ·refine ak (aq (ab 1 (aD 18 (ZH 14 18 [0,1,2,3] [0,0] (dx 4 (Zh none (i:Int) 5 (WB hr)) (ZH 8 13 [5,6,7,8,9] [0] (dx 10 (Zh none (i:Int) 5 (WB hr)) (Zk 4 7 [11,12,13] ?_))))))))
  obtain ⟨x1,Z5⟩:=Zq rt.lent k om
  refine dx 14 (Zh none (k:Int) 1 (ZZ Z5)) (Zk 2 3 [15] (Z8 16 (dc 16 [] [] [] (Rs n rt.body x1 rt.params.length (hn:=hok) (hf:=hrb.1)) ?_)))
  rintro _ _ ⟨wr1,rfl,rfl⟩
  refine Zk 0 1 [17] (de (ac (!wr1) (p:=¬(wr1=true)) (Xh Iff.rfl) (fun Zg=>?_) (fun Zg=>?_)))
  ·exact az (ZU 4 [0] (Zm (Zh none (i:Int) 5 (WB hr)) (Z2 3 (Zm (Zh none (k:Int) 1 (ZZ Z5)) (Z2 1 (iL (Z7 [x1]) 1 1 fun v2=>ZE 0 [(47,Z6 [x1])] (ip 2 (Z7 (ys++[x1])) (Z7 ys) (Z7 [x1]) u none 1 (Yw _) (Yw _) (XT _) (by simp<;>omega) (by simp [XR,Z7]) fun v3=>Z1 (az (Z2 1 (ZG k (Z1 (ZI ⟨k+1,(ys++[x1]),v3,ob,ob,(Xe Zr (ZW Z5)),rfl,rfl,rfl⟩ (wk [2,0] (fr (ZL k fl)))))))))))))))
  exact ak (az (Z2 1 (ZG k (Z1 (ZI ⟨k+1,ys,u,ob,ob,ob,rfl,rfl,rfl⟩ (wk [0,0] (fr (ZL k fl))))))))
 exact ax 0 (ar (Zs (r2 [] [ZQ ys u] ⟨ys,rfl,rfl,⟨by omega,Zr⟩⟩ (Ze.forget _ _))))
theorem Z42 (s:Z3) (ih:∀(b2:Z4),(b2.sz<s.sz)->(b2.sz<=1000000000)->Zf 97 [ZC b2] [] (Yt (ZC b2))) (hz:s.sz<=1000000000):Zf 139 [Ym s] [] (Yt (Ym s)):=by
 have hkz:=U8 s
 have haz:=T9 s
 refine ZD 33 Tryz.func139 (ar (iA (Xf s) fun b1=>iA [.i 0,.i 0,.i 0,nl,nl] fun b2=>ie (ar (iL (Yu []) 0 2 fun v1=>?_))))
 refine Z1 (Y1 (ab 0 (Y0 (fun fz gz m F h=>∃(k:Nat) (v:Value),(k<=s.kids.length)/\F=sF [1,2] fz [(3,U9 (s.kids.take k) v),(4,.i k)]/\h=[Za gz 1,Za gz 2,.tail v 2]/\m=s.kids.length-k) _ _ _ ⟨0,v1,ob,rfl,rfl,rfl⟩ (wk [1,1,0] (fc (x:=U9 [] v1) (Ze.slh _ (Ys Yu rfl)) (Yd fl))) ?_)))
 rintro m F h ⟨k,v,Yf,rfl,rfl,rfl⟩
 refine Y6 3 [1] (iw (Vk s.kids) (ZT ((k:Int)<(s.kids.length:Int)) (fun Z9=>?_) (fun Z9=>?_)))
 ·refine ak (aq (ab 1 (az (ZU 4 [1] ?_))))
  obtain ⟨x1,Z5⟩:=Zq s.kids k om
  have hks:=VS Z5
  exact Zm (Zh none (k:Int) 2 (Vv Z5)) (Z2 1 (Zu [] (ih x1 ob ob) (iL [ZC x1] 1 2 fun v2=>ZE 0 [(20,.sl [ZC x1] none)] (ip 3 (Yu (s.kids.take (k+1))) (Yu (s.kids.take k)) [ZC x1] v none 2 (Uy _) (Ti rfl) rfl (by simp<;>omega) (by rw [Vh Z5];simp [U0]) fun v3=>Z1 (az (Z2 1 (ZG k (Z1 (ZI ⟨k+1,v3,ob,rfl,rfl,rfl⟩ (wk [2,2,0] (fr (ZL k fl))))))))))))
 refine ax 0 (aD 12 (ZH 3 12 [0,1,2,3,4,5,6,7,9] [1,1,1,1] (Z8 8 (dc 8 [] [1,1,1] [b1,b1,b1] (Vr s.args) ?_))))
 rintro _ _ ⟨v4,rfl,rfl⟩
 exact Zk 1 2 [10] (Z8 11 (Yy 11 1 [] [] b2 [.i s.op,.i s.num,.i s.into,ZQ s.args v4,U9 (s.kids.take k) v] (de (ZK (r3 [] [.agg [.i s.op,.i s.num,.i s.into,ZQ s.args v4,U9 (s.kids.take k) v]] [0] [(b2,b2)] ⟨rfl,rfl⟩ (Ze.agg (.cons (lr _) (.cons (lr _) (.cons (lr _) (.cons (Ze.forget _ _) (.cons (Ze.sl _ (Ys Yu (by rw [WT om]))) .nil)))))))))))
theorem Z41 (b:Z4) (ih:∀(s2:Z3),(s2.sz<b.sz)->(s2.sz<=1000000000)->Zf 139 [Ym s2] [] (Yt (Ym s2))) (hz:b.sz<=1000000000):Zf 97 [ZC b] [] (Yt (ZC b)):=by
 have hbz:=WS b
 refine ZD 28 Tryz.func97 (ar (iA (YI b) fun b1=>iA [nl,.i 0] fun b2=>ie (ar (iL (Zj []) 0 5 fun v1=>ZU 3 [2] (iA [nl,.i 0] fun b3=>?_)))))
 refine ZA 0 b3 [YG [] v1,.i b.result] (ie (Y1 (ab 0 (Y0 (fun fz gz m F h=>∃(k:Nat) (v:Value),(k<=b.steps.length)/\F=sF [1,2,3] fz [(4,.i k)]/\h=[.obj b3 [YG (b.steps.take k) v,.i b.result],Za gz 2,Za gz 3,.tail v 5]/\m=b.steps.length-k) _ _ _ ⟨0,v1,ob,rfl,rfl,rfl⟩ (wk [0,1,1,0] (Yd fl)) ?_))))
 rintro m F h ⟨k,v,Yf,rfl,rfl,rfl⟩
 refine Y6 3 [2] (iw (W8 b.steps) (ZT ((k:Int)<(b.steps.length:Int)) (fun Z9=>?_) (fun Z9=>?_)))
 ·refine ak (aq (ab 1 (aE 12 (ZH 7 12 [0,1,2,3,4] [0,2] ?_))))
  obtain ⟨x1,Z5⟩:=Zq b.steps k om
  have hss:=UZ Z5
  exact dx 5 (Zh none (k:Int) 5 (XO Z5)) (Zk 5 6 [6] (Z8 7 (Yp 7 [] [0] [b3] (ih x1 ob ob) (Z8 8 (dL 8 [0] [b3] [Ym x1] 1 5 fun v2=>Yh 3 3 [] [(24,.sl [Ym x1] none)] (Z8 9 (dp 9 4 [] [] (Zj (b.steps.take (k+1))) (Zj (b.steps.take k)) [Ym x1] v none 5 (X1 _) (Ti rfl) rfl (by simp<;>omega) (by rw [Vh Z5];simp [WO]) fun v3=>Zk 1 2 [10] (Z8 11 (Yy 11 2 [] [] b3 [YG (b.steps.take (k+1)) v3,.i b.result] (de (az (Z2 1 (ZG k (Z1 (ZI ⟨k+1,v3,ob,rfl,rfl,rfl⟩ (wk [0,2,2,0] (ZL k fl)))))))))))))))))
 exact ax 0 (Zo 1 [0] (ZA 1 b2 [YG (b.steps.take k) v,.i b.result] (ie (ZK (r3 [] [.agg [YG (b.steps.take k) v,.i b.result]] [0] [(b2,b2)] ⟨rfl,rfl⟩ (Ze.agg (.cons (Ze.sl _ (Ys Zj (by rw [WT om]))) (.cons (lr _) .nil))))))))
theorem MO (k:Nat):(∀(s:Z3),(s.sz<=k)->(s.sz<=1000000000)->Zf 139 [Ym s] [] (Yt (Ym s)))/\(∀(b:Z4),(b.sz<=k)->(b.sz<=1000000000)->Zf 97 [ZC b] [] (Yt (ZC b))):=by
 induction k with
 | zero=>exact ⟨fun s h=>by have:=s.sz_pos;omega,fun s h=>by have:=s.sz_pos;omega⟩
 | succ k ih=>exact ⟨fun s h hz=>Z42 s (fun b2 h2 h3=>ih.2 b2 om h3) hz,fun b h hz=>Z41 b (fun s2 h2 h3=>ih.1 s2 om h3) hz⟩
theorem MN (s:Z3) (hz:s.sz<=1000000000:=by exact ob):Zf 139 [Ym s] [] (Yt (Ym s)):=(MO s.sz).1 s (YQ _) hz
theorem DX (b:Z4) (hz:b.sz<=1000000000:=by exact ob):Zf 97 [ZC b] [] (Yt (ZC b)):=(MO b.sz).2 b (YQ _) hz
theorem Dc (n:Zx) (ls:List LI) (qz:Nat) (hn:FO n qz Wd:=by exact ob) (hqz:qz<=100000:=by exact ob) (hls:LC n n.routines.length ls:=by exact ob):Zf 57 [Yl n,B8 ls] [] (fun r h=>∃(n2:Zx),r=Yl n2/\h=[]/\FO n2 qz Wd/\n2.routines.length=n.routines.length):=by
 have hnl:=hn.fn.len
 have XD:=hn.fn.decls.ok
 have hll:=hls.len
 refine ZD 45 Tryz.func57 (ar (iA (YN n) fun b1=>iA [nl,nl] fun b2=>ie (Zo 2 [1] (Zu [] (Aq n.decls) (iL (Yx []) 0 5 fun v1=>Z2 1 (iA [nl,nl] fun b3=>?_))))))
 refine ZA 0 b3 [YM n.decls,W6 [] v1] (ie (Y1 (ab 0 (Y0 (fun fz gz m F h=>∃(k:Nat) (rs:List Y8) (u:Value),(k<=n.routines.length)/\(rs.length=k)/\(∀r∈rs,RF n.decls n.routines.length qz Wd r)/\F=sF [1,2,4,5] fz [(6,.i k)]/\h=[.obj b3 [YM n.decls,W6 rs u],Za gz 2,Za gz 3,.tail u 5]/\m=n.routines.length-k) _ _ _ ⟨0,[],v1,ob,ob,(fun r hr=>by cases hr),rfl,rfl,rfl⟩ (wk [0,1,1,0] (Yd fl)) ?_))))
 rintro m F h ⟨k,rs,u,Yf,Zi,Zr,rfl,rfl,rfl⟩
 refine Y6 3 [2] (iw (Up n.routines) (ZT ((k:Int)<(n.routines.length:Int)) (fun Z9=>?_) (fun Z9=>?_)))
 ·refine ak (aq (ab 1 (Zo 3 [2] ?_)))
  obtain ⟨x1,Z5⟩:=Zq n.routines k om
  have hrf:=hn.rf (ZW Z5)
  have hrp:=hn.fn.ok.params_at Z5
  have hrz:=hrf.body.2
  refine Zm (Zh none (k:Int) 5 (WB Z5)) (Z2 1 (iA [nl,nl,.i 0,nl,.i 0] fun b4=>ZA 0 b4 (K4 x1) (ie (aE 20 (ZH 14 20 [0,1,2,3,5,6] [1,0] ?_)))))
  obtain ⟨x2,Zv⟩:=Zq ls k om
  have hlc:=hls.at Zv Z5
  refine dx 7 (Zh none (k:Int) 1 (PG Zv)) (ZH 8 13 [8,10,11,12,13] [0,0] (Z8 4 (dc 4 [] [0,0,1] [b4,b4,b3] (Vr x1.params) ?_)))
  rintro _ _ ⟨v2,rfl,rfl⟩
  refine Z8 9 (dc 9 [] [0,0,1] [b4,b4,b3] (Vr x2) ?_)
  rintro _ _ ⟨v3,rfl,rfl⟩
  exact Z8 14 (Yp 14 [] [0,1] [b4,b3] (DX x1.body) (Yh 4 5 [15] [(40,.agg [Z6 x1.params,Z6 x2,.i x1.result,Wp x1.body.steps,.i x1.body.result])] (Z8 16 (dL 16 [1] [b3] (Yx [Y8.mk x1.params x2 x1.result (Z4.mk x1.body.steps x1.body.result)]) 1 5 fun v4=>Yh 3 3 [] [(41,TY [Y8.mk x1.params x2 x1.result (Z4.mk x1.body.steps x1.body.result)])] (Z8 17 (dp 17 7 [] [] (Yx (rs++[Y8.mk x1.params x2 x1.result (Z4.mk x1.body.steps x1.body.result)])) (Yx rs) (Yx [Y8.mk x1.params x2 x1.result (Z4.mk x1.body.steps x1.body.result)]) u none 5 (VQ _) (VQ _) (Jm _) (by simp<;>omega) (by simp [A1,Yx]) fun v5=>Zk 1 2 [18] (Z8 19 (Yy 19 5 [] [] b3 [YM n.decls,W6 (rs++[Y8.mk x1.params x2 x1.result (Z4.mk x1.body.steps x1.body.result)]) v5] (de (az (Z2 1 (ZG k (Z1 (ZI ⟨k+1,(rs++[Y8.mk x1.params x2 x1.result (Z4.mk x1.body.steps x1.body.result)]),v5,ob,ob,(Xe Zr (by rw [Z4.eta];exact hrf.lend hlc.1 hlc.2)),rfl,rfl,rfl⟩ (wk [0,5,5,0] (ZL k fl))))))))))))))))
 exact ax 0 (Zo 1 [0] (ZA 1 b2 [YM n.decls,W6 rs u] (ie (ZK (r3 [] [.agg [YM n.decls,W6 rs u]] [0] [(b2,b2)] ⟨(Zx.mk n.decls rs),rfl,rfl,(FO.fin hn.fn om Zr)⟩ (Ze.agg (.cons (lr _) (.cons (Ze.forget _ _) .nil))))))))
theorem RT (n:Zx) (qz:Nat) (hn:FO n qz Wd:=by exact ob) (hqz:qz<=100000:=by exact ob):Zf 135 [Yl n] [] (fun r h=>∃(n2:Zx),r=Yl n2/\h=[]/\FO n2 qz Wd):=by
 refine ZD 33 Tryz.func135 (ar (iA (YN n) fun b1=>iA [nl,nl] fun b2=>?_))
 refine ie (aD 6 (ZH 4 6 [0,1] [1,1] (Ky (fun fz gz F h=>∃(n21:Zx) (b3:Nat) (xs1:List LI),(LC n n.routines.length xs1)/\(FO n21 qz Wd/\n21.routines.length=n.routines.length)/\F=sF [2] fz [(3,.p b3 0)]/\h=[.obj b3 (YN n21),Za gz 0,Za gz 1]) ?_ ?_)))
 ·refine WU 2 4 ?_ ?_
  ·refine dc 2 [] [1] [b1] (I9 n qz (hn:=hn.fn)) ?_
   rintro _ _ ⟨xs1,rfl,rfl,ZX⟩
   refine WU 3 4 ?_ ?_
   ·refine dc 3 [] [] [] (Dc n xs1 qz (hls:=(by first|assumption|(rw [<-hjl];exact Wi)))) ?_
    rintro _ _ ⟨n21,rfl,rfl,Y9⟩
    have hwl:=Y9
    exact Z8 4 (dA 4 [] [] [nl,nl] fun b3=>Z8 5 (Yy 5 0 [] [] b3 (YN n21) (de (ZJ ⟨_,b3,_,(by assumption),(by assumption),rfl,rfl⟩ (ZV 3 fl)))))
   refine dA 4 [1] [b1] [nl,nl] fun b4=>Z8 3 (dc 3 [] [] [] (Dc n xs1 qz (hls:=(by first|assumption|(rw [<-hjl];exact Wi)))) ?_)
   rintro _ _ ⟨n22,rfl,rfl,YL⟩
   have hwl:=YL
   exact Z8 5 (Yy 5 0 [] [] b4 (YN n22) (de (ZJ ⟨_,b4,_,(by assumption),(by assumption),rfl,rfl⟩ (ZV 3 fl))))
  refine dA 4 [1,1] [b1,b1] [nl,nl] fun b5=>Z8 2 (dc 2 [] [2] [b1] (I9 n qz (hn:=hn.fn)) ?_)
  rintro _ _ ⟨xs2,rfl,rfl,YX⟩
  refine Z8 3 (dc 3 [] [] [] (Dc n xs2 qz (hls:=(by first|assumption|(rw [<-hjl];exact Wi)))) ?_)
  rintro _ _ ⟨n23,rfl,rfl,X9⟩
  have hwl:=X9
  exact Z8 5 (Yy 5 0 [] [] b5 (YN n23) (de (ZJ ⟨_,b5,_,(by assumption),(by assumption),rfl,rfl⟩ (ZV 3 fl))))
 rintro F h ⟨n21,b3,xs1,ZX,Y9,rfl,rfl⟩
 have hwl:=Y9
 refine Y1 (ab 0 (Y0 (fun fz gz m F h=>∃(k:Nat) (nn:Zx),(k<=13)/\(FO nn qz Wd)/\F=sF [2,3] fz [(4,.i k)]/\h=[.obj b3 (YN nn),Za gz 1]/\m=13-k) _ _ _ ⟨0,n21,ob,hwl.1,rfl,rfl,rfl⟩ (wk [0,0] (Yd fl)) ?_))
 rintro m F h ⟨k,nn,Yf,Zi,rfl,rfl,rfl⟩
 refine X7 (ZT ((k:Int)<=12) (fun Z9=>?_) (fun Z9=>?_))
 ·refine ak (aq (ab 1 (ar (iL (WA []) 0 1 fun v1=>?_))))
  refine Z1 (Y1 (ab 2 (Y0 (fun fz gz m F h=>∃(j:Nat) (ls:List LI) (u:Value),(j<=nn.routines.length)/\(LC nn j ls)/\(ls.length=j)/\F=sF [2,3,4] fz [(5,FZ ls u),(6,.i j)]/\h=[Za gz 1,Za gz 2,.tail u 1]/\m=nn.routines.length-j) _ _ _ ⟨0,[],v1,ob,LC.nil,ob,rfl,rfl,rfl⟩ (wk [1,1,0] (fr (Yd fl))) ?_)))
  rintro m F h ⟨j,ls,u,VZ,Wi,Xs,rfl,rfl,rfl⟩
  refine Y6 3 [0] (iw (Up nn.routines) (ZT ((j:Int)<(nn.routines.length:Int)) (fun Zg=>?_) (fun Zg=>?_)))
  ·obtain ⟨rt,hrt⟩:=Zq nn.routines j om
   have hrl:=(Zi.rf (ZW hrt)).lent
   have hnl4:=Zi.fn.len
   refine ak (aq (ab 3 (az (ZU 3 [0] (ic [] (RK nn rt j qz (hn:=Zi.fn) (hr:=hrt)) ?_)))))
   rintro _ _ ⟨xs3,rfl,rfl,XV⟩
   have hkl:=XV
   exact iL (WA [xs3]) 1 1 fun v2=>ZE 0 [(27,B8 [xs3])] (ip 3 (WA (ls++[xs3])) (WA ls) (WA [xs3]) u none 1 (AS _) (AS _) (EX _) (by simp<;>omega) (by simp [EW,WA]) fun v3=>Z1 (az (Z2 1 (ZG j (Z1 (ZI ⟨j+1,(ls++[xs3]),v3,ob,(Wi.snoc om (fun r hr v hv=>by rw [hrt] at hr;cases hr;exact hrl.2 v (hkl.2 v hv))),ob,rfl,rfl,rfl⟩ (wk [2,2,0] (fr (ZL j fl)))))))))
  have hjl:j=nn.routines.length:=by omega
  refine ax 2 (az (TZ 2 [(30,B8 ls)] [0] (ic [] (Dc nn ls qz (hls:=(by first|assumption|(rw [<-hjl];exact Wi)))) ?_)))
  rintro _ _ ⟨n24,rfl,rfl,Wu⟩
  have hwl:=Wu
  exact ZA 0 b3 (YN n24) (ie (az (Z2 1 (ZG k (Z1 (ZI ⟨k+1,n24,ob,hwl.1,rfl,rfl,rfl⟩ (wk [0,0] (ZL k fl))))))))
 exact ax 0 (Zo 1 [0] (ZA 1 b2 (YN nn) (ie (ZK (r3 [] [Yl nn] [0] [(b2,b2)] ⟨nn,rfl,rfl,(by first|exact Zi|exact hwl.1)⟩ (lr _))))))
end Go.Abs
