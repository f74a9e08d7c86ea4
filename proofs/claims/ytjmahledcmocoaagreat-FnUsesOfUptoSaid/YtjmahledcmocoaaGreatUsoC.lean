/-
  A part of the proof of FnUsesOfUptoSaid (see the last file): no condition.
-/
import Derived.Test.YtjmahledcmocoaaGreatUsoB
set_option linter.all false
set_option linter.unusedVariables false
set_option linter.unusedSimpArgs false
set_option linter.unusedSectionVars false
set_option maxRecDepth 10000
set_option maxHeartbeats 4000000
namespace Go.Abs
open Go.Proofs
theorem RK (code:LI) (hl:code.length<=1048576:=by exact ob) (hc:∀z∈code,0<=z/\z<=255):Zf 52 [Vd code] [] (fun r h=>∃(rd:Nat) (bs:LI),r=.p rd 0/\h=[.obj rd [Vd bs,.i 0]]/\∀z∈bs,0<=z/\z<=255):=by
 refine ZD 11 Tryz.func52 (Y9 (X1 1 (iw (Qe code) (Z1 (XA (fun fz gz F h=>F=sF [] fz [(0,Vd (if (code.length:Int)>2000 then (code.take 2000) else code))]/\h=gz) ?_ ?_)))))
 ·refine VJ ((code.length:Int)>2000) (fun Z9=>?_) (fun Z9=>?_)
  ·exact az (Z2 1 (Zm (Kc (es:=UA code) (hv:=none) (l:=0) (m:=2000) (sz:=1) (es':=UA (code.take 2000)) kr om (by simp<;>omega) (by simp<;>omega) (Pm _) (by first|(simp only [VS,V7,EP,EO];done)|(simp only [VS,V7,EP,EO];rfl)|(simp [EP,EO];done))) (Z1 (ZH ⟨rfl,rfl⟩ (wk [] (fc (x:=Vd (code.take 2000)) (Zd.sl _ (Yr UA (by first|rfl|(rw [Zw Z9])|(rw [Zr Z9])|(simp [Z9];done)|(rw [Xl];simp [Z9];done)|omega))) fl))))))
  exact ak (ZH ⟨rfl,rfl⟩ (wk [] (fc (x:=Vd code) (Zd.sl _ (Yr UA (by first|rfl|(rw [Zw Z9])|(rw [Zr Z9])|(simp [Z9];done)|(rw [Xl];simp [Z9];done)|omega))) fl)))
 rintro F h ⟨rfl,rfl⟩
 exact Yg 2 (iA [Vd (if (code.length:Int)>2000 then (code.take 2000) else code),.i 0] fun b1=>Zt (r1 [0] ⟨b1,(if (code.length:Int)>2000 then (code.take 2000) else code),rfl,rfl,(by first|exact hc|exact fun z hz=>hc z (Tp hz)|(split<;>first|exact hc|exact fun z hz=>hc z (Tp hz)))⟩))
theorem XL (rd:Nat) (bs:LI) (p:Nat) (mx:Int) (Zs:∀z∈bs,0<=z/\z<=255) (hp:p+1<=1000000000:=by exact ob):Zf 79 [.p rd 0,.i mx] [Yb rd bs p] (fun r h=>∃(k:Int),r=.i k/\h=[.obj rd [Vd bs,.i (p+1:Nat)]]/\Pk mx k):=by
 refine ZD 99 Tryz.func79 (Y9 (Zo 5 [0] (ZF p (Z2 2 (ZA 0 rd [Vd bs,.i (p+1:Nat)] (ie (Xd (XN [0,1] [(24,.b ((decide (mx<1))||((bs.length:Int)==0)))] (fun gz=>gz) ?_ ?_))))))))
 ·refine Z2 3 (ib (b:=(decide (mx<1))) 17 (fun Ze=>?_) (fun Ze=>?_))
  ·exact Z1 (wk [0] (ZP true Ze fl))
  exact ZV 4 [0] (iw (Qe bs) (Z1 (wk [0] (ZP ((bs.length:Int)==0) Ze fl))))
 refine ac ((decide (mx<1))||((bs.length:Int)==0)) (p:=(mx<1)∨((bs.length:Int)=0)) (Xu dq ZB) (fun Z9=>?_) (fun Z9=>?_)
 ·exact ar (Zt (r1 [0] ⟨0,rfl,rfl,Pk.zero⟩))
 refine ak (Zo 4 [0] (ia ((p:Int)) ((((p+1:Nat):Int))-(1)) (Z1 (Y7 5 [0] (iw (Qe bs) (ZQ ((p:Int)<(bs.length:Int)) (fun Zg=>?_) (fun Zg=>?_)))))))
 ·refine Zo 5 [0] ?_
  obtain ⟨x1,Z5⟩:=Zq bs p om
  have hz:=Zs _ (ZW Z5)
  exact Zm (Zh none (p:Int) 1 (AN Z5)) (Z2 1 (Zm (B3 x1 om) (Z2 1 (Zm (BW x1 mx om om) (Zt (r1 [0] ⟨(x1 % mx),rfl,rfl,(Pk.rem om om)⟩))))))
 have hq1:p / bs.length<=p:=Nat.div_le_self _ _
 have hq0:(0:Int)<=((p / bs.length:Nat):Int):=Int.natCast_nonneg _
 refine ak (aD 46 (ZG 37 46 [0,1,2,3,4,5,6,7,8] [0,0] (dw 9 (Qe bs) (dx 10 (Dl p bs.length om om) ?_))))
 obtain ⟨x2,Zu⟩:=Zq bs (p % bs.length) (Nat.mod_lt _ om)
 have hz:=Zs _ (ZW Zu)
 refine dx 11 (Zh none ((p % bs.length:Nat):Int) 1 (AN Zu)) (Zk 33 34 [12] (dx 13 (B3 x2 om) (da 14 ((x2*131)) ((x2)*(131)) (ZG 26 31 [15,16,17,18,19] [0] (da 20 (((p*7:Nat):Int)) (((p:Int))*(7)) (da 21 (((p*7+3:Nat):Int)) ((((p*7:Nat):Int))+(3)) (ZG 20 24 [22,23,24,25] [0] (dw 26 (Qe bs) (dx 27 (Dl (p*7+3) bs.length om om) ?_)))))))))
 obtain ⟨x3,X0⟩:=Zq bs ((p*7+3) % bs.length) (Nat.mod_lt _ om)
 have hz3:=Zs _ (ZW X0)
 exact dx 28 (Zh none (((p*7+3) % bs.length:Nat):Int) 1 (AN X0)) (Zk 16 17 [29] (dx 30 (B3 x3 om) (da 31 ((x3*1117)) ((x3)*(1117)) (da 32 (((x2*131)+(x3*1117))) (((x2*131))+((x3*1117))) (Zk 12 13 [33] (da 34 (((p*29:Nat):Int)) (((p:Int))*(29)) (da 35 ((((x2*131)+(x3*1117))+((p*29:Nat):Int))) ((((x2*131)+(x3*1117)))+(((p*29:Nat):Int))) (ZG 5 10 [36,37,38,39,40] [0] (dw 41 (Qe bs) (dx 42 (Af p bs.length om om) (da 43 ((((p / bs.length:Nat):Int)*53)) ((((p / bs.length:Nat):Int))*(53)) (da 44 (((((x2*131)+(x3*1117))+((p*29:Nat):Int))+(((p / bs.length:Nat):Int)*53))) (((((x2*131)+(x3*1117))+((p*29:Nat):Int)))+((((p / bs.length:Nat):Int)*53))) (Zk 0 1 [45] (de (Yg 2 (Zm (Fy ((((x2*131)+(x3*1117))+((p*29:Nat):Int))+(((p / bs.length:Nat):Int)*53)) 64 om om) (Zm (IL ((((x2*131)+(x3*1117))+((p*29:Nat):Int))+(((p / bs.length:Nat):Int)*53)) (((((x2*131)+(x3*1117))+((p*29:Nat):Int))+(((p / bs.length:Nat):Int)*53)) / 64)) (Z1 (Yg 2 (Zm (BW (J5 ((((x2*131)+(x3*1117))+((p*29:Nat):Int))+(((p / bs.length:Nat):Int)*53)) (((((x2*131)+(x3*1117))+((p*29:Nat):Int))+(((p / bs.length:Nat):Int)*53)) / 64)) mx om (E7 ⟨by omega,by omega⟩ ⟨by omega,by omega⟩).1) (Zt (r1 [0] ⟨((J5 ((((x2*131)+(x3*1117))+((p*29:Nat):Int))+(((p / bs.length:Nat):Int)*53)) (((((x2*131)+(x3*1117))+((p*29:Nat):Int))+(((p / bs.length:Nat):Int)*53)) / 64)) % mx),rfl,rfl,(Pk.rem (E7 ⟨by omega,by omega⟩ ⟨by omega,by omega⟩).1 om)⟩))))))))))))))))))))))
theorem WV (rd:Nat) (bs:LI) (p:Nat) (xs:LI) (Zs:∀z∈bs,0<=z/\z<=255) (hp:p+1<=1000000000:=by exact ob) (hx:0<xs.length/\xs.length<=1000000:=by exact ob):Zf 62 [.p rd 0,Z6 xs] [Yb rd bs p] (fun r h=>∃(z:Int),r=.i z/\h=[.obj rd [Vd bs,.i (p+1:Nat)]]/\z∈xs):=by
 refine ZD 12 Tryz.func62 (Y9 (Yg 3 (iw (Ye xs) (ic [0] (XL rd bs p (xs.length:Int) (Zs:=ob)) ?_))))
 rintro _ _ ⟨k1,rfl,rfl,ZX⟩
 have hk:=ZX.lt om
 obtain ⟨x1,Z5⟩:=Zq xs k1.toNat om
 exact Zm (Zh none k1 1 (ZZ Z5)) (Zt (r1 [0] ⟨x1,rfl,rfl,(ZW Z5)⟩))
theorem UP (fs:LI) :Zf 144 [Z6 fs] [] (Yu (CE (Y6.mk fs))):=by
 exact ZD 5 Tryz.func144 (ar (iA [nl] fun b1=>ie (Yg 2 (ZA 0 b1 [Z6 fs] (ie (ZJ (r3 [] [.agg [Z6 fs]] [0] [(b1,b1)] ⟨rfl,rfl⟩ (Zd.agg (.cons (Zd.sl _ (Yr Z7 ob)) .nil)))))))))
theorem Ib (rd:Nat) (bs:LI) (p:Nat) (Zs:∀z∈bs,0<=z/\z<=255) (hp:p+1<=1000000000:=by exact ob):Zf 143 [.p rd 0] [Yb rd bs p] (fun r h=>∃(ds:List Zc) (v:Hd),r=.h v/\h=[rK v 3 (Zb (YW ds)),.obj rd [Vd bs,.i (p+1:Nat)]]/\GD ds):=by
 refine ZD 51 Tryz.func143 (Y9 (ar (iL (Z7 []) 0 1 fun v1=>ZE 0 [(8,Z6 [])] (Zv [] (UP []) (iL (Z7 [0,1]) 2 1 fun v2=>ZE 0 [(10,Z6 [0,1])] (Zv [] (UP [0,1]) (iL (Wn [Y6.mk [],Y6.mk [0,1]]) 2 1 fun v3=>Z2 1 (iA [.i 0,.i 0,nl] fun b1=>ZA 0 b1 [.i 0,.i 0,Dy [Y6.mk [],Y6.mk [0,1]] v3] (ie (ar (iL (Z7 []) 0 1 fun v4=>ZE 0 [(14,Z6 [])] (Zv [] (UP []) (iL (Z7 [3,0,3]) 3 1 fun v5=>ZE 0 [(16,Z6 [3,0,3])] (Zv [] (UP [3,0,3]) (iL (Wn [Y6.mk [],Y6.mk [3,0,3]]) 2 1 fun v6=>Z2 1 (iA [.i 0,.i 0,nl] fun b2=>ZA 0 b2 [.i 0,.i 0,Dy [Y6.mk [],Y6.mk [3,0,3]] v6] (ie (ar (iL (Z7 [1,3]) 2 1 fun v7=>ZE 0 [(20,Z6 [1,3])] (Zv [] (UP [1,3]) (iL (Wn [Y6.mk [1,3]]) 1 1 fun v8=>Z2 2 (iL (Z7 [1,1,0]) 3 1 fun v9=>ZE 0 [(25,Z6 [1,1,0])] (Zv [] (UP [1,1,0]) (iL (Z7 [0]) 1 1 fun v10=>ZE 0 [(27,Z6 [0])] (Zv [] (UP [0]) (iL (Z7 [3]) 1 1 fun v11=>ZE 0 [(29,Z6 [3])] (Zv [] (UP [3]) (iL (Wn [Y6.mk [1,1,0],Y6.mk [0],Y6.mk [3]]) 3 1 fun v12=>ZE 2 [(23,.agg [.i 0,.i 0,Qk [Y6.mk [1,3]]]),(24,.agg [.i 1,.i 0,.sl [] none]),(32,.agg [.i 0,.i 0,Qk [Y6.mk [1,1,0],Y6.mk [0],Y6.mk [3]]]),(33,.agg [.i 0,.i 1,.sl [] none])] (iL (YW [Zc.mk 0 0 [Y6.mk [1,3]],Zc.mk 1 0 [],Zc.mk 0 0 [Y6.mk [1,1,0],Y6.mk [0],Y6.mk [3]],Zc.mk 0 1 []]) 4 3 fun v13=>Z1 (ar (TW 3 [(35,.agg [.i 0,.i 0,Qk [Y6.mk [],Y6.mk [0,1]]]),(36,.agg [.i 0,.i 0,.sl [] none]),(37,.agg [.i 0,.i 0,Qk [Y6.mk [],Y6.mk [3,0,3]]])] [11,7] (Sj (Zb (YW [Zc.mk 0 0 [Y6.mk [],Y6.mk [0,1]],Zc.mk 0 0 [],Zc.mk 0 0 [Y6.mk [],Y6.mk [3,0,3]]])) 3 3 fun g1=>Z1 (Yg 1 (ic [16] (XL rd bs p 5 (Zs:=ob)) ?_))))))))))))))))))))))))))))))))))
 rintro _ _ ⟨k1,rfl,rfl,ZX⟩
 have hk:=ZX.lt om
 refine Z1 (Xd (ZQ (k1<4) (fun Z9=>?_) (fun Z9=>?_)))
 ·refine az (Z2 3 ?_)
  obtain ⟨x1,Z5⟩:=Zq [Zc.mk 0 0 [Y6.mk [1,3]],Zc.mk 1 0 [],Zc.mk 0 0 [Y6.mk [1,1,0],Y6.mk [0],Y6.mk [3]],Zc.mk 0 1 []] k1.toNat (by show k1.toNat<4;omega)
  exact Zm (Zh (some v13) k1 3 (VZ Z5)) (Z2 1 (iL (YW [x1]) 1 3 fun v14=>ZE 0 [(48,YL [x1])] (Dg 2 3 (⟨some ⟨g1,0,none⟩,3,3⟩:Hd) 3 (Zb (YW [Zc.mk 0 0 [Y6.mk [],Y6.mk [0,1]],Zc.mk 0 0 [],Zc.mk 0 0 [Y6.mk [],Y6.mk [3,0,3]]])) (YW [x1]) none rfl (KD _) (CT _) (by simp [YW]) (by simp<;>omega) fun v15=>Z1 (ar (Zt (r1 [0,1] ⟨([Ky,Zc.mk 0 0 [],Kz]++[x1]),v15,rfl,rfl,(GD.four Z5)⟩ (eq:=(rr (ls:=Zb (YW [Zc.mk 0 0 [Y6.mk [],Y6.mk [0,1]],Zc.mk 0 0 [],Zc.mk 0 0 [Y6.mk [],Y6.mk [3,0,3]]])++Zb (YW [x1])) (F6 _ _) (rc rz)))))))))
 exact ak (ar (Zt (r1 [1,0] ⟨[Ky,Zc.mk 0 0 [],Kz],(⟨some ⟨g1,0,none⟩,3,3⟩:Hd),rfl,rfl,GD.three⟩ (eq:=(rr (ls:=Zb (YW [Zc.mk 0 0 [Y6.mk [],Y6.mk [0,1]],Zc.mk 0 0 [],Zc.mk 0 0 [Y6.mk [],Y6.mk [3,0,3]]])) rfl (rc rz))))))
theorem Rq (rd:Nat) (bs:LI) (p:Nat) (Zs:∀z∈bs,0<=z/\z<=255) (hp:p+1<=1000000000:=by exact ob):Zf 143 [.p rd 0] [Yb rd bs p] (fun r h=>∃(ds:List Zc) (v:Value),r=K5 ds v/\h=[.tail v 3,.obj rd [Vd bs,.i (p+1:Nat)]]/\GD ds):=(Ib rd bs p Zs hp).frz (es:=YW) (hs:=fun _=>[.obj rd [Vd bs,.i (p+1:Nat)]]) KD om
theorem PY (rd:Nat) (bs:LI) (p:Nat) (Zs:∀z∈bs,0<=z/\z<=255) (hp:p+5<=1000000000:=by exact ob):Zf 113 [.p rd 0] [Yb rd bs p] (fun r h=>∃(dz:List Zc) (p2:Nat),r=YL dz/\h=[Yb rd bs p2]/\AD dz/\p<=p2/\p2<=p+5):=by
 refine ZD 89 Tryz.func113 (Y9 (Yg 1 (ic [0] (Ib rd bs p (Zs:=ob)) ?_)))
 rintro _ _ ⟨ds1,v1,rfl,rfl,ZX⟩
 have hgl:=ZX.len
 have hga:=ZX.ad
 refine Df 0 ds1.length (v:=v1) (A5 _) om (fun g1 c1 he1=>?_)
 subst he1
 refine Z1 (Yg 2 (io (.i ds1.length) (.i ds1.length) (lr _) (ic [1] (XL rd bs (p+1) (ds1.length:Int) (Zs:=ob)) ?_)))
 rintro _ _ ⟨k1,rfl,rfl,Yc⟩
 have qhp2:=Yc.lt om
 refine Z1 (X1 1 (ic [0] (XL rd bs ((p+1)+1) 14 (Zs:=ob)) ?_))
 rintro _ _ ⟨k2,rfl,rfl,YM⟩
 have qhp3:=YM.lt om
 refine ie (ab 0 (Y9 (Kw (fun fz gz F h=>∃(dq:List Zc) (vq:Hd) (pq:Nat),(AD dq)/\(p<=pq/\pq<=p+5)/\F=sF [] fz [(3,.h vq)]/\h=[Yb rd bs pq,rK vq 3 (Zb (YW dq))]) (fun _ _=>rfl) ?_ ?_)))
 ·refine ac (k2==0) ZB (fun Z9=>?_) (fun Z9=>?_)
  ·refine az (Z2 3 (iL (Z7 [-1,5,0,2]) 4 1 fun v2=>ZE 0 [(18,Z6 [-1,5,0,2])] (ic [1] (WV rd bs (((p+1)+1)+1) [-1,5,0,2] (Zs:=ob)) ?_)))
   rintro _ _ ⟨z1,rfl,rfl,YZ⟩
   refine Z2 1 (iL (Z7 [0,1,5]) 3 1 fun v3=>ZE 0 [(21,Z6 [0,1,5])] (ic [1] (WV rd bs ((((p+1)+1)+1)+1) [0,1,5] (Zs:=ob)) ?_))
   rintro _ _ ⟨z2,rfl,rfl,X7⟩
   exact Z2 1 (Zm (XS g1 ds1.length c1 k1.toNat 3 k1) (ZE 0 [(23,.agg [.i z1,.i z2,.sl [] none])] (BS 3 g1 ds1.length c1 3 (k1.toNat * 3) [.i z1,.i z2,.sl [] none] (Zb (YW ds1)) (Zb (YW (ds1.set k1.toNat (Zc.mk z1 z2 [])))) (by rw [A5];simp only [YD,X6];omega) (D3 (Zc.mk z1 z2 []) om) (ie (ZH ⟨(ds1.set k1.toNat (Zc.mk z1 z2 [])),(⟨some ⟨g1,0,none⟩,ds1.length,c1⟩:Hd),((((p+1)+1)+1)+1)+1,(hga.set _ (by simp)),ob,rfl,rfl⟩ (wk [1,0] fl))))))
  refine ar (YR (k2==1) ZB (fun Zg=>?_) (fun Zg=>?_))
  ·refine az (Z2 3 (iL (Z7 [-1,0,4,5]) 4 1 fun v4=>ZE 0 [(30,Z6 [-1,0,4,5])] (ic [1] (WV rd bs (((p+1)+1)+1) [-1,0,4,5] (Zs:=ob)) ?_)))
   rintro _ _ ⟨z3,rfl,rfl,XX⟩
   exact iL (Z7 [z3]) 1 1 fun v5=>ZE 0 [(32,Z6 [z3])] (Zv [] (UP [z3]) (iL (Z7 [0,0,0,0]) 4 1 fun v6=>ZE 0 [(34,Z6 [0,0,0,0])] (Zv [] (UP [0,0,0,0]) (iL (Z7 []) 0 1 fun v7=>ZE 0 [(36,Z6 [])] (Zv [] (UP []) (iL (Wn [Y6.mk [z3],Y6.mk [0,0,0,0],Y6.mk []]) 3 1 fun v8=>Z2 1 (Zm (XS g1 ds1.length c1 k1.toNat 3 k1) (ZE 0 [(39,.agg [.i 0,.i 0,Qk [Y6.mk [z3],Y6.mk [0,0,0,0],Y6.mk []]])] (BS 6 g1 ds1.length c1 3 (k1.toNat * 3) [.i 0,.i 0,Qk [Y6.mk [z3],Y6.mk [0,0,0,0],Y6.mk []]] (Zb (YW ds1)) (Zb (YW (ds1.set k1.toNat (Zc.mk 0 0 [Y6.mk [z3],Y6.mk [0,0,0,0],Y6.mk []])))) (by rw [A5];simp only [YD,X6];omega) (D3 (Zc.mk 0 0 [Y6.mk [z3],Y6.mk [0,0,0,0],Y6.mk []]) om) (ie (ZH ⟨(ds1.set k1.toNat (Zc.mk 0 0 [Y6.mk [z3],Y6.mk [0,0,0,0],Y6.mk []])),(⟨some ⟨g1,0,none⟩,ds1.length,c1⟩:Hd),(((p+1)+1)+1)+1,(hga.set _ (by simp)),ob,rfl,rfl⟩ (wk [5,0] fl))))))))))))
  refine ar (YR (k2==2) ZB (fun ZK=>?_) (fun ZK=>?_))
  ·exact az (Z2 3 (ia ((k1+1)) ((k1)+(1)) (iL (Z7 [k1+1]) 1 1 fun v9=>ZE 0 [(47,Z6 [k1+1])] (Zv [] (UP [k1+1]) (iL (Wn [Y6.mk [k1+1]]) 1 1 fun v10=>Z2 1 (Zm (XS g1 ds1.length c1 k1.toNat 3 k1) (ZE 0 [(50,.agg [.i 0,.i 0,Qk [Y6.mk [k1+1]]])] (BS 3 g1 ds1.length c1 3 (k1.toNat * 3) [.i 0,.i 0,Qk [Y6.mk [k1+1]]] (Zb (YW ds1)) (Zb (YW (ds1.set k1.toNat (Zc.mk 0 0 [Y6.mk [(k1+1)]])))) (by rw [A5];simp only [YD,X6];omega) (D3 (Zc.mk 0 0 [Y6.mk [(k1+1)]]) om) (ie (ZH ⟨(ds1.set k1.toNat (Zc.mk 0 0 [Y6.mk [(k1+1)]])),(⟨some ⟨g1,0,none⟩,ds1.length,c1⟩:Hd),((p+1)+1)+1,(hga.set _ (by simp)),ob,rfl,rfl⟩ (wk [3,0] fl)))))))))))
  refine ar (YR (k2==3) ZB (fun Yt=>?_) (fun Yt=>?_))
  ·refine az (Z2 2 (iL (Z7 [0,2,1]) 3 1 fun v11=>ZE 0 [(56,Z6 [0,2,1])] (ic [1] (WV rd bs (((p+1)+1)+1) [0,2,1] (Zs:=ob)) ?_)))
   rintro _ _ ⟨z4,rfl,rfl,Wu⟩
   exact ZE 1 [(58,.agg [.i 2,.i z4,.sl [] none])] (iL (YW [Zc.mk 2 z4 []]) 1 3 fun v12=>ZE 0 [(59,YL [Zc.mk 2 z4 []])] (Dg 3 ds1.length (⟨some ⟨g1,0,none⟩,ds1.length,c1⟩:Hd) 3 (Zb (YW ds1)) (YW [Zc.mk 2 z4 []]) none (A5 _) (KD _) (CT _) (by simp [YW]) (by simp<;>omega) fun v13=>Z1 (ZH ⟨(ds1++[Zc.mk 2 z4 []]),v13,(((p+1)+1)+1)+1,(hga.app (by simp;omega) (by simp)),ob,rfl,rfl⟩ (wk [2,0] fl (e:=(rc (rr (ls:=Zb (YW ds1)++Zb (YW [Zc.mk 2 z4 []])) (F6 _ _) rz)))))))
  refine ar (YR (k2==4) ZB (fun XG=>?_) (fun XG=>?_))
  ·refine az (Z2 3 (ic [0] (XL rd bs (((p+1)+1)+1) 2 (Zs:=ob)) ?_))
   rintro _ _ ⟨k3,rfl,rfl,V3⟩
   have qhp8:=V3.lt om
   refine iL (Z7 []) 0 1 fun v14=>ZE 0 [(67,Z6 [])] (Zv [] (UP []) (iL (Z7 [2]) 1 1 fun v15=>ZE 0 [(69,Z6 [2])] (Zv [] (UP [2]) (iL (Z7 []) 0 1 fun v16=>ZE 0 [(71,Z6 [])] (Zv [] (UP []) (iL (Z7 []) 0 1 fun v17=>ZE 0 [(73,Z6 [])] (Zv [] (UP []) (iL (Wn [Y6.mk [],Y6.mk [2],Y6.mk [],Y6.mk []]) 4 1 fun v18=>Z2 1 (ic [5] (XL rd bs ((((p+1)+1)+1)+1) 3 (Zs:=ob)) ?_)))))))))
   rintro _ _ ⟨k4,rfl,rfl,Vk⟩
   have qhp9:=Vk.lt om
   exact Zm (Kc (es:=Wn [Y6.mk [],Y6.mk [2],Y6.mk [],Y6.mk []]) (hv:=some v18) (l:=k4) (m:=(((Wn [Y6.mk [],Y6.mk [2],Y6.mk [],Y6.mk []]).length:Nat):Int)) (sz:=1) (es':=Wn ([Y6.mk [],Y6.mk [2],Y6.mk [],Y6.mk []].drop k4.toNat)) kr om (by simp<;>omega) (by simp<;>omega) (ER _) (by first|(simp only [VS,V7,ES,EQ];done)|(simp only [VS,V7,ES,EQ];rfl)|(simp [ES,EQ];done))) (Z2 1 (Zm (XS g1 ds1.length c1 k1.toNat 3 k1) (BS 6 g1 ds1.length c1 3 (k1.toNat * 3) [.i k3,.i 0,Qk ([Y6.mk [],Y6.mk [2],Y6.mk [],Y6.mk []].drop k4.toNat)] (Zb (YW ds1)) (Zb (YW (ds1.set k1.toNat (Zc.mk k3 0 ([Y6.mk [],Y6.mk [2],Y6.mk [],Y6.mk []].drop k4.toNat))))) (by rw [A5];simp only [YD,X6];omega) (D3 (Zc.mk k3 0 ([Y6.mk [],Y6.mk [2],Y6.mk [],Y6.mk []].drop k4.toNat)) om) (ie (ZH ⟨(ds1.set k1.toNat (Zc.mk k3 0 ([Y6.mk [],Y6.mk [2],Y6.mk [],Y6.mk []].drop k4.toNat))),(⟨some ⟨g1,0,none⟩,ds1.length,c1⟩:Hd),((((p+1)+1)+1)+1)+1,(hga.set _ ⟨by simp,fun c hc=>(by decide:∀c∈[Y6.mk [],Y6.mk [2],Y6.mk [],Y6.mk []],c.fields.length<=4) c (List.mem_of_mem_drop hc)⟩),ob,rfl,rfl⟩ (wk [1,0] fl))))))
  refine ar (YR (k2==5) ZB (fun XH=>?_) (fun XH=>?_))
  ·exact az (ZE 3 [(84,.agg [.i 0,.i 0,.sl [] none]),(85,.agg [.i 3,.i 0,.sl [] none])] (iL (YW [Zc.mk 0 0 [],Zc.mk 3 0 []]) 2 3 fun v19=>ZE 0 [(86,YL [Zc.mk 0 0 [],Zc.mk 3 0 []])] (Dg 2 ds1.length (⟨some ⟨g1,0,none⟩,ds1.length,c1⟩:Hd) 3 (Zb (YW ds1)) (YW [Zc.mk 0 0 [],Zc.mk 3 0 []]) none (A5 _) (KD _) (CT _) (by simp [YW]) (by simp<;>omega) fun v20=>Z1 (ZH ⟨(ds1++[Zc.mk 0 0 [],Zc.mk 3 0 []]),v20,((p+1)+1)+1,(hga.app (by simp;omega) (by simp)),ob,rfl,rfl⟩ (wk [2,0] fl (e:=(rc (rr (ls:=Zb (YW ds1)++Zb (YW [Zc.mk 0 0 [],Zc.mk 3 0 []])) (F6 _ _) rz))))))))
  exact ak (ZH ⟨ds1,(⟨some ⟨g1,0,none⟩,ds1.length,c1⟩:Hd),((p+1)+1)+1,hga,ob,rfl,rfl⟩ (wk [0,0] fl))
 rintro F h ⟨dq,vq,pq,Qh,Fv,rfl,rfl⟩
 exact Y9 (SV 2 1 (v:=vq) (YW dq) (KD _) (ZJ (r2 [1] [K5 dq vq.v] ⟨dq,pq,rfl,rfl,⟨Qh,Fv⟩⟩ (Zd.forget _ _))))
theorem Z4d (ds:List Zc) (n:Nat) (hz:JQ ds:=by exact ob) (hn:n<ds.length:=by exact ob):Zf 268 [YL ds,.i n] [] (Yu (.b (JX ds n))):=by
 have hl_ds:ds.length<=4294967296:=by have:=hz.len;omega
 refine ZD 100 Tryz.func268 (Y9 (Yg 2 ?_))
 obtain ⟨x1,Z5⟩:=Zq ds n om
 have hdo:=Hz Z5
 have hz1:=hz.cons_at Z5
 refine Zm (Zh none (n:Int) 3 (VZ Z5)) (Z2 1 (iA [.i 0,.i 0,nl] fun b1=>ZA 0 b1 (FD x1) (ie (Y7 2 [0] (iw (QV x1.cons) (ZQ ((x1.cons.length:Int)>0) (fun Z9=>?_) (fun Z9=>?_)))))))
 ·refine Y7 2 [0] (iw (QV x1.cons) (Vc 9 [0,5] [(24,.b ((decide ((x1.cons.length:Int)>3))||(x1.frm != 0)))] (fun gz=>gz) ?_ (fun hj1=>?_)))
  ·refine XN [0,5] [(29,.b (((decide ((x1.cons.length:Int)>3))||(x1.frm != 0))||(x1.to_ != 0)))] (fun gz=>gz) ?_ ?_
   ·refine Z2 1 (ib (b:=((decide ((x1.cons.length:Int)>3))||(x1.frm != 0))) 25 (fun Ze=>?_) (fun Ze=>?_))
    ·have ZX:((x1.cons.length:Int)>3)∨(x1.frm≠0):=((Xu dq Xa)).1 Ze
     exact Z1 (wk [0] (ZP true Ze fl))
    have Yc:¬(((x1.cons.length:Int)>3)∨(x1.frm≠0)):=YT (Xu dq Xa) Ze
    exact VG [0] (wk [0] (ZP (x1.to_ != 0) Ze fl))
   refine ac (((decide ((x1.cons.length:Int)>3))||(x1.frm != 0))||(x1.to_ != 0)) (p:=(((x1.cons.length:Int)>3)∨(x1.frm≠0))∨(x1.to_≠0)) (Xu (Xu dq Xa) Xa) (fun Zg=>?_) (fun Zg=>?_)
   ·exact ar (Zt (Y4 (.b false) (lb (by clear Z5;first|rfl|omega|grind [KA]))))
   refine ak (Y0 (ab 0 (Y1 (fun fz gz m F h=>∃(k:Nat),(k<=x1.cons.length)/\(Qt ds.length (x1.cons.drop k)=Qt ds.length x1.cons)/\F=sF [0,5] fz [(6,.i k)]/\h=gz/\m=x1.cons.length-k) _ _ _ ⟨0,ob,ob,rfl,rfl,rfl⟩ (wk [0] (Yd fl)) ?_)))
   rintro m F h ⟨k,Yf,Zj,rfl,rfl,rfl⟩
   refine Y7 3 [0] (iw (QV x1.cons) (ZQ ((k:Int)<(x1.cons.length:Int)) (fun ZK=>?_) (fun ZK=>?_)))
   ·refine ak (aq (ab 1 (Zo 3 [0] ?_)))
    obtain ⟨x2,Zu⟩:=Zq x1.cons k om
    refine Zm (Zh none (k:Int) 1 (CS Zu)) (Z2 2 (iw (Ye x2.fields) (XN [0,5,6] [(55,.b ((decide ((x2.fields.length:Int)>3))||(!VW ds.length x2.fields)))] (fun gz=>gz) ?_ ?_)))
    ·refine Z2 2 (ib (b:=(decide ((x2.fields.length:Int)>3))) 45 (fun ZU=>?_) (fun ZU=>?_))
     ·have YM:(x2.fields.length:Int)>3:=(dq).1 ZU
      exact Z1 (wk [0] (ZP true ZU fl))
     have YZ:¬((x2.fields.length:Int)>3):=YT dq ZU
     exact ZV 4 [0] (Zm (Zh none (k:Int) 1 (CS Zu)) (Z2 2 (Zv [] (MC ds x2.fields) (Z1 (wk [0] (ZP (!VW ds.length x2.fields) ZU fl))))))
    refine ac ((decide ((x2.fields.length:Int)>3))||(!VW ds.length x2.fields)) (p:=((x2.fields.length:Int)>3)∨(¬(VW ds.length x2.fields=true))) (Xu dq (Xi Iff.rfl)) (fun Yt=>?_) (fun Yt=>?_)
    ·refine Y9 ?_
     rw [Yn Zu] at Zj
     exact ZJ (Y4 (.b false) (lb (by clear Z5 Zu;first|rfl|omega|grind [Qt,AI,KA])))
    refine ak (az (Z2 1 (ZF k (Z1 ?_))))
    have hdr:=Yn Zu
    exact ZI ⟨k+1,ob,(by rw [hdr] at Zj;clear hdr Z5 Zu;grind [Qt,AI]),rfl,rfl,rfl⟩ (wk [0] (ZL k fl))
   refine ax 0 (Y9 ?_)
   try rw [Xz (xs:=x1.cons) (k:=k) om] at Zj
   exact ZJ (Y4 (.b true) (lb (by clear Z5;first|rfl|omega|grind [Qt,AI,KA])))
  refine Z2 2 (ib (b:=(decide ((x1.cons.length:Int)>3))) 20 (fun X4=>?_) (fun X4=>?_))
  ·have X7:(x1.cons.length:Int)>3:=(dq).1 X4
   exact Z2 4 (Xy (wk [0] (ZP true X4 fl)) hj1)
  have XX:¬((x1.cons.length:Int)>3):=YT dq X4
  exact ZV 4 [0] (Xy (wk [0] (ZP (x1.frm != 0) X4 fl)) hj1)
 refine ak (Y0 (ab 2 (Y1 (fun fz gz m F h=>∃(j:Nat),(j<=n)/\(JY x1 ((ds.take n).drop j)=JY x1 (ds.take n))/\F=sF [0,1,5] fz [(7,.i j)]/\h=gz/\m=n-j) _ _ _ ⟨0,ob,ob,rfl,rfl,rfl⟩ (wk [0] (Yd fl)) ?_)))
 rintro m F h ⟨j,VX,Wh,rfl,rfl,rfl⟩
 refine Xd (ZQ ((j:Int)<(n:Int)) (fun XG=>?_) (fun XG=>?_))
 ·refine ak (aq (ab 3 (aD 27 (Zk 25 27 [0,1] ?_))))
  obtain ⟨x3,X0⟩:=Zq ds j om
  refine dx 2 (Zh none (j:Int) 3 (VZ X0)) (Zk 22 24 [3,4] (dw 5 (QV x3.cons) (AM [0,1,5,7] [(87,.b (((x3.cons.length:Int)==0)&&((x3.frm==x1.frm)&&(x3.to_==x1.to_))))] (fun gz=>gz) ?_ ?_)))
  ·refine Zk 19 21 [6,7] (db (b:=((x3.cons.length:Int)==0)) 68 (fun Wd=>?_) (fun Wd=>?_))
   ·have Wu:(x3.cons.length:Int)=0:=(ZB).1 Wd
    refine Zk 17 19 [8,9] (dx 10 (Zh none (j:Int) 3 (VZ X0)) (ZG 9 16 [11,12,13,14,15,16,17] [0] (db (b:=(x3.frm==x1.frm)) 78 (fun Uj=>?_) (fun Uj=>?_))))
    ·have V3:x3.frm=x1.frm:=(ZB).1 Uj
     exact Zk 7 9 [18,19] (dx 20 (Zh none (j:Int) 3 (VZ X0)) (ZG 0 6 [21,22,23,24,25,26] [0] (de (wk [0] (ZP (x3.to_==x1.to_) (And.intro Wd Uj) fl)))))
    have Vk:¬(x3.frm=x1.frm):=YT ZB Uj
    exact Zk 0 9 [18,19,20,21,22,23,24,25,26] (de (wk [0] (ZP false (And.intro Wd Uj) fl)))
   have UT:¬((x3.cons.length:Int)=0):=YT ZB Wd
   exact Zk 0 19 [8,9,10,11,12,13,14,15,16,17,18,19,20,21,22,23,24,25,26] (de (wk [0] (ZP false Wd fl)))
  refine ac (((x3.cons.length:Int)==0)&&((x3.frm==x1.frm)&&(x3.to_==x1.to_))) (p:=((x3.cons.length:Int)=0)/\((x3.frm=x1.frm)/\(x3.to_=x1.to_))) (Xr ZB (Xr ZB ZB)) (fun XH=>?_) (fun XH=>?_)
  ·refine Y9 ?_
   rw [Yn (show (ds.take n)[j]? = some x3 by rw [T4,Zw om];exact X0),JY,Zw om] at Wh
   exact ZJ (Y4 (.b false) (lb (by clear Z5 X0;first|rfl|omega|grind [KA])))
  refine ak (az (Z2 1 (ZF j (hb:=(by have:=hz.len;omega)) (Z1 ?_))))
  have hdr:=Yn X0
  exact ZI ⟨j+1,ob,(by rw [Yn (show (ds.take n)[j]? = some x3 by rw [T4,Zw om];exact X0),JY,Zr om] at Wh;exact Wh),rfl,rfl,rfl⟩ (wk [0] (ZL j fl))
 refine ax 2 (Zo 3 [0] (iw (Tu ds) (Zv [] (U9 x1.frm 0 (ds.length:Int)) (Vc 12 [] [(99,.b ((decide (0<=x1.frm/\x1.frm<=(ds.length:Int)))&&(decide (0<=x1.to_/\x1.to_<=(ds.length:Int)))))] (fun gz=>gz) ?_ (fun hj2=>?_)))))
 ·refine Z1 ?_
  rw [Xz (show (ds.take n).length<=j by rw [Wq];omega),JY] at Wh
  exact ZJ (Y4 (.b ((decide (0<=x1.frm/\x1.frm<=(ds.length:Int)))&&(decide (0<=x1.to_/\x1.to_<=(ds.length:Int))))) (lb (by clear Z5;first|rfl|omega|grind [KA])))
 refine Z2 1 (ib (b:=(decide (0<=x1.frm/\x1.frm<=(ds.length:Int)))) 93 (fun TR=>?_) (fun TR=>?_))
 ·have UU:0<=x1.frm/\x1.frm<=(ds.length:Int):=(dq).1 TR
  exact ZV 3 [0] (iw (Tu ds) (Zv [] (U9 x1.to_ 0 (ds.length:Int)) (Z2 1 (Xy (wk [0] (ZP (decide (0<=x1.to_/\x1.to_<=(ds.length:Int))) TR fl)) hj2))))
 have UV:¬(0<=x1.frm/\x1.frm<=(ds.length:Int)):=YT dq TR
 exact Z2 6 (Xy (wk [0] (ZP false TR fl)) hj2)
theorem Z4j (ds:List Zc) (hz:JQ ds:=by exact ob):Zf 222 [YL ds] [] (Yu (.b (Q3 ds))):=by
 have hzl:=hz.len
 refine ZD 17 Tryz.func222 (Y9 (X1 1 (iw (Tu ds) (ZQ ((ds.length:Int)>4) (fun Z9=>?_) (fun Z9=>?_)))))
 ·exact ar (Zt (Y4 (.b false) (lb (by first|rfl|omega|grind [Q3]))))
 refine ak (Y0 (ab 0 (Y1 (fun fz gz m F h=>∃(k:Nat),(k<=ds.length)/\(QU ds (ds.drop k) k=QU ds ds 0)/\F=sF [0] fz [(3,.i k)]/\h=gz/\m=ds.length-k) _ _ _ ⟨0,ob,ob,rfl,rfl,rfl⟩ (wk [] (Yd fl)) ?_)))
 rintro m F h ⟨k,Yf,Zj,rfl,rfl,rfl⟩
 refine X1 2 (iw (Tu ds) (ZQ ((k:Int)<(ds.length:Int)) (fun Zg=>?_) (fun Zg=>?_)))
 ·refine ak (aq (ab 1 (Yg 2 (Zv [] (Z4d ds k) (YR (!JX ds k) (p:=¬(JX ds k=true)) (Xi Iff.rfl) (fun ZK=>?_) (fun ZK=>?_))))))
  ·refine Y9 ?_
   try rw [Xz (xs:=ds) (k:=k) om] at Zj
   obtain ⟨x1,Z5⟩:=Zq ds k om
   rw [Yn Z5] at Zj
   exact ZJ (Y4 (.b false) (lb (by first|rfl|omega|grind [QU,Q3])))
  refine ak (az (Z2 1 (ZF k (Z1 ?_))))
  obtain ⟨x1,Z5⟩:=Zq ds k om
  have hdr:=Yn Z5
  exact ZI ⟨k+1,ob,(by rw [hdr] at Zj;clear hdr ;grind [QU]),rfl,rfl,rfl⟩ (wk [] (ZL k fl))
 refine ax 0 (Y9 ?_)
 try rw [Xz (xs:=ds) (k:=k) om] at Zj
 exact ZJ (Y4 (.b true) (lb (by first|rfl|omega|grind [QU,Q3])))
theorem Z45 (n:Zx) (hz:n.routines.length<=4194304:=by exact ob):Zf 171 [Yl n] [] (Yu (.agg [YL n.decls,.sl (Vj (n.routines.map UI)) none])):=by
 refine ZD 35 Tryz.func171 (ar (iA (YN n) fun b1=>iA [nl,nl] fun b2=>ie (Zo 2 [1] (iL (Vj []) 0 5 fun v1=>Z2 1 (iA [nl,nl] fun b3=>?_)))))
 refine ZA 0 b3 [YL n.decls,.sl (Vj []) (some v1)] (ie (Y0 (ab 0 (Y1 (fun fz gz m F h=>∃(k:Nat) (v:Value),(k<=n.routines.length)/\F=sF [1,2,3] fz [(4,.i k)]/\h=[.obj b3 [YL n.decls,.sl (Vj ((n.routines.take k).map UI)) (some v)],Za gz 2,Za gz 3,.tail v 5]/\m=n.routines.length-k) _ _ _ ⟨0,v1,ob,rfl,rfl,rfl⟩ (wk [0,1,1,0] (Yd fl)) ?_))))
 rintro m F h ⟨k,v,Yf,rfl,rfl,rfl⟩
 refine Y7 3 [2] (iw (Uo n.routines) (ZQ ((k:Int)<(n.routines.length:Int)) (fun Z9=>?_) (fun Z9=>?_)))
 ·refine ak (aq (ab 1 (aE 19 (ZG 14 19 [0,1,2,3,4] [0,2] ?_))))
  obtain ⟨x1,Z5⟩:=Zq n.routines k om
  refine dx 5 (Zh none (k:Int) 5 (Wz Z5)) (ZG 8 13 [6,7,8,9,10] [2] (dx 11 (Zh none (k:Int) 5 (Wz Z5)) (Yh 4 7 [12,13,14] [(30,.agg [Z6 x1.params,.i x1.result,.i 0,.i 0,.sl [] none])] (Z8 15 (dL 15 [0] [b3] (Vj [Sg.mk x1.params x1.result]) 1 5 fun v2=>Yh 3 3 [] [(31,.sl (Vj [Sg.mk x1.params x1.result]) none)] (Z8 16 (dp 16 4 [] [] (Vj ((n.routines.take (k+1)).map UI)) (Vj ((n.routines.take k).map UI)) (Vj [Sg.mk x1.params x1.result]) v none 5 (HE _) (HE _) (Pu _) (by simp<;>omega) (by rw [Vq Z5];simp [Vj,UI]) fun v3=>Zk 1 2 [17] (Z8 18 (Yy 18 2 [] [] b3 [YL n.decls,.sl (Vj ((n.routines.take (k+1)).map UI)) (some v3)] (de (az (Z2 1 (ZF k (Z1 ?_))))))))))))))
  have hdr:=Yn Z5
  exact ZI ⟨k+1,v3,ob,rfl,rfl,rfl⟩ (wk [0,2,2,0] (ZL k fl))
 exact ax 0 (Zo 1 [0] (ZA 1 b2 [YL n.decls,.sl (Vj ((n.routines.take k).map UI)) (some v)] (ie (ZJ (r3 [] [.agg [YL n.decls,.sl (Vj ((n.routines.take k).map UI)) (some v)]] [0] [(b2,b2)] ⟨rfl,rfl⟩ (Zd.agg (.cons (lr _) (.cons (Zd.sl _ (Yr Vj (by rw [show k=n.routines.length by omega,V7]))) .nil))))))))
theorem Z4i (ds:List Zc) (fs:List Sg) (hz:JQ ds:=by exact ob) (hf:∀f∈fs,f.params.length<=4194304):Zf 170 [.agg [YL ds,.sl (Vj fs) none]] [] (Yu (.b (QH ds fs))):=by
 have hzl:=hz.len
 refine ZD 64 Tryz.func170 (ar (iA [YL ds,.sl (Vj fs) none] fun b1=>Z1 (Y7 2 [0] (Zv [] (Z4j ds) (XN [1] [(15,.b ((!Q3 ds)||(!(decide (1<=(fs.length:Int)/\(fs.length:Int)<=4)))))] (fun gz=>gz) ?_ ?_)))))
 ·refine Z2 2 (ib (b:=(!Q3 ds)) 9 (fun Ze=>?_) (fun Ze=>?_))
  ·have ZX:¬(Q3 ds=true):=((Xi Iff.rfl)).1 Ze
   exact Z1 (wk [0] (ZP true Ze fl))
  have Yc:¬(¬(Q3 ds=true)):=YT (Xi Iff.rfl) Ze
  exact ZV 2 [0] (iw (HF fs) (Zv [] (U9 (fs.length:Int) 1 4) (Z1 (wk [0] (ZP (!(decide (1<=(fs.length:Int)/\(fs.length:Int)<=4))) Ze fl)))))
 refine ac ((!Q3 ds)||(!(decide (1<=(fs.length:Int)/\(fs.length:Int)<=4)))) (p:=(¬(Q3 ds=true))∨(¬(1<=(fs.length:Int)/\(fs.length:Int)<=4))) (Xu (Xi Iff.rfl) (Xi dq)) (fun Z9=>?_) (fun Z9=>?_)
 ·exact ar (Zt (Y4 (.b false) (lb (by first|rfl|omega|grind [QH]))))
 refine ak (Y0 (ab 0 (Y1 (fun fz gz m F h=>∃(k:Nat),(k<=fs.length)/\(J1 ds.length (fs.drop k)=J1 ds.length fs)/\F=sF [1] fz [(3,.i k)]/\h=gz/\m=fs.length-k) _ _ _ ⟨0,ob,ob,rfl,rfl,rfl⟩ (wk [0] (Yd fl)) ?_)))
 rintro m F h ⟨k,Yf,Zj,rfl,rfl,rfl⟩
 refine Y7 3 [0] (iw (HF fs) (ZQ ((k:Int)<(fs.length:Int)) (fun Zg=>?_) (fun Zg=>?_)))
 ·refine ak (aq (ab 1 (Zo 3 [0] ?_)))
  obtain ⟨x1,Z5⟩:=Zq fs k om
  refine Zm (Zh none (k:Int) 5 (EX Z5)) (Z2 1 (iA [nl,.i 0,.i 0,.i 0,nl] fun b2=>ZA 0 b2 [Z6 x1.params,.i x1.result,.i 0,.i 0,.sl [] none] (ie (Zo 2 [0] (iw (Ye x1.params) (Vc 12 [1,3,4] [(39,.b ((decide ((x1.params.length:Int)>3))||(!VW ds.length x1.params)))] (fun gz=>gz) ?_ (fun hj1=>?_)))))))
  ·refine XN [1,3] [(48,.b (((decide ((x1.params.length:Int)>3))||(!VW ds.length x1.params))||(!(decide (0<=x1.result/\x1.result<=(ds.length:Int))))))] (fun gz=>gz) ?_ ?_
   ·refine Z2 1 (ib (b:=((decide ((x1.params.length:Int)>3))||(!VW ds.length x1.params))) 40 (fun ZU=>?_) (fun ZU=>?_))
    ·have YM:((x1.params.length:Int)>3)∨(¬(VW ds.length x1.params=true)):=((Xu dq (Xi Iff.rfl))).1 ZU
     exact Z1 (wk [0,0] (ZP true ZU fl))
    have YZ:¬(((x1.params.length:Int)>3)∨(¬(VW ds.length x1.params=true))):=YT (Xu dq (Xi Iff.rfl)) ZU
    exact ZV 4 [0,1] (iw (Tu ds) (Zv [] (U9 x1.result 0 (ds.length:Int)) (Z1 (wk [0,0] (ZP (!(decide (0<=x1.result/\x1.result<=(ds.length:Int)))) ZU fl)))))
   refine ac (((decide ((x1.params.length:Int)>3))||(!VW ds.length x1.params))||(!(decide (0<=x1.result/\x1.result<=(ds.length:Int))))) (p:=(((x1.params.length:Int)>3)∨(¬(VW ds.length x1.params=true)))∨(¬(0<=x1.result/\x1.result<=(ds.length:Int)))) (Xu (Xu dq (Xi Iff.rfl)) (Xi dq)) (fun ZK=>?_) (fun ZK=>?_)
   ·refine Y9 ?_
    rw [Yn Z5] at Zj
    exact ZJ (Y4 (.b false) (lb (by clear Z5;first|rfl|omega|grind [J1,Aq,QH])))
   refine ak (az (Z2 1 (ZF k (Z1 ?_))))
   have hdr:=Yn Z5
   exact ZI ⟨k+1,ob,(by rw [hdr] at Zj;clear hdr Z5;grind [J1,Aq]),rfl,rfl,rfl⟩ (wk [1] (ZL k fl))
  refine Z2 2 (ib (b:=(decide ((x1.params.length:Int)>3))) 32 (fun X4=>?_) (fun X4=>?_))
  ·have X7:(x1.params.length:Int)>3:=(dq).1 X4
   exact Z2 7 (Xy (wk [0,0] (ZP true X4 fl)) hj1)
  have XX:¬((x1.params.length:Int)>3):=YT dq X4
  exact ZV 4 [1,0] (Zv [] (MC ds x1.params) (Z2 2 (Xy (wk [0,0] (ZP (!VW ds.length x1.params) X4 fl)) hj1)))
 refine ax 0 (Zo 2 [0] ?_)
 obtain ⟨x2,Zu⟩:=Zq fs 0 om
 have hfo:=PH Zu
 refine Zm (Zh none 0 5 (EX Zu)) (Z2 2 (iw (Ye x2.params) (Vc 15 [] [(63,.b (((x2.params.length:Int)==0)&&(x2.result==0)))] (fun gz=>gz) ?_ (fun hj2=>?_))))
 ·refine Z1 ?_
  try rw [Xz (xs:=fs) (k:=k) om] at Zj
  exact ZJ (Y4 (.b (((x2.params.length:Int)==0)&&(x2.result==0))) (lb (by clear Zu;first|rfl|omega|grind [J1,Aq,QH])))
 refine Z2 2 (ib (b:=((x2.params.length:Int)==0)) 56 (fun Wd=>?_) (fun Wd=>?_))
 ·have Wu:(x2.params.length:Int)=0:=(ZB).1 Wd
  exact ZV 2 [0] (Zm (Zh none 0 5 (EX Zu)) (Z2 4 (Xy (wk [0] (ZP (x2.result==0) Wd fl)) hj2)))
 have V3:¬((x2.params.length:Int)=0):=YT ZB Wd
 exact Z2 7 (Xy (wk [0] (ZP false Wd fl)) hj2)
theorem Z4f (ps:LI) (ls:LI) (hl_ps:ps.length<=4294967296:=by exact ob) (hl_ls:ls.length<=4294967296:=by exact ob):Zf 172 [Z6 ps,Z6 ls] [] (Yu (.b (Cq ps ls))):=by
 refine ZD 47 Tryz.func172 (Y9 (Y0 (ab 0 (Y1 (fun fz gz m F h=>∃(k:Nat),(k<=ls.length)/\(KS ps (ls.drop k) (if k=0 then none else ls[k-1]?)=Cq ps ls)/\F=sF [0,1] fz [(5,.i k)]/\h=gz/\m=ls.length-k) _ _ _ ⟨0,ob,ob,rfl,rfl,rfl⟩ (wk [] (Yd fl)) ?_))))
 rintro m F h ⟨k,Yf,Zj,rfl,rfl,rfl⟩
 refine X1 2 (iw (Ye ls) (ZQ ((k:Int)<(ls.length:Int)) (fun Z9=>?_) (fun Z9=>?_)))
 ·refine ak (aq (ab 1 (aD 35 (Zk 33 35 [0,1] ?_))))
  obtain ⟨x1,Z5⟩:=Zq ls k om
  refine dx 2 (Zh none (k:Int) 1 (ZZ Z5)) (Zk 30 32 [3,4] (dw 5 (Ye ps) (da 6 (((ps.length:Int)-1)) (((ps.length:Int))-(1)) (Z8 7 (Yo 7 [] [] [] (U9 x1 0 ((ps.length:Int)-1)) (Zk 25 27 [8,9] (db (b:=(!(decide (0<=x1/\x1<=((ps.length:Int)-1))))) 21 (fun Ze=>?_) (fun Ze=>?_))))))))
  ·have ZX:¬(0<=x1/\x1<=((ps.length:Int)-1)):=((Xi dq)).1 Ze
   refine Zk 0 25 [10,11,12,13,14,15,16,17,18,19,20,21,22,23,24,25,26,27,28,29,30,31,32,33,34] (de (Vh (Y9 ?_)))
   rw [Yn Z5] at Zj
   exact ZJ (Y4 (.b false) (lb (by have hq:=FK (ps:=ps) (v:=x1) (r:=ls.drop (k+1)) (prev:=if k=0 then none else ls[k-1]?);rw [<-Zj,hq];rintro ⟨q1,q2,q3⟩;first|omega|(rw [hps] at q2;exact q2 (Yr some om))|(have:=q3 _ (by rw [Zr om,hls]);omega))))
  have Yc:¬(¬(0<=x1/\x1<=((ps.length:Int)-1))):=YT (Xi dq) Ze
  refine Zk 22 25 [10,11,12] (dx 13 (Zh none (k:Int) 1 (ZZ Z5)) (Zk 20 21 [14] ?_))
  obtain ⟨x2,Zu⟩:=Zq ps x1.toNat om
  have hps:=Zu
  refine dx 15 (Zh none x1 1 (ZZ Zu)) (Zk 15 19 [16,17,18,19] (db (b:=(x2==0)) 31 (fun ZU=>?_) (fun ZU=>?_)))
  ·have YM:x2=0:=(ZB).1 ZU
   refine Zk 0 15 [20,21,22,23,24,25,26,27,28,29,30,31,32,33,34] (de (Vh (Y9 ?_)))
   rw [Yn Z5] at Zj
   exact ZJ (Y4 (.b false) (lb (by have hq:=FK (ps:=ps) (v:=x1) (r:=ls.drop (k+1)) (prev:=if k=0 then none else ls[k-1]?);rw [<-Zj,hq];rintro ⟨q1,q2,q3⟩;first|omega|(rw [hps] at q2;exact q2 (Yr some om))|(have:=q3 _ (by rw [Zr om,hls]);omega))))
  have YZ:¬(x2=0):=YT ZB ZU
  refine Zk 12 15 [20,21,22] (db (b:=(decide ((k:Int)>0))) 34 (fun X4=>?_) (fun X4=>?_))
  ·have X7:(k:Int)>0:=(dq).1 X4
   refine Zk 10 12 [23,24] (dx 25 (Zh none (k:Int) 1 (ZZ Z5)) (Zk 6 9 [26,27,28] (da 29 (((k-1:Nat):Int)) (((k:Int))-(1)) ?_)))
   obtain ⟨x3,X0⟩:=Zq ls (k-1) om
   have hls:=X0
   refine dx 30 (Zh none ((k-1:Nat):Int) 1 (ZZ X0)) (Zk 0 4 [31,32,33,34] (de (VJ (x1<=x3) (fun Zg=>?_) (fun Zg=>?_))))
   ·refine Y9 ?_
    rw [Yn Z5] at Zj
    exact ZJ (Y4 (.b false) (lb (by have hq:=FK (ps:=ps) (v:=x1) (r:=ls.drop (k+1)) (prev:=if k=0 then none else ls[k-1]?);rw [<-Zj,hq];rintro ⟨q1,q2,q3⟩;first|omega|(rw [hps] at q2;exact q2 (Yr some om))|(have:=q3 _ (by rw [Zr om,hls]);omega))))
   refine ak (az (Z2 1 (ZF k (Z1 ?_))))
   have hl1:ls[k+1-1]? = some x1:=Z5
   have hlc:(0<=x1/\x1<=(ps.length:Int)-1)/\ps[x1.toNat]?≠some 0/\(∀p,(if k=0 then none else ls[k-1]?)=some p->p<x1):=⟨by omega,by rw [hps];intro q;cases q;omega,fun p hp=>by first|(rw [Zr om,hls] at hp;cases hp;omega)|(rw [Zw om] at hp;cases hp)⟩
   have hdr:=Yn Z5
   exact ZI ⟨k+1,ob,(by have hq:=L7 (r:=ls.drop (k+1)) hlc;rw [hdr,hq] at Zj;rw [Zr om,hl1];exact Zj),rfl,rfl,rfl⟩ (wk [] (ZL k fl))
  have XX:¬((k:Int)>0):=YT dq X4
  refine Zk 0 12 [23,24,25,26,27,28,29,30,31,32,33,34] (de (Wx (ak (az (Z2 1 (ZF k (Z1 ?_)))))))
  have hl1:ls[k+1-1]? = some x1:=Z5
  have hlc:(0<=x1/\x1<=(ps.length:Int)-1)/\ps[x1.toNat]?≠some 0/\(∀p,(if k=0 then none else ls[k-1]?)=some p->p<x1):=⟨by omega,by rw [hps];intro q;cases q;omega,fun p hp=>by first|(rw [Zr om,hls] at hp;cases hp;omega)|(rw [Zw om] at hp;cases hp)⟩
  have hdr:=Yn Z5
  exact ZI ⟨k+1,ob,(by have hq:=L7 (r:=ls.drop (k+1)) hlc;rw [hdr,hq] at Zj;rw [Zr om,hl1];exact Zj),rfl,rfl,rfl⟩ (wk [] (ZL k fl))
 refine ax 0 (Y9 ?_)
 try rw [Xz (xs:=ls) (k:=k) om] at Zj
 exact ZJ (Y4 (.b true) (lb (by first|rfl|omega|grind [KS])))
theorem Z4g (n:Zx) (hz:JQ n.decls:=by exact ob) (hr:∀r∈n.routines,r.params.length<=4194304/\r.lent.length<=4194304):Zf 127 [Yl n] [] (Yu (.b (K4 n))):=by
 have hzl:=hz.len
 refine ZD 35 Tryz.func127 (ar (iA (YN n) fun b1=>Z1 (Y7 2 [0] (iw (Uo n.routines) (XN [1] [(13,.b ((decide ((n.routines.length:Int)>4))||(!QH n.decls (n.routines.map UI))))] (fun gz=>gz) ?_ ?_)))))
 ·refine Z2 2 (ib (b:=(decide ((n.routines.length:Int)>4))) 8 (fun Ze=>?_) (fun Ze=>?_))
  ·have ZX:(n.routines.length:Int)>4:=(dq).1 Ze
   exact Z1 (wk [0] (ZP true Ze fl))
  have Yc:¬((n.routines.length:Int)>4):=YT dq Ze
  exact ZV 1 [0] (Zv [] (Z45 n) (Zv [] (Z4i n.decls (n.routines.map UI) (hf:=(by intro f hf;obtain ⟨r,h1,rfl⟩:=Wf.1 hf;exact (hr r h1).1))) (Z1 (wk [0] (ZP (!QH n.decls (n.routines.map UI)) Ze fl)))))
 refine ac ((decide ((n.routines.length:Int)>4))||(!QH n.decls (n.routines.map UI))) (p:=((n.routines.length:Int)>4)∨(¬(QH n.decls (n.routines.map UI)=true))) (Xu dq (Xi Iff.rfl)) (fun Z9=>?_) (fun Z9=>?_)
 ·exact ar (Zt (Y4 (.b false) (lb (by first|rfl|omega|grind [K4]))))
 refine ak (Y0 (ab 0 (Y1 (fun fz gz m F h=>∃(k:Nat),(k<=n.routines.length)/\(Ai (n.routines.drop k)=Ai n.routines)/\F=sF [1] fz [(3,.i k)]/\h=gz/\m=n.routines.length-k) _ _ _ ⟨0,ob,ob,rfl,rfl,rfl⟩ (wk [0] (Yd fl)) ?_)))
 rintro m F h ⟨k,Yf,Zj,rfl,rfl,rfl⟩
 refine Y7 3 [0] (iw (Uo n.routines) (ZQ ((k:Int)<(n.routines.length:Int)) (fun Zg=>?_) (fun Zg=>?_)))
 ·refine ak (aq (ab 1 (aD 14 (ZG 11 14 [0,1,2] [0] ?_))))
  obtain ⟨x1,Z5⟩:=Zq n.routines k om
  refine dx 3 (Zh none (k:Int) 5 (Wz Z5)) (ZG 5 10 [4,5,6,7,8] [0] (dx 9 (Zh none (k:Int) 5 (Wz Z5)) (Zk 2 4 [10,11] (Z8 12 (Yo 12 [] [] [] (Z4f x1.params x1.lent (hl_ps:=(by have:=hr _ (ZW Z5);omega)) (hl_ls:=(by have:=hr _ (ZW Z5);omega))) (Zk 0 1 [13] (de (ac (!Cq x1.params x1.lent) (p:=¬(Cq x1.params x1.lent=true)) (Xi Iff.rfl) (fun ZK=>?_) (fun ZK=>?_)))))))))
  ·refine Y9 ?_
   rw [Yn Z5] at Zj
   exact ZJ (Y4 (.b false) (lb (by clear Z5;first|rfl|omega|grind [Ai,K4])))
  refine ak (az (Z2 1 (ZF k (Z1 ?_))))
  have hdr:=Yn Z5
  exact ZI ⟨k+1,ob,(by rw [hdr] at Zj;clear hdr Z5;grind [Ai]),rfl,rfl,rfl⟩ (wk [0] (ZL k fl))
 refine ax 0 (Y9 ?_)
 try rw [Xz (xs:=n.routines) (k:=k) om] at Zj
 exact ZJ (Y4 (.b true) (lb (by first|rfl|omega|grind [Ai,K4])))
theorem Qn (op:Int) :Zf 169 [.i op] [] (Yu (.b (XE op))):=by
 exact ZD 5 Tryz.func169 (Y9 (Yg 1 (Zv [] (U9 op 0 11) (Zt (Y4 (.b (decide (0<=op/\op<=11))) (lb (by first|rfl|omega|grind [XE])))))))
theorem Z3u (op:Int) :Zf 210 [.i op] [] (Yu (.b (US op))):=by
 refine ZD 21 Tryz.func210 (Y9 (ar (Vc 6 [0] [(8,.b ((op==0)||(op==6)))] (fun gz=>gz) ?_ (fun hj1=>?_))))
 ·refine Vc 10 [0] [(12,.b (((op==0)||(op==6))||(op==8)))] (fun gz=>gz) ?_ (fun hj2=>?_)
  ·refine Vc 14 [0] [(16,.b ((((op==0)||(op==6))||(op==8))||(op==9)))] (fun gz=>gz) ?_ (fun hj3=>?_)
   ·refine Vc 18 [] [(20,.b (((((op==0)||(op==6))||(op==8))||(op==9))||(op==10)))] (fun gz=>gz) ?_ (fun hj4=>?_)
    ·exact Zt (Y4 (.b (((((op==0)||(op==6))||(op==8))||(op==9))||(op==10))) (lb (by rw [US];simp only [Bool.or_assoc])))
    refine Z2 1 (ib (b:=((((op==0)||(op==6))||(op==8))||(op==9))) 17 (fun Ze=>?_) (fun Ze=>?_))
    ·exact Z2 3 (Xy (wk [] (ZP true Ze fl)) hj4)
    exact Z2 3 (Xy (wk [] (ZP (op==10) Ze fl)) hj4)
   refine Z2 1 (ib (b:=(((op==0)||(op==6))||(op==8))) 13 (fun ZU=>?_) (fun ZU=>?_))
   ·exact Z2 3 (Xy (wk [] (ZP true ZU fl)) hj3)
   exact Z2 3 (Xy (wk [] (ZP (op==9) ZU fl)) hj3)
  refine Z2 1 (ib (b:=((op==0)||(op==6))) 9 (fun X4=>?_) (fun X4=>?_))
  ·exact Z2 3 (Xy (wk [] (ZP true X4 fl)) hj2)
  exact Z2 3 (Xy (wk [] (ZP (op==8) X4 fl)) hj2)
 refine Z2 3 (ib (b:=(op==0)) 5 (fun Wd=>?_) (fun Wd=>?_))
 ·exact Z2 3 (Xy (wk [] (ZP true Wd fl)) hj1)
 exact Z2 3 (Xy (wk [] (ZP (op==6) Wd fl)) hj1)
theorem JF (us:LI) (args:LI) (tys:LI) (hl_us:us.length<=4294967296:=by exact ob) (hl_args:args.length<=4294967296:=by exact ob) (hl_tys:tys.length<=4294967296:=by exact ob):Zf 212 [Z6 us,Z6 args,Z6 tys] [] (Yu (.b (Wk us args tys))):=by
 refine ZD 42 Tryz.func212 (Y9 (X1 1 (iw (Ye args) (Z2 1 (iw (Ye tys) (YR ((args.length:Int) != (tys.length:Int)) Xa (fun Z9=>?_) (fun Z9=>?_)))))))
 ·exact ar (Zt (Y4 (.b false) (lb (N9 om).symm)))
 refine ak (Y0 (ab 0 (Y1 (fun fz gz m F h=>∃(k:Nat),(k<=args.length)/\(Q1 us (args.drop k) (tys.drop k)=Wk us args tys)/\F=sF [0,1,2] fz [(7,.i k)]/\h=gz/\m=args.length-k) _ _ _ ⟨0,ob,ob,rfl,rfl,rfl⟩ (wk [] (Yd fl)) ?_)))
 rintro m F h ⟨k,Yf,Zj,rfl,rfl,rfl⟩
 refine X1 2 (iw (Ye args) (ZQ ((k:Int)<(args.length:Int)) (fun Zg=>?_) (fun Zg=>?_)))
 ·refine ak (aq (ab 1 (aD 23 (Zk 21 23 [0,1] ?_))))
  obtain ⟨x1,Z5⟩:=Zq args k om
  refine dx 2 (Zh none (k:Int) 1 (ZZ Z5)) (Zk 18 20 [3,4] (dw 5 (Ye us) (da 6 (((us.length:Int)-1)) (((us.length:Int))-(1)) (Z8 7 (Yo 7 [] [] [] (U9 x1 0 ((us.length:Int)-1)) (Zk 13 15 [8,9] (db (b:=(!(decide (0<=x1/\x1<=((us.length:Int)-1))))) 28 (fun Ze=>?_) (fun Ze=>?_))))))))
  ·have ZX:¬(0<=x1/\x1<=((us.length:Int)-1)):=((Xi dq)).1 Ze
   refine Zk 0 13 [10,11,12,13,14,15,16,17,18,19,20,21,22] (de (Vh (Y9 ?_)))
   obtain ⟨y,hy⟩:=Zq tys k om
   exact ZJ (Y4 (.b false) (lb (by rw [<-Zj];exact (N8 Z5 hy (by rw [Kr ZX];simp)).symm)))
  have Yc:¬(¬(0<=x1/\x1<=((us.length:Int)-1))):=YT (Xi dq) Ze
  refine Zk 10 13 [10,11,12] (dx 13 (Zh none (k:Int) 1 (ZZ Z5)) (Zk 8 9 [14] ?_))
  obtain ⟨x2,Zu⟩:=Zq us x1.toNat om
  refine dx 15 (Zh none x1 1 (ZZ Zu)) (Zk 4 7 [16,17,18] ?_)
  obtain ⟨x3,X0⟩:=Zq tys k om
  refine dx 19 (Zh none (k:Int) 1 (ZZ X0)) (Zk 0 3 [20,21,22] (de (ac (x2 != x3) Xa (fun ZK=>?_) (fun ZK=>?_))))
  ·exact ar (Zt (Y4 (.b false) (lb (by rw [<-Zj];exact (N8 Z5 X0 (by rw [Jf om Zu];simpa using ZK)).symm))))
  refine ak (az (Z2 1 (ZF k (Z1 ?_))))
  have hdr:=Yn Z5
  exact ZI ⟨k+1,ob,(by rw [<-Zj];exact (Z57 Z5 X0 (by rw [Jf om Zu];congr 1;omega)).symm),rfl,rfl,rfl⟩ (wk [] (ZL k fl))
 exact ax 0 (ar (Zt (Y4 (.b true) (lb (by rw [<-Zj];exact (Z56 om om).symm)))))
theorem Z4e (us:LI) (s:Z4) (hl_us:us.length<=4294967296:=by exact ob):Zf 211 [Z6 us,Yp s] [] (Yu (.b (UK us s.op s.into))):=by
 refine ZD 27 Tryz.func211 (ar (iA (Xg s) fun b1=>Z1 (Xd (VG [0] (ac (s.into==0) ZB (fun Z9=>?_) (fun Z9=>?_))))))
 ·exact ar (Zt (Y4 (.b true) (lb (by rw [UK,Zw Z9]))))
 refine ak (ar (Vc 10 [0,3] [(17,.b ((s.op==6)&&(decide (1<=s.into/\s.into<=(us.length:Int)))))] (fun gz=>gz) ?_ (fun hj1=>?_)))
 ·refine Z2 1 (ib (b:=((s.op==6)&&(decide (1<=s.into/\s.into<=(us.length:Int))))) 18 (fun Ze=>?_) (fun Ze=>?_))
  ·have ZX:(s.op=6)/\(1<=s.into/\s.into<=(us.length:Int)):=((Xr ZB dq)).1 Ze
   refine ZV 3 [0] (ia ((s.into-1)) ((s.into)-(1)) ?_)
   obtain ⟨x1,Z5⟩:=Zq us ((s.into-1).toNat) om
   exact Zm (Zh none (s.into-1) 1 (ZZ Z5)) (Zt (Y4 (.b (decide (x1>0))) (lb (by rw [UK,Zr Z9];first|(rw [Zw om,Jf om Z5];rfl)|(rw [Zw om,Kr om];rfl)|(rw [Zr om])|(by_cases q:s.op=6;rw [Zw q,Kr om];rfl;rw [Zr q])))))
  have Yc:¬((s.op=6)/\(1<=s.into/\s.into<=(us.length:Int))):=YT (Xr ZB dq) Ze
  exact Zt (Y4 (.b false) (lb (by rw [UK,Zr Z9];first|(rw [Zw om,Jf om Z5];rfl)|(rw [Zw om,Kr om];rfl)|(rw [Zr om])|(by_cases q:s.op=6;rw [Zw q,Kr om];rfl;rw [Zr q]))))
 refine ZV 4 [0] (ib (b:=(s.op==6)) 11 (fun ZU=>?_) (fun ZU=>?_))
 ·have YM:s.op=6:=(ZB).1 ZU
  exact ZV 3 [0] (iw (Ye us) (Zv [] (U9 s.into 1 (us.length:Int)) (Z2 1 (Xy (wk [0] (ZP (decide (1<=s.into/\s.into<=(us.length:Int))) ZU fl)) hj1))))
 have YZ:¬(s.op=6):=YT ZB ZU
 exact Z2 6 (Xy (wk [0] (ZP false ZU fl)) hj1)
theorem Z43 (n:Zx) (us:LI) (s:Z4) (hn:Xh n:=by exact ob) (hl_us:us.length<=4294967296:=by exact ob) (ha:s.args.length<=1000000000:=by exact ob):Zf 215 [Yl n,Z6 us,Yp s] [] (Yu (.i (K8 n us s.op s.num s.args))):=by
 have hrl:=hn.len
 have hdl:=hn.decls.len
 refine ZD 69 Tryz.func215 (ar (iA (YN n) fun b1=>iA (Xg s) fun b2=>Z1 (Y7 4 [0,1] (iw (Uo n.routines) (ia (((n.routines.length:Int)-1)) (((n.routines.length:Int))-(1)) (Zv [] (U9 s.num 0 ((n.routines.length:Int)-1)) (YR (!(decide (0<=s.num/\s.num<=((n.routines.length:Int)-1)))) (p:=¬(0<=s.num/\s.num<=((n.routines.length:Int)-1))) (Xi dq) (fun Z9=>?_) (fun Z9=>?_))))))))
 ·exact ar (Zt (Y4 (.i (-1)) (li (Z2f om).symm)))
 refine ak (Zo 4 [1,0] ?_)
 obtain ⟨x1,Z5⟩:=Zq n.routines s.num.toNat om
 have hrp:=hn.params_at Z5
 have hrt:=hn.lent_at Z5
 have hre:K8 n us s.op s.num s.args=Jz n.decls us s.op s.args x1:=Z2e om Z5
 refine Zm (Zh none s.num 5 (Wz Z5)) (Z2 1 (iA [nl,nl,.i 0,nl,.i 0] fun b3=>ZA 0 b3 (K1 x1) (ie (Zo 2 [0] (iw (Ye x1.params) (Z1 (Xd (VG [1] (ac (s.op==9) ZB (fun Zg=>?_) (fun Zg=>?_))))))))))
 ·refine Y7 5 [1,0] (Zv [] (JF us s.args x1.params) (YR (!Wk us s.args x1.params) (p:=¬(Wk us s.args x1.params=true)) (Xi Iff.rfl) (fun ZK=>?_) (fun ZK=>?_)))
  ·exact ar (Zt (Y4 (.i (-1)) (li (by clear Z5;first|rfl|omega|grind [Jz,Bx]))))
  exact ak (A7 [0] (ZJ (Y4 (.i x1.result) (li (by clear Z5;first|rfl|omega|grind [Jz,Bx])))))
 refine ak (aq (aD 20 (AM [3,7,8] [(57,.b (((x1.params.length:Int)==0)||((decide ((x1.lent.length:Int)>0))||(!Wk us s.args (x1.params.take (x1.params.length-1))))))] (fun gz=>gz) ?_ ?_)))
 ·refine Zk 17 20 [0,1,2] (db (b:=((x1.params.length:Int)==0)) 40 (fun Ze=>?_) (fun Ze=>?_))
  ·have ZX:(x1.params.length:Int)=0:=(ZB).1 Ze
   exact Zk 0 17 [3,4,5,6,7,8,9,10,11,12,13,14,15,16,17,18,19] (de (ZT 3 (ZP true Ze fl)))
  have Yc:¬((x1.params.length:Int)=0):=YT ZB Ze
  refine ZG 15 17 [3,4] [0] (dw 5 (Ye x1.lent) (Zk 11 14 [6,7,8] (db (b:=(decide ((x1.lent.length:Int)>0))) 46 (fun ZU=>?_) (fun ZU=>?_))))
  ·have YM:(x1.lent.length:Int)>0:=(dq).1 ZU
   exact Zk 0 11 [9,10,11,12,13,14,15,16,17,18,19] (de (ZT 3 (ZP true (And.intro Ze ZU) fl)))
  have YZ:¬((x1.lent.length:Int)>0):=YT dq ZU
  exact ZG 5 11 [9,10,11,12,13,14] [1,0] (da 15 (((x1.params.length-1:Nat):Int)) (((x1.params.length:Int))-(1)) (dx 16 (Kc (es:=Z7 x1.params) (hv:=none) (l:=0) (m:=((x1.params.length-1:Nat):Int)) (sz:=1) (es':=Z7 (x1.params.take (x1.params.length-1))) kr om (by simp<;>omega) (by simp<;>omega) (Yw _) (by first|(simp only [VS,V7,A0,AQ];done)|(simp only [VS,V7,A0,AQ];rfl)|(simp [A0,AQ];done))) (Z8 17 (Yo 17 [] [] [] (JF us s.args (x1.params.take (x1.params.length-1))) (Zk 0 2 [18,19] (de (ZT 3 (ZP (!Wk us s.args (x1.params.take (x1.params.length-1))) (And.intro Ze ZU) fl))))))))
 refine ac (((x1.params.length:Int)==0)||((decide ((x1.lent.length:Int)>0))||(!Wk us s.args (x1.params.take (x1.params.length-1))))) (p:=((x1.params.length:Int)=0)∨(((x1.lent.length:Int)>0)∨(¬(Wk us s.args (x1.params.take (x1.params.length-1))=true)))) (Xu ZB (Xu dq (Xi Iff.rfl))) (fun Yt=>?_) (fun Yt=>?_)
 ·exact ar (Zt (Y4 (.i (-1)) (li (by clear Z5;first|rfl|omega|grind [Jz,Bx]))))
 refine ak (aD 12 (ZG 7 12 [0,1,2,3,4] [2,0] (da 5 (((x1.params.length-1:Nat):Int)) (((x1.params.length:Int))-(1)) ?_)))
 obtain ⟨x2,Zu⟩:=Zq x1.params (x1.params.length-1) om
 have hgl:=S8 Zu
 exact dx 6 (Zh none ((x1.params.length-1:Nat):Int) 1 (ZZ Zu)) (ZG 2 5 [7,8,9] [0] (Z8 10 (Yo 10 [] [] [] (ME n.decls x2 x1.result) (Zk 0 1 [11] (de (ZJ (Y4 (.i (QN n.decls x2 x1.result)) (li (by clear Z5 Zu;first|rfl|omega|grind [Jz,Bx])))))))))
theorem Z3s (n:Zx) (us:LI) (s:Z4) (hn:Xh n:=by exact ob) (hl_us:us.length<=4294967296:=by exact ob) (ha:s.args.length<=1000000000:=by exact ob):Zf 217 [Yl n,Z6 us,Yp s] [] (Yu (.i (Qc n.decls us s.op s.args))):=by
 have XB:=hn.decls
 refine ZD 52 Tryz.func217 (ar (iA (YN n) fun b1=>iA (Xg s) fun b2=>Z1 (Y7 2 [0] (iw (Ye s.args) (Z2 2 (ib (b:=((s.args.length:Int) != 1)) 11 (fun Ze=>?_) (fun Ze=>?_)))))))
 ·have ZX:(s.args.length:Int)≠1:=(Xa).1 Ze
  exact Z1 (Vh (ar (Zt (Y4 (.i (-1)) (li (by first|assumption|omega|rfl|(rw [AK om])|(rw [AL (Qa om Z5) om])|(rw [AJ (Qa om Z5) om Zu];clear Z5 Zu;grind)))))))
 have Yc:¬((s.args.length:Int)≠1):=YT Xa Ze
 refine ZV 2 [0] ?_
 obtain ⟨x1,Z5⟩:=Zq s.args 0 om
 refine Zm (Zh none 0 1 (ZZ Z5)) (Z2 2 (iw (Ye us) (ia (((us.length:Int)-1)) (((us.length:Int))-(1)) (Zv [] (U9 x1 0 ((us.length:Int)-1)) (Z2 3 (ib (b:=(!(decide (0<=x1/\x1<=((us.length:Int)-1))))) 22 (fun ZU=>?_) (fun ZU=>?_)))))))
 ·have YM:¬(0<=x1/\x1<=((us.length:Int)-1)):=((Xi dq)).1 ZU
  exact Z1 (Vh (ar (Zt (Y4 (.i (-1)) (li (by first|assumption|omega|rfl|(rw [AK om])|(rw [AL (Qa om Z5) om])|(rw [AJ (Qa om Z5) om Zu];clear Z5 Zu;grind)))))))
 have YZ:¬(¬(0<=x1/\x1<=((us.length:Int)-1))):=YT (Xi dq) ZU
 refine ZV 3 [0] (Zm (Zh none 0 1 (ZZ Z5)) (Z2 1 ?_))
 obtain ⟨x2,Zu⟩:=Zq us x1.toNat om
 refine Zm (Zh none x1 1 (ZZ Zu)) (YR (x2==0) ZB (fun Z9=>?_) (fun Z9=>?_))
 ·exact ar (Zt (Y4 (.i (-1)) (li (by first|assumption|omega|rfl|(rw [AK om])|(rw [AL (Qa om Z5) om])|(rw [AJ (Qa om Z5) om Zu];clear Z5 Zu;grind)))))
 refine ak (aq (aD 20 (AM [] [(51,.b ((s.op != 14)&&((s.op != 15)&&WW n.decls x2)))] (fun gz=>gz) ?_ ?_)))
 ·refine ZG 16 20 [0,1,2,3] [0] (db (b:=(s.op != 14)) 35 (fun X4=>?_) (fun X4=>?_))
  ·have X7:s.op≠14:=(Xa).1 X4
   refine ZG 11 16 [4,5,6,7,8] [0] (db (b:=(s.op != 15)) 40 (fun Wd=>?_) (fun Wd=>?_))
   ·have XX:s.op≠15:=(Xa).1 Wd
    exact ZG 6 11 [9,10,11,12,13] [1,0] (dx 14 (Zh none 0 1 (ZZ Z5)) (Zk 4 5 [15] (dx 16 (Zh none x1 1 (ZZ Zu)) (Zk 2 3 [17] (Z8 18 (Yo 18 [] [] [] (Ci n.decls x2 (hd:=(by first|assumption|omega|rfl|(rw [AK om])|(rw [AL (Qa om Z5) om])|(rw [AJ (Qa om Z5) om Zu];clear Z5 Zu;grind)))) (Zk 0 1 [19] (de (wk [0,0] (ZP (WW n.decls x2) (And.intro X4 Wd) fl))))))))))
   have Wu:¬(s.op≠15):=YT Xa Wd
   exact Zk 0 11 [9,10,11,12,13,14,15,16,17,18,19] (de (wk [0,0] (ZP false (And.intro X4 Wd) fl)))
  have V3:¬(s.op≠14):=YT Xa X4
  exact Zk 0 16 [4,5,6,7,8,9,10,11,12,13,14,15,16,17,18,19] (de (wk [0,0] (ZP false X4 fl)))
 refine ac ((s.op != 14)&&((s.op != 15)&&WW n.decls x2)) (p:=(s.op≠14)/\((s.op≠15)/\(WW n.decls x2=true))) (Xr Xa (Xr Xa Iff.rfl)) (fun Zg=>?_) (fun Zg=>?_)
 ·exact ar (Zt (Y4 (.i (-1)) (li (by first|assumption|omega|rfl|(rw [AK om])|(rw [AL (Qa om Z5) om])|(rw [AJ (Qa om Z5) om Zu];clear Z5 Zu;grind)))))
 exact ak (ar (Zt (Y4 (.i 0) (li (by first|assumption|omega|rfl|(rw [AK om])|(rw [AL (Qa om Z5) om])|(rw [AJ (Qa om Z5) om Zu];clear Z5 Zu;grind))))))
theorem MK (n:Zx) (us:LI) (s:Z4) (hn:Xh n:=by exact ob) (hop:s.op=7∨s.op=8:=by exact ob) (hb:us.length+4*s.sz<=1000000000:=by exact ob) (ih:∀(b:Z3) (us:LI),(b.sz<s.sz)->(us.length+4*b.sz<=1000000000)->Zf 128 [Yl n,Z6 us,ZC b] [] (Yu (.i (XK n us b)))):Zf 214 [Yl n,Z6 us,Yp s] [] (Yu (.i (QB n us s.op s.num s.kids))):=by
 have XB:=hn.decls
 have hkz:=U6 s
 refine ZD 71 Tryz.func214 (ar (iA (YN n) fun b1=>iA (Xg s) fun b2=>Z1 (Zo 4 [1,0] (ic [] (K9 n.decls s.num) ?_))))
 rintro _ _ ⟨v1,rfl,rfl⟩
 refine Z1 (Yg 1 (io (.i (((Y2 n.decls s.num).length:Nat):Int)) (.i (((Z7 (Y2 n.decls s.num)).length:Nat):Int)) (li (by rw [Ye])) (Z1 (Xd (VG [1] (XA (fun fz gz F h=>F=sF [1,3,5] fz [(7,Z6 (Y2 n.decls s.num)),(8,.i (((XD n.decls s.op s.num).length:Nat):Int))]/\h=[Za gz 1,Za gz 2]) ?_ ?_))))))
 ·refine ac (s.op==7) ZB (fun Z9=>?_) (fun Z9=>?_)
  ·exact UN (ZH ⟨rfl,rfl⟩ (wk [1,1] (fc (x:=ZO (Y2 n.decls s.num) v1) (Zd.forget _ _) (fc (x:=.i 2) (li (by rw [XD,Zw Z9];rfl)) fl))))
  exact ak (ZH ⟨rfl,rfl⟩ (wk [1,1] (fc (x:=ZO (Y2 n.decls s.num) v1) (Zd.forget _ _) (fc (x:=.i (((Y2 n.decls s.num).length:Nat):Int)) (li (by rw [XD,Zr Z9,Cw])) fl))))
 rintro F h ⟨rfl,rfl⟩
 refine Xd (XN [1,3,5,7,8] [(31,.b (((((XD n.decls s.op s.num).length:Nat):Int)==0)||((s.kids.length:Int) != (((XD n.decls s.op s.num).length:Nat):Int))))] (fun gz=>gz) ?_ ?_)
 ·refine Z2 3 (ib (b:=((((XD n.decls s.op s.num).length:Nat):Int)==0)) 25 (fun Ze=>?_) (fun Ze=>?_))
  ·exact Z1 (wk [0,0] (ZP true Ze fl))
  exact ZV 2 [0] (iw (Vi s.kids) (Z1 (wk [0,0] (ZP ((s.kids.length:Int) != (((XD n.decls s.op s.num).length:Nat):Int)) Ze fl))))
 refine ac (((((XD n.decls s.op s.num).length:Nat):Int)==0)||((s.kids.length:Int) != (((XD n.decls s.op s.num).length:Nat):Int))) (p:=((((XD n.decls s.op s.num).length:Nat):Int)=0)∨((s.kids.length:Int)≠(((XD n.decls s.op s.num).length:Nat):Int))) (Xu ZB Xa) (fun Zg=>?_) (fun Zg=>?_)
 ·exact ar (Zt (Y4 (.i (-1)) (li (by rw [QB,Zw om]))))
 refine ak (Y9 (Y0 (ab 0 (Y1 (fun fz gz m F h=>∃(k:Nat) (t:Int),(k<=s.kids.length)/\(Tf n us (s.kids.drop k) ((XD n.decls s.op s.num).drop k) (decide (k=0)) t=Tf n us s.kids (XD n.decls s.op s.num) true 0)/\F=sF [1,3,5,7,8] fz [(9,.i t),(10,.i k)]/\h=gz/\m=s.kids.length-k) _ _ _ ⟨0,0,ob,(by rfl),rfl,rfl,rfl⟩ (wk [0,0] (fr (Yd fl))) ?_))))
 rintro m F h ⟨k,t,Yf,Zj,rfl,rfl,rfl⟩
 refine Xd (ZQ ((k:Int)<(((XD n.decls s.op s.num).length:Nat):Int)) (fun ZK=>?_) (fun ZK=>?_))
 ·refine ak (aq (ab 1 (Y9 (Xd (VG [0] (XA (fun fz gz F h=>∃(m:LI),((XD n.decls s.op s.num)[k]? = some m)/\F=sF [1,3,5,7,8,9,10] fz [(11,Z6 (us++m))]/\h=gz) ?_ ?_))))))
  ·refine ac (s.op==8) ZB (fun Yt=>?_) (fun Yt=>?_)
   ·refine aE 10 (ZG 5 10 [0,1,2,3,4] [1] ?_)
    obtain ⟨x1,Z5⟩:=Zq (Y2 n.decls s.num) k (by rw [XD,Zr om,Cw] at ZK;omega)
    refine dx 5 (Zh none (k:Int) 1 (ZZ Z5)) (Zk 3 4 [6] (Z8 7 (Yo 7 [] [] [] (TX n.decls x1) (Z8 8 (dc 8 [] [] [] (TG us (Y5 n.decls x1) (hl:=(by have:=VB XB x1;omega))) ?_)))))
    rintro _ _ ⟨v2,rfl,rfl⟩
    exact Zk 0 1 [9] (de (ZH ⟨(Y5 n.decls x1),(by rw [show s.op=8 from Yt];exact Oa Z5),rfl,rfl⟩ (wk [1,1] fl)))
   exact ak (ZH ⟨[],(by rw [XD,Zw om];have:k=0∨k=1:=(by rw [XD,Zw om] at ZK;simp at ZK;omega);rcases this with rfl|rfl<;>rfl),rfl,rfl⟩ (wk [0,0] (fc (x:=Z6 us) (Zd.sl _ (Yr Z7 (by simp))) fl)))
  rintro F h ⟨m,TA,rfl,rfl⟩
  refine aD 9 (ZG 4 9 [0,1,2,3,4] [1,0] ?_)
  obtain ⟨x2,Zu⟩:=Zq s.kids k om
  have hks:=VP Zu
  have hm3:=GZ XB TA
  refine dx 5 (Zh none (k:Int) 2 (Vu Zu)) (Zk 2 3 [6] (Z8 7 (Yo 7 [] [] [] (ih x2 (us++m) ob (by simp only [Yk];omega)) (Zk 0 1 [8] (de (Xd (XN [1,3,5,7,8,10,12] [(68,.b ((decide ((XK n (us++m) x2)<0))||((decide ((k:Int)>0))&&((XK n (us++m) x2) != t))))] (fun gz=>gz) ?_ ?_)))))))
  ·refine Z2 3 (ib (b:=(decide ((XK n (us++m) x2)<0))) 60 (fun ZU=>?_) (fun ZU=>?_))
   ·exact Z1 (wk [0,0] (ZP true ZU fl))
   refine Z2 3 (ib (b:=(decide ((k:Int)>0))) 63 (fun X4=>?_) (fun X4=>?_))
   ·exact Z1 (wk [0,0] (ZP ((XK n (us++m) x2) != t) (And.intro ZU X4) fl))
   exact Z1 (wk [0,0] (ZP false (And.intro ZU X4) fl))
  refine ac ((decide ((XK n (us++m) x2)<0))||((decide ((k:Int)>0))&&((XK n (us++m) x2) != t))) (p:=((XK n (us++m) x2)<0)∨(((k:Int)>0)/\((XK n (us++m) x2)≠t))) (Xu dq (Xr dq Xa)) (fun XG=>?_) (fun XG=>?_)
  ·exact ar (Zt (Y4 (.i (-1)) (li (by rw [QB,Zr om,<-Zj];exact (Z05 Zu TA XG).symm))))
  exact ak (UN (az (Z2 1 (ZF k (Z1 (ZI ⟨k+1,XK n (us++m) x2,ob,(by rw [<-Zj];exact (Z07 Zu TA XG).symm),rfl,rfl,rfl⟩ (wk [0,0] (fr (ZL k fl)))))))))
 exact ax 0 (ar (Zt (Y4 (.i t) (li (by rw [QB,Zr om,<-Zj];exact (Z06 om).symm)))))
theorem MN (n:Zx) (us:LI) (s:Z4) (hn:Xh n:=by exact ob) (hb:us.length+4*s.sz<=1000000000:=by exact ob) (ih:∀(b:Z3) (us:LI),(b.sz<s.sz)->(us.length+4*b.sz<=1000000000)->Zf 128 [Yl n,Z6 us,ZC b] [] (Yu (.i (XK n us b)))):Zf 164 [Yl n,Z6 us,Yp s] [] (Yu (.i (YF n us s))):=by
 have XB:=hn.decls
 have hkz:=U6 s
 have haz:=T7 s
 have hdl:=XB.len
 have hst:=Gs n us s
 refine ZD 183 Tryz.func164 (ar (iA (YN n) fun b1=>iA (Xg s) fun b2=>Z1 (Xd (Vc 9 [1,3,5] [(16,.b ((s.num != 0)&&(!US s.op)))] (fun gz=>gz) ?_ (fun hj1=>?_)))))
 ·refine Vc 15 [1,3,5] [(22,.b (((s.num != 0)&&(!US s.op))||(!UK us s.op s.into)))] (fun gz=>gz) ?_ (fun hj2=>?_)
  ·refine XN [1,3,5] [(38,.b ((((s.num != 0)&&(!US s.op))||(!UK us s.op s.into))||((decide ((s.kids.length:Int)>0))&&((s.op != 7)&&(s.op != 8)))))] (fun gz=>gz) ?_ ?_
   ·refine Z2 1 (ib (b:=(((s.num != 0)&&(!US s.op))||(!UK us s.op s.into))) 23 (fun Ze=>?_) (fun Ze=>?_))
    ·have ZX:((s.num≠0)/\(¬(US s.op=true)))∨(¬(UK us s.op s.into=true)):=((Xu (Xr Xa (Xi Iff.rfl)) (Xi Iff.rfl))).1 Ze
     exact Z1 (wk [0,0] (ZP true Ze fl))
    have Yc:¬(((s.num≠0)/\(¬(US s.op=true)))∨(¬(UK us s.op s.into=true))):=YT (Xu (Xr Xa (Xi Iff.rfl)) (Xi Iff.rfl)) Ze
    refine ZV 2 [0] (iw (Vi s.kids) (Z2 2 (ib (b:=(decide ((s.kids.length:Int)>0))) 28 (fun ZU=>?_) (fun ZU=>?_))))
    ·have YM:(s.kids.length:Int)>0:=(dq).1 ZU
     refine ZV 5 [0] (ib (b:=(s.op != 7)) 33 (fun X4=>?_) (fun X4=>?_))
     ·have YZ:s.op≠7:=(Xa).1 X4
      exact VG [0] (wk [0,0] (ZP (s.op != 8) (And.intro Ze (And.intro ZU X4)) fl))
     have X7:¬(s.op≠7):=YT Xa X4
     exact Z1 (wk [0,0] (ZP false (And.intro Ze (And.intro ZU X4)) fl))
    have XX:¬((s.kids.length:Int)>0):=YT dq ZU
    exact Z1 (wk [0,0] (ZP false (And.intro Ze ZU) fl))
   refine ac ((((s.num != 0)&&(!US s.op))||(!UK us s.op s.into))||((decide ((s.kids.length:Int)>0))&&((s.op != 7)&&(s.op != 8)))) (p:=(((s.num≠0)/\(¬(US s.op=true)))∨(¬(UK us s.op s.into=true)))∨(((s.kids.length:Int)>0)/\((s.op≠7)/\(s.op≠8)))) (Xu (Xu (Xr Xa (Xi Iff.rfl)) (Xi Iff.rfl)) (Xr dq (Xr Xa Xa))) (fun Z9=>?_) (fun Z9=>?_)
   ·exact ar (Zt (Y4 (.i (-1)) (li (by first|rfl|( grind)|(have q:=VL (ds:=n.decls) (us:=us) (args:=s.args) om; grind)|(have q:=VM (ds:=n.decls) (us:=us) (args:=s.args) om ‹s.args[0]? = some _› om; grind)|(have q:=VA (ds:=n.decls) (us:=us) (args:=s.args) om ‹s.args[0]? = some _› om ‹us[_]? = some _›; grind)))))
   refine ak (Xd (VG [0] (ab 0 (ar (YR (s.op==0) ZB (fun Zg=>?_) (fun Zg=>?_))))))
   ·refine Zo 2 [0] (iw (Ye s.args) (XN [] [(51,.b (((s.args.length:Int)==0)&&(decide ((-999)<=s.num/\s.num<=999))))] (fun gz=>gz) ?_ ?_))
    ·refine Z2 2 (ib (b:=((s.args.length:Int)==0)) 47 (fun Wd=>?_) (fun Wd=>?_))
     ·have Wu:(s.args.length:Int)=0:=(ZB).1 Wd
      exact ZV 2 [0] (Zv [] (U9 s.num (-999) 999) (Z1 (wk [0,0] (ZP (decide ((-999)<=s.num/\s.num<=999)) Wd fl))))
     have V3:¬((s.args.length:Int)=0):=YT ZB Wd
     exact Z1 (wk [0,0] (ZP false Wd fl))
    refine ac (((s.args.length:Int)==0)&&(decide ((-999)<=s.num/\s.num<=999))) (p:=((s.args.length:Int)=0)/\((-999)<=s.num/\s.num<=999)) (Xr ZB dq) (fun ZK=>?_) (fun ZK=>?_)
    ·exact ar (Zt (Y4 (.i 0) (li (by first|rfl|( grind)|(have q:=VL (ds:=n.decls) (us:=us) (args:=s.args) om; grind)|(have q:=VM (ds:=n.decls) (us:=us) (args:=s.args) om ‹s.args[0]? = some _› om; grind)|(have q:=VA (ds:=n.decls) (us:=us) (args:=s.args) om ‹s.args[0]? = some _› om ‹us[_]? = some _›; grind)))))
    exact ak (ar (Zt (Y4 (.i (-1)) (li (by first|rfl|( grind)|(have q:=VL (ds:=n.decls) (us:=us) (args:=s.args) om; grind)|(have q:=VM (ds:=n.decls) (us:=us) (args:=s.args) om ‹s.args[0]? = some _› om; grind)|(have q:=VA (ds:=n.decls) (us:=us) (args:=s.args) om ‹s.args[0]? = some _› om ‹us[_]? = some _›; grind))))))
   refine Y0 (XA (fun fz gz F h=>F=sF [1,3,5,40] fz [(52,.b ((s.op==1)||((s.op==2)||((s.op==3)||(s.op==4)))))]/\h=gz) ?_ ?_)
   ·refine ac (s.op==1) ZB (fun Yt=>?_) (fun Yt=>?_)
    ·exact ak (ZH ⟨rfl,rfl⟩ (wk [0,0] (fc (x:=.b (s.op==1)) (lb (by first|rfl|(rw [Zw Yt])|(rw [Zr Yt])|(simp [Yt];done)|(rw [Xl];simp [Yt];done)|omega)) fl)))
    refine ar (YR (s.op==2) ZB (fun XG=>?_) (fun XG=>?_))
    ·exact ak (ZH ⟨rfl,rfl⟩ (wk [0,0] (fc (x:=.b (s.op==2)) (lb (by first|rfl|(rw [Zw Yt])|(rw [Zr Yt])|(simp [Yt,XG];done)|(rw [Xl];simp [Yt,XG];done)|omega)) fl)))
    refine ar (YR (s.op==3) ZB (fun XH=>?_) (fun XH=>?_))
    ·exact ak (ZH ⟨rfl,rfl⟩ (wk [0,0] (fc (x:=.b (s.op==3)) (lb (by first|rfl|(rw [Zw Yt])|(rw [Zr Yt])|(simp [Yt,XG,XH];done)|(rw [Xl];simp [Yt,XG,XH];done)|omega)) fl)))
    exact UN (ZH ⟨rfl,rfl⟩ (wk [0,0] (fc (x:=.b (s.op==4)) (lb (by first|rfl|(rw [Zw Yt])|(rw [Zr Yt])|(simp [Yt,XG,XH];done)|(rw [Xl];simp [Yt,XG,XH];done)|omega)) fl)))
   rintro F h ⟨rfl,rfl⟩
   refine ac ((s.op==1)||((s.op==2)||((s.op==3)||(s.op==4)))) (p:=(s.op=1)∨((s.op=2)∨((s.op=3)∨(s.op=4)))) (Xu ZB (Xu ZB (Xu ZB ZB))) (fun TS=>?_) (fun TS=>?_)
   ·refine Zo 3 [0] (iL (Z7 [0,0]) 2 1 fun v1=>ZE 0 [(60,Z6 [0,0])] (Zv [] (JF us s.args [0,0] (hl_tys:=(by first|(simp;done)|(have:=VB XB s.num;omega)))) (ie (ac (Wk us s.args [0,0]) Iff.rfl (fun Tb=>?_) (fun Tb=>?_)))))
    ·exact ar (Zt (Y4 (.i 0) (li (by first|rfl|( grind)|(have q:=VL (ds:=n.decls) (us:=us) (args:=s.args) om; grind)|(have q:=VM (ds:=n.decls) (us:=us) (args:=s.args) om ‹s.args[0]? = some _› om; grind)|(have q:=VA (ds:=n.decls) (us:=us) (args:=s.args) om ‹s.args[0]? = some _› om ‹us[_]? = some _›; grind)))))
    exact ak (ar (Zt (Y4 (.i (-1)) (li (by first|rfl|( grind)|(have q:=VL (ds:=n.decls) (us:=us) (args:=s.args) om; grind)|(have q:=VM (ds:=n.decls) (us:=us) (args:=s.args) om ‹s.args[0]? = some _› om; grind)|(have q:=VA (ds:=n.decls) (us:=us) (args:=s.args) om ‹s.args[0]? = some _› om ‹us[_]? = some _›; grind))))))
   refine ar (YR (s.op==5) ZB (fun UC=>?_) (fun UC=>?_))
   ·refine Zo 3 [0] (iL (Z7 [0]) 1 1 fun v2=>ZE 0 [(67,Z6 [0])] (Zv [] (JF us s.args [0] (hl_tys:=(by first|(simp;done)|(have:=VB XB s.num;omega)))) (ie (ac (Wk us s.args [0]) Iff.rfl (fun BP=>?_) (fun BP=>?_)))))
    ·exact ar (Zt (Y4 (.i 0) (li (by first|rfl|( grind)|(have q:=VL (ds:=n.decls) (us:=us) (args:=s.args) om; grind)|(have q:=VM (ds:=n.decls) (us:=us) (args:=s.args) om ‹s.args[0]? = some _› om; grind)|(have q:=VA (ds:=n.decls) (us:=us) (args:=s.args) om ‹s.args[0]? = some _› om ‹us[_]? = some _›; grind)))))
    exact ak (ar (Zt (Y4 (.i (-1)) (li (by first|rfl|( grind)|(have q:=VL (ds:=n.decls) (us:=us) (args:=s.args) om; grind)|(have q:=VM (ds:=n.decls) (us:=us) (args:=s.args) om ‹s.args[0]? = some _› om; grind)|(have q:=VA (ds:=n.decls) (us:=us) (args:=s.args) om ‹s.args[0]? = some _› om ‹us[_]? = some _›; grind))))))
   refine ar (YR (s.op==6) ZB (fun BQ=>?_) (fun BQ=>?_))
   ·refine aD 17 (ZG 13 17 [0,1,2,3] [1,0] (Z8 4 (Yo 4 [] [] [] (Gj n.decls s.num) (AM [3,5] [(87,.b ((decide ((Vb n.decls s.num)>0))&&Wk us s.args (Y5 n.decls s.num)))] (fun gz=>gz) ?_ ?_))))
    ·refine Zk 10 12 [5,6] (db (b:=(decide ((Vb n.decls s.num)>0))) 77 (fun Uj=>?_) (fun Uj=>?_))
     ·have Vk:(Vb n.decls s.num)>0:=(dq).1 Uj
      exact ZG 3 10 [7,8,9,10,11,12,13] [0,1,0] (Z8 14 (Yo 14 [] [0] [b2] (TX n.decls s.num (hd:=XB)) (Z8 15 (Yo 15 [] [] [] (JF us s.args (Y5 n.decls s.num) (hl_tys:=(by first|(simp;done)|(have:=VB XB s.num;omega)))) (Zk 0 1 [16] (de (wk [0,0] (ZP (Wk us s.args (Y5 n.decls s.num)) Uj fl))))))))
     have UT:¬((Vb n.decls s.num)>0):=YT dq Uj
     exact Zk 0 10 [7,8,9,10,11,12,13,14,15,16] (de (wk [0,0] (ZP false Uj fl)))
    refine ac ((decide ((Vb n.decls s.num)>0))&&Wk us s.args (Y5 n.decls s.num)) (p:=((Vb n.decls s.num)>0)/\(Wk us s.args (Y5 n.decls s.num)=true)) (Xr dq Iff.rfl) (fun Qw=>?_) (fun Qw=>?_)
    ·exact Zo 4 [1,0] (Zv [] (Gj n.decls s.num) (Zt (Y4 (.i (Vb n.decls s.num)) (li (by first|rfl|( grind)|(have q:=VL (ds:=n.decls) (us:=us) (args:=s.args) om; grind)|(have q:=VM (ds:=n.decls) (us:=us) (args:=s.args) om ‹s.args[0]? = some _› om; grind)|(have q:=VA (ds:=n.decls) (us:=us) (args:=s.args) om ‹s.args[0]? = some _› om ‹us[_]? = some _›; grind))))))
    exact ak (ar (Zt (Y4 (.i (-1)) (li (by first|rfl|( grind)|(have q:=VL (ds:=n.decls) (us:=us) (args:=s.args) om; grind)|(have q:=VM (ds:=n.decls) (us:=us) (args:=s.args) om ‹s.args[0]? = some _› om; grind)|(have q:=VA (ds:=n.decls) (us:=us) (args:=s.args) om ‹s.args[0]? = some _› om ‹us[_]? = some _›; grind))))))
   refine ar (YR (s.op==7) ZB (fun Ab=>?_) (fun Ab=>?_))
   ·refine Zo 3 [0] (iL (Z7 [0]) 1 1 fun v3=>ZE 0 [(98,Z6 [0])] (Zv [] (JF us s.args [0] (hl_tys:=(by first|(simp;done)|(have:=VB XB s.num;omega)))) (ie (ac (Wk us s.args [0]) Iff.rfl (fun Fo=>?_) (fun Fo=>?_)))))
    ·exact Zo 3 [2,1] (Zv [] (MK n us s (ih:=ob)) (Zt (Y4 (.i (QB n us s.op s.num s.kids)) (li (by first|rfl|( grind)|(have q:=VL (ds:=n.decls) (us:=us) (args:=s.args) om; grind)|(have q:=VM (ds:=n.decls) (us:=us) (args:=s.args) om ‹s.args[0]? = some _› om; grind)|(have q:=VA (ds:=n.decls) (us:=us) (args:=s.args) om ‹s.args[0]? = some _› om ‹us[_]? = some _›; grind))))))
    exact ak (ar (Zt (Y4 (.i (-1)) (li (by first|rfl|( grind)|(have q:=VL (ds:=n.decls) (us:=us) (args:=s.args) om; grind)|(have q:=VM (ds:=n.decls) (us:=us) (args:=s.args) om ‹s.args[0]? = some _› om; grind)|(have q:=VA (ds:=n.decls) (us:=us) (args:=s.args) om ‹s.args[0]? = some _› om ‹us[_]? = some _›; grind))))))
   refine ar (YR (s.op==8) ZB (fun Fp=>?_) (fun Fp=>?_))
   ·refine Zo 5 [0,0] (iL (Z7 [s.num]) 1 1 fun v4=>ZE 0 [(111,Z6 [s.num])] (Zv [] (JF us s.args [s.num] (hl_tys:=(by first|(simp;done)|(have:=VB XB s.num;omega)))) (ie (ac (Wk us s.args [s.num]) Iff.rfl (fun Fq=>?_) (fun Fq=>?_)))))
    ·exact Zo 3 [2,1] (Zv [] (MK n us s (ih:=ob)) (Zt (Y4 (.i (QB n us s.op s.num s.kids)) (li (by first|rfl|( grind)|(have q:=VL (ds:=n.decls) (us:=us) (args:=s.args) om; grind)|(have q:=VM (ds:=n.decls) (us:=us) (args:=s.args) om ‹s.args[0]? = some _› om; grind)|(have q:=VA (ds:=n.decls) (us:=us) (args:=s.args) om ‹s.args[0]? = some _› om ‹us[_]? = some _›; grind))))))
    exact ak (ar (Zt (Y4 (.i (-1)) (li (by first|rfl|( grind)|(have q:=VL (ds:=n.decls) (us:=us) (args:=s.args) om; grind)|(have q:=VM (ds:=n.decls) (us:=us) (args:=s.args) om ‹s.args[0]? = some _› om; grind)|(have q:=VA (ds:=n.decls) (us:=us) (args:=s.args) om ‹s.args[0]? = some _› om ‹us[_]? = some _›; grind))))))
   refine Y0 (XA (fun fz gz F h=>F=sF [1,3,5,40] fz [(117,.b ((s.op==9)||(s.op==10)))]/\h=gz) ?_ ?_)
   ·refine ac (s.op==9) ZB (fun Qx=>?_) (fun Qx=>?_)
    ·exact ak (ZH ⟨rfl,rfl⟩ (wk [0,0] (fc (x:=.b (s.op==9)) (lb (by first|rfl|(rw [Zw Qx])|(rw [Zr Qx])|(simp [Qx];done)|(rw [Xl];simp [Qx];done)|omega)) fl)))
    exact UN (ZH ⟨rfl,rfl⟩ (wk [0,0] (fc (x:=.b (s.op==10)) (lb (by first|rfl|(rw [Zw Qx])|(rw [Zr Qx])|(simp [Qx];done)|(rw [Xl];simp [Qx];done)|omega)) fl)))
   rintro F h ⟨rfl,rfl⟩
   refine ac ((s.op==9)||(s.op==10)) (p:=(s.op=9)∨(s.op=10)) (Xu ZB ZB) (fun Sa=>?_) (fun Sa=>?_)
   ·exact Zo 3 [1,0] (Zv [] (Z43 n us s) (Zt (Y4 (.i (K8 n us s.op s.num s.args)) (li (by first|rfl|( grind)|(have q:=VL (ds:=n.decls) (us:=us) (args:=s.args) om; grind)|(have q:=VM (ds:=n.decls) (us:=us) (args:=s.args) om ‹s.args[0]? = some _› om; grind)|(have q:=VA (ds:=n.decls) (us:=us) (args:=s.args) om ‹s.args[0]? = some _› om ‹us[_]? = some _›; grind))))))
   refine ar (YR (s.op==11) ZB (fun Sb=>?_) (fun Sb=>?_))
   ·refine aD 26 (ZG 24 26 [0,1] [0] (dw 2 (Ye s.args) (Zk 21 23 [3,4] (db (b:=((s.args.length:Int)==2)) 130 (fun TR=>?_) (fun TR=>?_)))))
    ·have UU:(s.args.length:Int)=2:=(ZB).1 TR
     refine ZG 19 21 [5,6] [0] ?_
     obtain ⟨x1,Z5⟩:=Zq s.args 0 om
     refine dx 7 (Zh none 0 1 (ZZ Z5)) (Zk 16 18 [8,9] (dw 10 (Ye us) (da 11 (((us.length:Int)-1)) (((us.length:Int))-(1)) (Z8 12 (Yo 12 [] [] [] (U9 x1 0 ((us.length:Int)-1)) (Zk 11 13 [13,14] (db (b:=(decide (0<=x1/\x1<=((us.length:Int)-1)))) 140 (fun Aa=>?_) (fun Aa=>?_))))))))
     ·have UV:0<=x1/\x1<=((us.length:Int)-1):=(dq).1 Aa
      refine ZG 6 11 [15,16,17,18,19] [1,0] (dx 20 (Zh none 0 1 (ZZ Z5)) (Zk 4 5 [21] ?_))
      obtain ⟨x2,Zu⟩:=Zq us x1.toNat om
      refine dx 22 (Zh none x1 1 (ZZ Zu)) (Zk 2 3 [23] (Z8 24 (Yo 24 [] [] [] (Ci n.decls x2) (Zk 0 1 [25] (de (ac (WW n.decls x2) Iff.rfl (fun Sc=>?_) (fun Sc=>?_)))))))
      ·refine aD 14 (ZG 9 14 [0,1,2,3,4] [1,0] (dx 5 (Zh none 0 1 (ZZ Z5)) (Zk 7 8 [6] (dx 7 (Zh none x1 1 (ZZ Zu)) (Zk 5 6 [8] (da 9 ((x2-1)) ((x2)-(1)) (hb:=(by have:=Ft ‹WW n.decls _=true›;omega)) ?_))))))
       obtain ⟨x3,X0⟩:=Zq n.decls ((x2-1).toNat) (by have:=Ft ‹WW n.decls _=true›;omega)
       have had:=O4 (us:=us) (args:=s.args) om ‹s.args[0]? = some _› om ‹us[_]? = some _› ‹WW n.decls _=true› X0
       refine dx 10 (MT (es:=YW n.decls) (hv:=none) (j:=(x2-1)) (sz:=3) (y:=Bv x3) kr (by have:=Ft ‹WW n.decls _=true›;omega) (VZ X0) rfl) (Zk 2 3 [11] (Z8 12 (dA 12 [0,1] [b2,b1] [.i 0,.i 0,nl] fun b3=>Z8 13 (Yy 13 0 [] [] b3 (FD x3) (de (aD 8 (ZG 5 8 [0,1,2] [1] (dx 3 (Kc (es:=Z7 s.args) (hv:=none) (l:=1) (m:=(((Z7 s.args).length:Nat):Int)) (sz:=1) (es':=Z7 (s.args.drop 1)) kr om (by simp<;>omega) (by simp<;>omega) (Yw _) (by first|(simp only [VS,V7,A0,AQ];done)|(simp only [VS,V7,A0,AQ];rfl)|(simp [A0,AQ];done))) (ZG 2 4 [4,5] [0] (Z8 6 (dL 6 [1] [b2] (Z7 [x3.frm]) 1 1 fun v5=>Yh 1 1 [] [(170,Z6 [x3.frm])] (Z8 7 (Yo 7 [] [] [] (JF us (s.args.drop 1) [x3.frm] (hl_tys:=(by first|(simp;done)|(have:=VB XB s.num;omega)))) (de (ac (Wk us (s.args.drop 1) [x3.frm]) Iff.rfl (fun Ir=>?_) (fun Ir=>?_))))))))))))))))
       ·exact A7 [1] (ZJ (Y4 (.i x3.to_) (li (by first|rfl|(clear Z5 Zu X0;grind)|(have q:=VL (ds:=n.decls) (us:=us) (args:=s.args) om;clear Z5 Zu X0;grind)|(have q:=VM (ds:=n.decls) (us:=us) (args:=s.args) om ‹s.args[0]? = some _› om;clear Z5 Zu X0;grind)|(have q:=VA (ds:=n.decls) (us:=us) (args:=s.args) om ‹s.args[0]? = some _› om ‹us[_]? = some _›;clear Z5 Zu X0;grind)))))
       exact ak (ar (Zt (Y4 (.i (-1)) (li (by first|rfl|(clear Z5 Zu X0;grind)|(have q:=VL (ds:=n.decls) (us:=us) (args:=s.args) om;clear Z5 Zu X0;grind)|(have q:=VM (ds:=n.decls) (us:=us) (args:=s.args) om ‹s.args[0]? = some _› om;clear Z5 Zu X0;grind)|(have q:=VA (ds:=n.decls) (us:=us) (args:=s.args) om ‹s.args[0]? = some _› om ‹us[_]? = some _›;clear Z5 Zu X0;grind))))))
      exact ak (ar (Zt (Y4 (.i (-1)) (li (by first|rfl|(clear Z5 Zu;grind)|(have q:=VL (ds:=n.decls) (us:=us) (args:=s.args) om;clear Z5 Zu;grind)|(have q:=VM (ds:=n.decls) (us:=us) (args:=s.args) om ‹s.args[0]? = some _› om;clear Z5 Zu;grind)|(have q:=VA (ds:=n.decls) (us:=us) (args:=s.args) om ‹s.args[0]? = some _› om ‹us[_]? = some _›;clear Z5 Zu;grind))))))
     have Qy:¬(0<=x1/\x1<=((us.length:Int)-1)):=YT dq Aa
     exact Zk 0 11 [15,16,17,18,19,20,21,22,23,24,25] (de (Wx (ak (ar (Zt (Y4 (.i (-1)) (li (by first|rfl|(clear Z5;grind)|(have q:=VL (ds:=n.decls) (us:=us) (args:=s.args) om;clear Z5;grind)|(have q:=VM (ds:=n.decls) (us:=us) (args:=s.args) om ‹s.args[0]? = some _› om;clear Z5;grind)|(have q:=VA (ds:=n.decls) (us:=us) (args:=s.args) om ‹s.args[0]? = some _› om ‹us[_]? = some _›;clear Z5;grind)))))))))
    have Qg:¬((s.args.length:Int)=2):=YT ZB TR
    exact Zk 0 21 [5,6,7,8,9,10,11,12,13,14,15,16,17,18,19,20,21,22,23,24,25] (de (Wx (ak (ar (Zt (Y4 (.i (-1)) (li (by first|rfl|( grind)|(have q:=VL (ds:=n.decls) (us:=us) (args:=s.args) om; grind)|(have q:=VM (ds:=n.decls) (us:=us) (args:=s.args) om ‹s.args[0]? = some _› om; grind)|(have q:=VA (ds:=n.decls) (us:=us) (args:=s.args) om ‹s.args[0]? = some _› om ‹us[_]? = some _›; grind)))))))))
   refine Y0 (XA (fun fz gz F h=>F=sF [1,3,5] fz [(174,.b ((s.op==14)||((s.op==15)||((s.op==16)||(s.op==17)))))]/\h=gz) ?_ ?_)
   ·refine ac (s.op==14) ZB (fun Ur=>?_) (fun Ur=>?_)
    ·exact ak (ZH ⟨rfl,rfl⟩ (wk [0,0] (fc (x:=.b (s.op==14)) (lb (by first|rfl|(rw [Zw Ur])|(rw [Zr Ur])|(simp [Ur];done)|(rw [Xl];simp [Ur];done)|omega)) fl)))
    refine ar (YR (s.op==15) ZB (fun KP=>?_) (fun KP=>?_))
    ·exact ak (ZH ⟨rfl,rfl⟩ (wk [0,0] (fc (x:=.b (s.op==15)) (lb (by first|rfl|(rw [Zw Ur])|(rw [Zr Ur])|(simp [Ur,KP];done)|(rw [Xl];simp [Ur,KP];done)|omega)) fl)))
    refine ar (YR (s.op==16) ZB (fun BR=>?_) (fun BR=>?_))
    ·exact ak (ZH ⟨rfl,rfl⟩ (wk [0,0] (fc (x:=.b (s.op==16)) (lb (by first|rfl|(rw [Zw Ur])|(rw [Zr Ur])|(simp [Ur,KP,BR];done)|(rw [Xl];simp [Ur,KP,BR];done)|omega)) fl)))
    exact UN (ZH ⟨rfl,rfl⟩ (wk [0,0] (fc (x:=.b (s.op==17)) (lb (by first|rfl|(rw [Zw Ur])|(rw [Zr Ur])|(simp [Ur,KP,BR];done)|(rw [Xl];simp [Ur,KP,BR];done)|omega)) fl)))
   rintro F h ⟨rfl,rfl⟩
   refine ac ((s.op==14)||((s.op==15)||((s.op==16)||(s.op==17)))) (p:=(s.op=14)∨((s.op=15)∨((s.op=16)∨(s.op=17)))) (Xu ZB (Xu ZB (Xu ZB ZB))) (fun Sd=>?_) (fun Sd=>?_)
   ·exact Zo 3 [1,0] (Zv [] (Z3s n us s) (Zt (Y4 (.i (Qc n.decls us s.op s.args)) (li (by first|rfl|( grind)|(have q:=VL (ds:=n.decls) (us:=us) (args:=s.args) om; grind)|(have q:=VM (ds:=n.decls) (us:=us) (args:=s.args) om ‹s.args[0]? = some _› om; grind)|(have q:=VA (ds:=n.decls) (us:=us) (args:=s.args) om ‹s.args[0]? = some _› om ‹us[_]? = some _›; grind))))))
   exact ak (ar (Zt (Y4 (.i (-1)) (li (by first|rfl|( grind)|(have q:=VL (ds:=n.decls) (us:=us) (args:=s.args) om; grind)|(have q:=VM (ds:=n.decls) (us:=us) (args:=s.args) om ‹s.args[0]? = some _› om; grind)|(have q:=VA (ds:=n.decls) (us:=us) (args:=s.args) om ‹s.args[0]? = some _› om ‹us[_]? = some _›; grind))))))
  refine Z2 1 (ib (b:=((s.num != 0)&&(!US s.op))) 17 (fun KN=>?_) (fun KN=>?_))
  ·have Jq:(s.num≠0)/\(¬(US s.op=true)):=((Xr Xa (Xi Iff.rfl))).1 KN
   exact Z2 5 (Xy (wk [0,0] (ZP true KN fl)) hj2)
  have KQ:¬((s.num≠0)/\(¬(US s.op=true))):=YT (Xr Xa (Xi Iff.rfl)) KN
  exact ZV 2 [0] (Zv [] (Z4e us s) (Z2 2 (Xy (wk [0,0] (ZP (!UK us s.op s.into) KN fl)) hj2)))
 refine ZV 4 [0] (ib (b:=(s.num != 0)) 11 (fun KO=>?_) (fun KO=>?_))
 ·have Dd:s.num≠0:=(Xa).1 KO
  exact ZV 2 [0] (Zv [] (Z3u s.op) (Z2 2 (Xy (wk [0,0] (ZP (!US s.op) KO fl)) hj1)))
 have Ad:¬(s.num≠0):=YT Xa KO
 exact Z2 5 (Xy (wk [0,0] (ZP false KO fl)) hj1)
theorem Z3m (n:Zx) (us:LI) (b:Z3) (hn:Xh n:=by exact ob) (hb:us.length+4*b.sz<=1000000000:=by exact ob) (ih:∀(s:Z4) (us:LI),(s.sz<b.sz)->(us.length+4*s.sz<=1000000000)->Zf 164 [Yl n,Z6 us,Yp s] [] (Yu (.i (YF n us s)))):Zf 128 [Yl n,Z6 us,ZC b] [] (Yu (.i (XK n us b))):=by
 have hbz:=WR b
 have hbe:=Ev n us b
 refine ZD 52 Tryz.func128 (ar (iA (YN n) fun b1=>iA (YK b) fun b2=>Z1 (Yg 1 (ic [] (Vp us) ?_))))
 rintro _ _ ⟨v1,rfl,rfl⟩
 refine Z1 (Y0 (ab 0 (Y1 (fun fz gz m F h=>∃(k:Nat) (vs:LI) (v:Value),(k<=b.steps.length)/\(vs.length<=us.length+k)/\(Vy n (b.steps.drop k) vs=Vy n b.steps us)/\F=sF [3,5] fz [(7,ZO vs v),(8,.i k)]/\h=[Za gz 1,Za gz 2,.tail v 1]/\m=b.steps.length-k) _ _ _ ⟨0,us,v1,ob,ob,ob,rfl,rfl,rfl⟩ (wk [1,1,0] (fr (Yd fl))) ?_)))
 rintro m F h ⟨k,vs,v,Yf,Zj,Zp,rfl,rfl,rfl⟩
 refine Y7 3 [0] (iw (WA b.steps) (ZQ ((k:Int)<(b.steps.length:Int)) (fun Z9=>?_) (fun Z9=>?_)))
 ·refine ak (aq (ab 1 (aD 9 (ZG 4 9 [0,1,2,3,4] [1,0] ?_))))
  obtain ⟨x1,Z5⟩:=Zq b.steps k om
  have hss:=Bj Z5
  refine dx 5 (Zh none (k:Int) 5 (XR Z5)) (Yh 2 3 [6] [(20,Z6 vs)] (Z8 7 (Yo 7 [] [] [] (ih x1 vs ob ob) (Zk 0 1 [8] (de (Xd (ZQ ((YF n vs x1)<0) (fun Zg=>?_) (fun Zg=>?_))))))))
  ·refine Y9 ?_
   rw [Yn Z5] at Zp
   exact ZJ (Y4 (.i (-1)) (li (by clear Z5;first|rfl|omega|grind [Vy])))
  refine ak (Zo 3 [0] (Zm (Zh none (k:Int) 5 (XR Z5)) (Z2 2 (Zv [] (Qn x1.op) (ie (Kw (fun fz gz F h=>∃(w:Value),F=sF [3,5,8] fz [(7,ZO (if XE x1.op=true then vs++[YF n vs x1] else vs) w)]/\h=[Za gz 0,Za gz 1,.tail w 1]) (fun _ _=>rfl) ?_ ?_))))))
  ·refine ac (XE x1.op) Iff.rfl (fun ZK=>?_) (fun ZK=>?_)
   ·exact az (Z2 2 (iL (Z7 [YF n vs x1]) 1 1 fun v2=>ZE 0 [(38,Z6 [YF n vs x1])] (ip 3 (Z7 (vs++[YF n vs x1])) (Z7 vs) (Z7 [YF n vs x1]) v none 1 (Yw _) (Yw _) (XT _) (by simp<;>omega) (by simp [XQ,Z7]) fun v3=>Z1 (ZH ⟨v3,rfl,rfl⟩ (wk [2,2,0] (fc (x:=ZO (vs++[YF n vs x1]) v3) (Zd.slh _ (Yr Z7 (by first|rfl|(rw [Zw ZK])|(rw [Zr ZK])|(simp [ZK];done)|(rw [Xl];simp [ZK];done)|omega))) fl))))))
   exact ak (ZH ⟨v,rfl,rfl⟩ (ZT 3 (fc (x:=ZO vs v) (Zd.slh _ (Yr Z7 (by first|rfl|(rw [Zw ZK])|(rw [Zr ZK])|(simp [ZK];done)|(rw [Xl];simp [ZK];done)|omega))) fl)))
  rintro F h ⟨w,rfl,rfl⟩
  refine az (Z2 1 (ZF k (Z1 ?_)))
  have hdr:=Yn Z5
  exact ZI ⟨k+1,(if XE x1.op=true then vs++[YF n vs x1] else vs),w,ob,(by split<;>(try simp)<;>omega),(by rw [hdr] at Zp;clear hdr Z5;grind [Vy]),rfl,rfl,rfl⟩ (ZT 3 (fr (ZL k fl)))
 refine ax 0 (Y7 3 [0] (iw (Ye vs) (ia (((vs.length:Int)-1)) (((vs.length:Int))-(1)) (Zv [] (U9 b.result 0 ((vs.length:Int)-1)) (YR (!(decide (0<=b.result/\b.result<=((vs.length:Int)-1)))) (p:=¬(0<=b.result/\b.result<=((vs.length:Int)-1))) (Xi dq) (fun Yt=>?_) (fun Yt=>?_))))))
 ·refine Y9 ?_
  try rw [Xz (xs:=b.steps) (k:=k) om] at Zp
  exact ZJ (Y4 (.i (-1)) (li (by rw [hbe,<-Zp];show _=(Vs vs b.result).getD (-1);rw [Kr Yt];rfl)))
 refine ak (Zo 3 [0] ?_)
 obtain ⟨x2,Zu⟩:=Zq vs b.result.toNat om
 refine Zm (Zh (some v) b.result 1 (ZZ Zu)) (Z1 ?_)
 try rw [Xz (xs:=b.steps) (k:=k) om] at Zp
 exact ZJ (Y4 (.i x2) (li (by rw [hbe,<-Zp];show _=(Vs vs b.result).getD (-1);rw [Jf om Zu];rfl)))
theorem Z4b (b:Z3) (l:Int) (hb:b.sz<=1000000000) (hl:0<=l/\l<=600) (ih:∀(b2:Z3) (l:Int),(b2.sz<b.sz)->(0<=l/\l<=600)->Zf 103 [ZC b2,.i l] [] (Yu (.i (W8 b2 l)))):Zf 103 [ZC b,.i l] [] (Yu (.i (W8 b l))):=by
 have hbz:=WR b
 have hbe:=L5 b l
 refine ZD 43 Tryz.func103 (ar (iA (YK b) fun b1=>?_))
 refine Z1 (Y0 (ab 0 (Y1 (fun fz gz m F h=>∃(k:Nat) (q:Int),(k<=b.steps.length)/\(0<=q/\q<=600)/\(UD (b.steps.drop k) q=UD b.steps l)/\F=sF [2] fz [(1,.i q),(5,.i k)]/\h=gz/\m=b.steps.length-k) _ _ _ ⟨0,l,ob,ob,ob,rfl,rfl,rfl⟩ (wk [0] (fr (Yd fl))) ?_)))
 rintro m F h ⟨k,q,Yf,Zj,Zp,rfl,rfl,rfl⟩
 refine Y7 3 [0] (iw (WA b.steps) (ZQ ((k:Int)<(b.steps.length:Int)) (fun Z9=>?_) (fun Z9=>?_)))
 ·refine ak (aq (ab 1 (Xd (ZQ (q<1) (fun Zg=>?_) (fun Zg=>?_)))))
  ·refine Y9 ?_
   try rw [Xz (xs:=b.steps) (k:=k) om] at Zp
   obtain ⟨x1,Z5⟩:=Zq b.steps k om
   rw [Yn Z5] at Zp
   clear Z5
   exact ZJ (Y4 (.i (-1)) (li (by first|rfl|omega|grind [UD])))
  obtain ⟨s1,hxs1⟩:=Zq b.steps k om
  have hss:=TH hxs1
  have hkz:=U6 s1
  refine ak (Yg 1 (ia ((q-1)) ((q)-(1)) (Z1 (Y9 (ab 2 (Y1 (fun fz gz m F h=>∃(j:Nat) (j2:Int),(j<=s1.kids.length)/\(0<=j2/\j2<=600)/\(UY (s1.kids.drop j) j2=UY s1.kids (q-1))/\F=sF [2,5] fz [(1,.i j2),(6,.i j)]/\h=gz/\m=s1.kids.length-j) _ _ _ ⟨0,(q-1),ob,ob,ob,rfl,rfl,rfl⟩ (wk [0] (fr (Yd fl))) ?_))))))
  rintro m F h ⟨j,j2,VX,Wh,Xm,rfl,rfl,rfl⟩
  refine Y7 4 [0] (Zm (Zh none (k:Int) 5 (XR hxs1)) (Z2 2 (iw (Vi s1.kids) (ZQ ((j:Int)<(s1.kids.length:Int)) (fun ZK=>?_) (fun ZK=>?_)))))
  ·refine ak (aq (ab 3 (Zo 3 [0] (Zm (Zh none (k:Int) 5 (XR hxs1)) (Z2 3 ?_)))))
   obtain ⟨x1,Z5⟩:=Zq s1.kids j om
   have hks:=VP Z5
   have hle:=FI.2 x1 j2 om
   refine Zm (Zh none (j:Int) 2 (Vu Z5)) (Z2 2 (Zv [] (ih x1 j2 ob ob) (Z1 (ar (ZQ ((W8 x1 j2)<0) (fun Yt=>?_) (fun Yt=>?_))))))
   ·refine Y9 ?_
    rw [Yn hxs1] at Zp
    rw [Yn Z5] at Xm
    have hls:=Ds s1 (q-1)
    exact ZJ (Y4 (.i (-1)) (li (by clear Z5 hxs1;first|rfl|omega|grind [UD,UY])))
   refine ak (az (Z2 1 (ZF j (Z1 ?_))))
   have hdr:=Yn Z5
   exact ZI ⟨j+1,(W8 x1 j2),ob,ob,(by rw [hdr] at Xm;clear hdr Z5 hxs1;grind [UY]),rfl,rfl,rfl⟩ (wk [0] (fr (ZL j fl)))
  refine ax 2 (az (Z2 1 (ZF k (Z1 ?_))))
  rw [Xz om] at Xm
  have hls:=Ds s1 (q-1)
  rw [UY] at Xm
  have hdr:=Yn hxs1
  exact ZI ⟨k+1,j2,ob,ob,(by rw [hdr] at Zp;clear hdr hxs1;grind [UD]),rfl,rfl,rfl⟩ (wk [0] (fr (ZL k fl)))
 refine ax 0 (Y9 ?_)
 try rw [Xz (xs:=b.steps) (k:=k) om] at Zp
 exact ZJ (Y4 (.i q) (li (by first|rfl|omega|grind [UD])))
theorem Z4a (b:Z3) (l:Int) (hb:b.sz<=1000000000) (hl:0<=l/\l<=600):Zf 103 [.agg [.sl (Zi b.steps) none,.i b.result],.i l] [] (Yu (.i (W8 b l))):=by
 have key:∀m:Nat,∀(b:Z3) (l:Int),b.sz<=m->b.sz<=1000000000->(0<=l/\l<=600)->Zf 103 [.agg [.sl (Zi b.steps) none,.i b.result],.i l] [] (Yu (.i (W8 b l))):=by
  intro m
  induction m with
  | zero=>intro b l h;have:=b.sz_pos;omega
  | succ m ih=>intro b l h1 h2 h3;exact Z4b b l h2 h3 fun b2 l2 k1 k2=>ih b2 l2 om om k2
 exact key b.sz b l (YQ _) hb hl
theorem Z3l (n:Zx) (hn:Xh n) (m:Nat):∀(b:Z3) (us:LI),(b.sz<=m)->(us.length+4*b.sz<=1000000000)->Zf 128 [Yl n,Z6 us,ZC b] [] (Yu (.i (XK n us b))):=by
 induction m with
 | zero=>intro b us h;have:=b.sz_pos;omega
 | succ m ih=>intro b us h1 h2;exact Z3m n us b hn h2 fun s us2 k1 k2=>MN n us2 s hn k2 fun b2 us3 q1 q2=>ih b2 us3 om q2
theorem MF (n:Zx) (us:LI) (b:Z3) (hn:Xh n) (hb:us.length+4*b.sz<=1000000000):Zf 128 [Yl n,Z6 us,ZC b] [] (Yu (.i (XK n us b))):=
 Z3l n hn b.sz b us (YQ _) hb
theorem Gn (n:Zx) (us:LI) (s:Z4) (hn:Xh n) (hb:us.length+4*s.sz<=1000000000):Zf 164 [Yl n,Z6 us,Yp s] [] (Yu (.i (YF n us s))):=
 MN n us s hn hb fun b2 us3 _ q2=>MF n us3 b2 hn q2
theorem MO (b:Z3) (hb:b.sz<=1000000000:=by exact ob):Zf 66 [ZC b] [] (Yu (.i (Ub b))):=by
 have hle:=FI.2 b 600 om
 refine ZD 10 Tryz.func66 (ar (iA (YK b) fun b1=>Z1 (Zo 1 [0] (Zv [] (Z4a b 600 ob ob) (Z1 (Xd (ZQ ((W8 b 600)<0) (fun Z9=>?_) (fun Z9=>?_))))))))
 ·exact ar (Zt (Y4 (.i (-1)) (li (by first|rfl|omega|grind [Ub]))))
 exact ak (Yg 1 (ia ((600-(W8 b 600))) ((600)-(W8 b 600)) (Zt (Y4 (.i (600-(W8 b 600))) (li (by first|rfl|omega|grind [Ub]))))))
theorem KJ (z:Int) :Zf 226 [.i z] [] (Yu (ZM (Z0.mk 0 z []))):=by
 exact ZD 6 Tryz.func226 (ar (iA [.i 0,.i 0,nl] fun b1=>ie (Yg 1 (iL (Ya []) 0 3 fun v1=>Z2 1 (ZA 1 b1 [.i 0,.i z,Th [] v1] (ie (ZJ (r3 [] [.agg [.i 0,.i z,Th [] v1]] [0] [(b1,b1)] ⟨rfl,rfl⟩ (Zd.agg (.cons li (.cons li (.cons (Zd.sl _ (Yr Ya rfl)) .nil))))))))))))
theorem UR (z:Int) :Zf 273 [.i z] [] (Yu (ZM (Z0.mk 12 z []))):=by
 exact ZD 6 Tryz.func273 (ar (iA [.i 0,.i 0,nl] fun b1=>ie (Yg 1 (iL (Ya []) 0 3 fun v1=>Z2 1 (ZA 1 b1 [.i 12,.i z,Th [] v1] (ie (ZJ (r3 [] [.agg [.i 12,.i z,Th [] v1]] [0] [(b1,b1)] ⟨rfl,rfl⟩ (Zd.agg (.cons li (.cons li (.cons (Zd.sl _ (Yr Ya rfl)) .nil))))))))))))
theorem Xs (op:Int) (nm:Int) (ks:List Z0) :Zf 271 [.i op,.i nm,X9 ks] [] (Yu (ZM (Z0.mk op nm ks))):=by
 exact ZD 11 Tryz.func271 (ar (iA [.i 0,.i 0,nl] fun b1=>ie (Yg 4 (ZA 0 b1 [.i op,.i nm,X9 ks] (ie (ZJ (r3 [] [.agg [.i op,.i nm,X9 ks]] [0] [(b1,b1)] ⟨rfl,rfl⟩ (Zd.agg (.cons li (.cons li (.cons (Zd.sl _ (Yr Ya rfl)) .nil)))))))))))
theorem Ik (rd:Nat) (bs:LI) (p:Nat) (Zs:∀z∈bs,0<=z/\z<=255) (hp:p+4<=1000000000:=by exact ob):Zf 294 [.p rd 0] [Yb rd bs p] (fun r h=>∃(z:Int),r=.i z/\h=[.obj rd [Vd bs,.i (p+4:Nat)]]/\-2000<=z/\z<=2000):=by
 refine ZD 12 Tryz.func294 (Y9 (Yg 2 (ic [0] (XL rd bs p 6 (Zs:=ob)) ?_)))
 rintro _ _ ⟨k1,rfl,rfl,ZX⟩
 have qhp1:=ZX.lt om
 refine Z2 1 (ic [0] (XL rd bs (p+1) 6 (Zs:=ob)) ?_)
 rintro _ _ ⟨k2,rfl,rfl,Yc⟩
 have qhp2:=Yc.lt om
 refine Z2 1 (ic [0] (XL rd bs ((p+1)+1) 40 (Zs:=ob)) ?_)
 rintro _ _ ⟨k3,rfl,rfl,YM⟩
 have qhp3:=YM.lt om
 refine iL (Z7 [k1,k2,0,1,2,-1,3,k3,999,-998]) 10 1 fun v1=>ZE 0 [(10,Z6 [k1,k2,0,1,2,-1,3,k3,999,-998])] (ic [1] (WV rd bs (((p+1)+1)+1) [k1,k2,0,1,2,-1,3,k3,999,-998] (Zs:=ob)) ?_)
 rintro _ _ ⟨z1,rfl,rfl,YZ⟩
 exact Zt (r1 [0] ⟨z1,rfl,rfl,(by simp at YZ;omega)⟩)
theorem I7 (g:XI) (gb:Nat) (rs:List Func) (t:Int) (hg:GP g:=by exact ob) (XV:g.funcs <+: rs:=by exact ob):Zf 306 [.agg (XW g gb),.i t] [Xq gb rs] (fun r h=>∃(xs:LI),r=Z6 xs/\h=[Xq gb rs]/\xs.length<=4/\∀i∈xs,Kl g t i):=by
 have hgl:=hg.len
 have hdl:=hg.decls.len
 refine ZD 53 Tryz.func306 (ar (iA (XW g gb) fun b1=>Z1 (ar (iL (Z7 []) 0 1 fun v1=>?_))))
 refine Z1 (Y0 (ab 0 (Y1 (fun fz gz m F h=>∃(k:Nat) (ys:LI) (u:Value),(k<=g.funcs.length)/\(ys.length<=k)/\(∀i∈ys,Kl g t i)/\F=sF [1,2] fz [(5,ZO ys u),(6,.i k)]/\h=[Za gz 1,Za gz 2,.tail u 1]/\m=g.funcs.length-k) _ _ _ ⟨0,[],v1,ob,ob,(fun i hi=>by cases hi),rfl,rfl,rfl⟩ (wk [1,1,0] (fr (Yd fl))) ?_)))
 rintro m F h ⟨k,ys,u,Yf,Zj,Zp,rfl,rfl,rfl⟩
 refine Y7 3 [0] (io (.i g.funcs.length) (.i g.funcs.length) (lr _) (ZQ ((k:Int)<(g.funcs.length:Int)) (fun Z9=>?_) (fun Z9=>?_)))
 ·refine ak (aq (ab 1 (Zo 3 [0] ?_)))
  obtain ⟨x1,Z5⟩:=Zq g.funcs k om
  have hso:=(hg.sigs _ (ZW Z5)).bd
  refine Zm (XS gb g.funcs.length 4 k 5 (k:Int)) (Z2 1 (Vl (WC 1 gb 4 4 5 (k*5+0) (Zb (X3 rs)) [Z6 x1.params] 31 (Z6 x1.params) (VC XV Z5 0 rfl (Wv rfl))) (iw (Ye x1.params) (Z1 (aD 25 (Zk 22 25 [0,1,2] (db (b:=(decide ((x1.params.length:Int)>0))) 25 (fun Ze=>?_) (fun Ze=>?_))))))))
  ·have ZX:(x1.params.length:Int)>0:=(dq).1 Ze
   refine ZG 17 22 [3,4,5,6,7] [0,0] (dx 8 (XS gb g.funcs.length 4 k 5 (k:Int)) (Zk 15 16 [9] (Vt 10 (WC 1 gb 4 4 5 (k*5+0) (Zb (X3 rs)) [Z6 x1.params] 31 (Z6 x1.params) (VC XV Z5 0 rfl (Wv rfl))) (Zk 13 14 [11] (da 12 ((((x1.params.length-1):Nat):Int)) (((x1.params.length:Int))-(1)) ?_)))))
   obtain ⟨x2,Zu⟩:=Zq x1.params (x1.params.length-1) om
   refine dx 13 (Zh none (((x1.params.length-1):Nat):Int) 1 (ZZ Zu)) (ZG 7 11 [14,15,16,17] [0] (dx 18 (XS gb g.funcs.length 4 k 5 (k:Int)) (Zk 5 6 [19] (Vt 20 (WC 1 gb 4 4 5 (k*5+1) (Zb (X3 rs)) [.i x1.result] 3 (.i x1.result) (VC XV Z5 1 rfl (Wv rfl))) (Zk 3 4 [22] (Z8 21 (Yo 21 [] [] [] (ME g.decls x2 x1.result) (Zk 0 2 [23,24] (de (ac ((QN g.decls x2 x1.result)==t) ZB (fun Zg=>?_) (fun Zg=>?_)))))))))))
   ·exact az (Z2 2 (iL (Z7 [(k:Int)]) 1 1 fun v2=>ZE 0 [(50,Z6 [(k:Int)])] (ip 3 (Z7 (ys++[(k:Int)])) (Z7 ys) (Z7 [(k:Int)]) u none 1 (Yw _) (Yw _) (XT _) (by simp<;>omega) (by simp [XQ,Z7]) fun v3=>Z1 (az (Z2 1 (ZF k (Z1 (ZI ⟨k+1,(ys++[(k:Int)]),v3,ob,ob,(Xb Zp (Kl.mk Z5 om Zu Zg)),rfl,rfl,rfl⟩ (wk [2,2,0] (fr (ZL k fl)))))))))))
   exact ak (az (Z2 1 (ZF k (Z1 (ZI ⟨k+1,ys,u,ob,ob,ob,rfl,rfl,rfl⟩ (ZT 3 (fr (ZL k fl))))))))
  have Yc:¬((x1.params.length:Int)>0):=YT dq Ze
  exact Zk 0 22 [3,4,5,6,7,8,9,10,11,12,13,14,15,16,17,18,19,20,21,22,23,24] (de (Wx (ak (az (Z2 1 (ZF k (Z1 (ZI ⟨k+1,ys,u,ob,ob,ob,rfl,rfl,rfl⟩ (ZT 3 (fr (ZL k fl)))))))))))
 exact ax 0 (ar (Zt (r2 [1] [ZO ys u] ⟨ys,rfl,rfl,⟨by omega,Zp⟩⟩ (Zd.forget _ _))))
theorem S7 (vs:LI) (t:Int) (hv:vs.length<=2000:=by exact ob):Zf 295 [Z6 vs,.i t] [] (fun r h=>∃(xs:LI),r=Z6 xs/\h=[]/\xs.length<=vs.length/\∀i∈xs,0<=i/\i<vs.length):=by
 refine ZD 25 Tryz.func295 (Y9 (ar (iL (Z7 []) 0 1 fun v1=>?_)))
 refine Z1 (Y0 (ab 0 (Y1 (fun fz gz m F h=>∃(k:Nat) (ys:LI) (u:Value),(k<=vs.length)/\(ys.length<=k)/\(∀i∈ys,0<=i/\i<vs.length)/\F=sF [0,1] fz [(5,ZO ys u),(6,.i k)]/\h=[.tail u 1]/\m=vs.length-k) _ _ _ ⟨0,[],v1,ob,ob,(fun i hi=>by cases hi),rfl,rfl,rfl⟩ (wk [0] (fr (Yd fl))) ?_)))
 rintro m F h ⟨k,ys,u,Yf,Zj,Zp,rfl,rfl,rfl⟩
 refine X1 2 (iw (Ye vs) (ZQ ((k:Int)<(vs.length:Int)) (fun Z9=>?_) (fun Z9=>?_)))
 ·refine ak (aq (ab 1 (Yg 2 ?_)))
  obtain ⟨x1,Z5⟩:=Zq vs k om
  refine Zm (Zh none (k:Int) 1 (ZZ Z5)) (YR (x1==t) ZB (fun Zg=>?_) (fun Zg=>?_))
  ·exact az (Z2 2 (iL (Z7 [(k:Int)]) 1 1 fun v2=>ZE 0 [(22,Z6 [(k:Int)])] (ip 1 (Z7 (ys++[(k:Int)])) (Z7 ys) (Z7 [(k:Int)]) u none 1 (Yw _) (Yw _) (XT _) (by simp<;>omega) (by simp [XQ,Z7]) fun v3=>Z1 (az (Z2 1 (ZF k (Z1 (ZI ⟨k+1,(ys++[(k:Int)]),v3,ob,ob,(Xb Zp om),rfl,rfl,rfl⟩ (wk [0] (fr (ZL k fl)))))))))))
  exact ak (az (Z2 1 (ZF k (Z1 (ZI ⟨k+1,ys,u,ob,ob,ob,rfl,rfl,rfl⟩ (wk [0] (fr (ZL k fl))))))))
 exact ax 0 (ar (Zt (r2 [] [ZO ys u] ⟨ys,rfl,rfl,⟨by omega,Zp⟩⟩ (Zd.forget _ _))))
theorem D9 (g:XI) (gb:Nat) (rs:List Func) (vs:LI) (t:Int) (hg:GP g:=by exact ob) (XV:g.funcs <+: rs:=by exact ob) (hv:vs.length<=2000:=by exact ob):Zf 296 [.agg (XW g gb),Z6 vs,.i t] [Xq gb rs] (fun r h=>∃(w:Bool),r=.b w/\h=[Xq gb rs]):=by
 have XB:=hg.decls.ok
 refine ZD 24 Tryz.func296 (ar (iA (XW g gb) fun b1=>Z1 (Zo 3 [0] (Zv [] (Ci g.decls t) (Z2 2 (ib (b:=(!WW g.decls t)) 12 (fun Ze=>?_) (fun Ze=>?_)))))))
 ·exact Zt (r1 [1] ⟨true,rfl,rfl⟩)
 refine ZV 2 [0] (ic [1] (I7 g gb rs t) ?_)
 rintro _ _ ⟨xs1,rfl,rfl,YM⟩
 have qhp3:=YM.1
 refine iw (Ye xs1) (Z2 3 (ib (b:=(decide ((xs1.length:Int)>0))) 19 (fun ZU=>?_) (fun ZU=>?_)))
 ·exact Zt (r1 [0] ⟨true,rfl,rfl⟩)
 exact Z2 2 (Zv [] (VI vs t) (Zt (r1 [0] ⟨(decide (t∈vs)),rfl,rfl⟩)))
theorem RZ (rd:Nat) (bs:LI) (p:Nat) (g:XI) (gb:Nat) (rs:List Func) (t:Int) (Zs:∀z∈bs,0<=z/\z<=255) (hp:p+5+15*rk t<=1000000000) (hg:GP g) (XV:g.funcs <+: rs) (ih:∀(rd:Nat) (bs:LI) (p:Nat) (t2:Int),(∀z∈bs,0<=z/\z<=255)->(p+5+15*rk t2<=1000000000)->(rk t2<rk t)->Zf 297 [.p rd 0,.agg (XW g gb),.i t2] [Yb rd bs p,Xq gb rs] (fun r h=>∃(e:Z0) (p2:Nat),r=ZM e/\h=[Yb rd bs p2,Xq gb rs]/\SE g (1+3*rk t2) e/\p<=p2/\p2<=p+5+15*rk t2)):Zf 297 [.p rd 0,.agg (XW g gb),.i t] [Yb rd bs p,Xq gb rs] (fun r h=>∃(e:Z0) (p2:Nat),r=ZM e/\h=[Yb rd bs p2,Xq gb rs]/\SE g (1+3*rk t) e/\p<=p2/\p2<=p+5+15*rk t):=by
 have XB:=hg.decls.ok
 have hgl:=hg.len
 have hrk:=G3 t
 refine ZD 118 Tryz.func297 (ar (iA (XW g gb) fun b1=>iA [.i 0,.i 0,nl] fun b2=>ie (Zo 3 [1] (ic [] (K9 g.decls t) ?_))))
 rintro _ _ ⟨v1,rfl,rfl⟩
 refine Z1 (X1 1 (io (.i (((Y2 g.decls t).length:Nat):Int)) (.i (((Z7 (Y2 g.decls t)).length:Nat):Int)) (li (by rw [Ye])) (ZQ ((((Y2 g.decls t).length:Nat):Int)>0) (fun Z9=>?_) (fun Z9=>?_))))
 ·refine Yg 1 ?_
  obtain ⟨x1,Z5⟩:=Zq (Y2 g.decls t) 0 om
  refine Zm (Zh (some v1) 0 1 (ZZ Z5)) (Z1 (aq (aq (XA (fun fz gz F h=>∃(w1:Bool) (p5:Nat),(w1=true->1<(Y2 g.decls t).length)/\(p<=p5/\p5<=p+1)/\F=sF [0,2,4,6,8] fz [(7,Z6 (Y2 g.decls t)),(34,.b w1)]/\h=[Za gz 1,Za gz 2,Yb rd bs p5,Za gz 4]) ?_ ?_))))
  ·refine az (Z2 1 (io (.i (((Y2 g.decls t).length:Nat):Int)) (.i (((Z7 (Y2 g.decls t)).length:Nat):Int)) (li (by rw [Ye])) (Z2 2 (ib (b:=(decide ((((Y2 g.decls t).length:Nat):Int)>1))) 30 (fun Ze=>?_) (fun Ze=>?_)))))
   ·have ZX:(((Y2 g.decls t).length:Nat):Int)>1:=(dq).1 Ze
    refine Z2 1 (ic [3] (XL rd bs p 4 (Zs:=ob)) ?_)
    rintro _ _ ⟨k1,rfl,rfl,Yc⟩
    have qhp2:=Yc.lt om
    exact Z1 (ZH ⟨(k1==0),p+1,(by first|exact (fun h=>by cases h)|exact fun _=>by omega),ob,rfl,rfl⟩ (wk [2,2,0,1] fl))
   have YM:¬((((Y2 g.decls t).length:Nat):Int)>1):=YT dq Ze
   exact Z1 (ZH ⟨false,p,(by first|exact (fun h=>by cases h)|exact fun _=>by omega),ob,rfl,rfl⟩ (wk [1,1,1,1] fl))
  rintro F h ⟨w1,p5,kR4_0,kR4_1,rfl,rfl⟩
  refine XA (fun fz gz F h=>∃(c1:Int),(c1∈Y2 g.decls t)/\F=sF [0,2,4,6,7] fz [(8,.i c1)]/\h=gz) ?_ ?_
  ·refine ac w1 Iff.rfl (fun Zg=>?_) (fun Zg=>?_)
   ·refine az (Z2 1 ?_)
    obtain ⟨x2,Zu⟩:=Zq (Y2 g.decls t) 1 (kR4_0 (by assumption))
    exact Zm (Zh none 1 1 (ZZ Zu)) (Z1 (ZH ⟨x2,(ZW Zu),rfl,rfl⟩ (ZT 4 fl)))
   exact ak (ZH ⟨x1,(ZW Z5),rfl,rfl⟩ (ZT 4 fl))
  rintro F h ⟨c1,V4,rfl,rfl⟩
  have hcf:=VB XB c1
  refine Y7 3 [1] (Zv [] (TX g.decls c1) (Z2 1 (Zv [] (VI (Y5 g.decls c1) t) (ie (XA (fun fz gz F h=>∃(c2:Int),(Jc g.decls t c2)/\F=sF [0,4,6] fz [(8,.i c2)]/\h=gz) ?_ ?_)))))
  ·refine VJ (t∈(Y5 g.decls c1)) (fun ZK=>?_) (fun ZK=>?_)
   ·exact az (Z2 1 (Zm (Zh none 0 1 (ZZ Z5)) (Z1 (ZH ⟨x1,(Z34 hg.decls V4 (by assumption) Z5),rfl,rfl⟩ (ZT 4 fl)))))
   exact ak (ZH ⟨c1,(Z33 hg.decls V4 (by assumption)),rfl,rfl⟩ (ZT 4 fl))
  rintro F h ⟨c2,BU,rfl,rfl⟩
  obtain ⟨Ir,Ur,KP⟩:=BU
  refine ar (iL (Ya []) 0 3 fun v2=>?_)
  refine Z1 (Zo 3 [2] (Zv [] (TX g.decls c2) (Z1 (Y0 (ab 0 (Y1 (fun fz gz m F h=>∃(k:Nat) (ys:List Z0) (u:Value) (pq:Nat),(k<=(Y5 g.decls c2).length)/\(ys.length=k)/\(∀e∈ys,SE g 1 e)/\(p<=pq/\pq<=p+1+5*k)/\F=sF [0,4,6,8,10] fz [(9,Th ys u),(11,.i k)]/\h=[Za gz 1,Za gz 2,Yb rd bs pq,Za gz 4,.tail u 3]/\m=(Y5 g.decls c2).length-k) _ _ _ ⟨0,[],v2,p5,ob,ob,(fun e he=>by cases he),ob,rfl,rfl,rfl⟩ (wk [1,1,1,1,0] (fr (Yd fl))) ?_))))))
  rintro m F h ⟨k,ys,u,pq,Yf,Zj,Zp,YA,rfl,rfl,rfl⟩
  refine X1 2 (io (.i (((Y5 g.decls c2).length:Nat):Int)) (.i (((Z7 (Y5 g.decls c2)).length:Nat):Int)) (li (by rw [Ye])) (ZQ ((k:Int)<(((Y5 g.decls c2).length:Nat):Int)) (fun Yt=>?_) (fun Yt=>?_)))
  ·refine ak (aq (ab 1 (aE 11 (ZG 6 11 [0,1,2,3,4] [1] ?_))))
   obtain ⟨x3,X0⟩:=Zq (Y5 g.decls c2) k om
   have hz3:=M2 (KP _ (ZW X0))
   refine dx 5 (Zh none (k:Int) 1 (ZZ X0)) (Zk 4 5 [6] (Z8 7 (dc 7 [2,2] [] [] (ih rd bs pq x3 ob ob om) ?_)))
   rintro _ _ ⟨e1,p21,rfl,rfl,YZ⟩
   have hse:=YZ.1
   rw [hz3] at hse
   exact Z8 8 (W5 8 [] [] [ZM e1] (Ya [e1]) (Xp [e1]).symm 1 3 fun v3=>Yh 2 2 [] [(66,X9 [e1])] (Z8 9 (dp 9 5 [] [] (Ya (ys++[e1])) (Ya ys) (Ya [e1]) u none 3 (U0 _) (U0 _) (QX _) (by simp<;>omega) (by simp [QW,Ya]) fun v4=>Zk 0 1 [10] (de (az (Z2 1 (ZF k (Z1 (ZI ⟨k+1,(ys++[e1]),v4,p21,ob,ob,(Xb Zp hse),ob,rfl,rfl,rfl⟩ (wk [4,4,2,2,0] (fr (ZL k fl))))))))))))
  exact ax 0 (ar (ZE 2 [(69,X9 ys)] (Zv [] (Xs 6 c2 ys) (ZA 0 b2 (YE (Z0.mk 6 c2 ys)) (ie (ZJ (r3 [2,2] [ZM (Z0.mk 6 c2 ys)] [0] [(b2,b2)] ⟨(Z0.mk 6 c2 ys),pq,rfl,rfl,⟨SE.node (k:=3*rk t) (.inl rfl) om Zp om om om,by omega⟩⟩ (lr _))))))))
 refine ak (Zo 2 [2] (ic [4] (I7 g gb rs t) ?_))
 rintro _ _ ⟨xs1,rfl,rfl,X7⟩
 have hcl:=X7.2
 have hcn:=X7.1
 refine Z1 (Xd (XN [0,4,6,12] [(80,.b ((decide (t>0))&&(decide ((xs1.length:Int)>0))))] (fun gz=>gz) ?_ ?_))
 ·refine Z2 3 (ib (b:=(decide (t>0))) 76 (fun ZU=>?_) (fun ZU=>?_))
  ·have XX:t>0:=(dq).1 ZU
   exact Z2 1 (iw (Ye xs1) (Z1 (ZT 5 (ZP (decide ((xs1.length:Int)>0)) ZU fl))))
  have Wu:¬(t>0):=YT dq ZU
  exact Z1 (ZT 5 (ZP false ZU fl))
 refine ac ((decide (t>0))&&(decide ((xs1.length:Int)>0))) (p:=(t>0)/\((xs1.length:Int)>0)) (Xr dq dq) (fun XG=>?_) (fun XG=>?_)
 ·refine Yg 3 (iw (Ye xs1) (ic [4] (XL rd bs p (xs1.length:Int) (Zs:=ob)) ?_))
  rintro _ _ ⟨k2,rfl,rfl,V3⟩
  have qhp8:=V3.lt om
  obtain ⟨x4,Tc⟩:=Zq xs1 k2.toNat om
  have hclo:=hcl _ (ZW Tc)
  have hcb:=hclo.lt
  refine Zm (Zh none k2 1 (ZZ Tc)) (Z1 (Zo 3 [4] ?_))
  obtain ⟨x5,UW⟩:=Zq g.funcs x4.toNat om
  have hso:=(hg.sigs _ (ZW UW)).bd
  have hr1:=Z29 (t:=t) hg.decls om om
  have hfu:=UW
  refine Zm (XS gb g.funcs.length 4 x4.toNat 5 x4) (Z2 1 (Vl (WC 1 gb 4 4 5 (x4.toNat * 5+0) (Zb (X3 rs)) [Z6 x5.params] 31 (Z6 x5.params) (VC XV UW 0 rfl (Wv rfl))) (Z1 (ar (iL (Ya []) 0 3 fun v5=>?_)))))
  refine Z1 (Y0 (ab 2 (Y1 (fun fz gz m F h=>∃(k:Nat) (ys:List Z0) (u:Value) (pq:Nat),(k<=x5.params.length)/\(ys.length=k)/\(∀e∈ys,SE g 1 e)/\(p<=pq/\pq<=p+1+5*k)/\F=sF [0,4,6,13,14] fz [(15,Th ys u),(16,.i k)]/\h=[Yb rd bs pq,Za gz 2,Za gz 4,Za gz 5,.tail u 3]/\m=x5.params.length-k) _ _ _ ⟨0,[],v5,p+1,ob,ob,(fun e he=>by cases he),ob,rfl,rfl,rfl⟩ (wk [1,1,2,2,0] (fr (Yd fl))) ?_)))
  rintro m F h ⟨k,ys,u,pq,VX,Wh,Xm,Ez,rfl,rfl,rfl⟩
  refine X1 1 (ZF k (Z2 1 (iw (Ye x5.params) (ZQ (((k+1:Nat):Int)<(x5.params.length:Int)) (fun XH=>?_) (fun XH=>?_)))))
  ·refine ak (aq (ab 3 (aE 11 (ZG 6 11 [0,1,2,3,4] [3] ?_))))
   obtain ⟨x6,Qz⟩:=Zq x5.params k om
   have hz3:=hclo.low hg om hfu om Qz
   refine dx 5 (Zh none (k:Int) 1 (ZZ Qz)) (Zk 4 5 [6] (Z8 7 (dc 7 [0,0] [] [] (ih rd bs pq x6 ob ob om) ?_)))
   rintro _ _ ⟨e2,p22,rfl,rfl,Vk⟩
   have hse:=Vk.1
   rw [hz3] at hse
   exact Z8 8 (W5 8 [] [] [ZM e2] (Ya [e2]) (Xp [e2]).symm 1 3 fun v6=>Yh 2 2 [] [(110,X9 [e2])] (Z8 9 (dp 9 5 [] [] (Ya (ys++[e2])) (Ya ys) (Ya [e2]) u none 3 (U0 _) (U0 _) (QX _) (by simp<;>omega) (by simp [QW,Ya]) fun v7=>Zk 0 1 [10] (de (az (Z2 1 (ZF k (Z1 (ZI ⟨k+1,(ys++[e2]),v7,p22,ob,ob,(Xb Xm hse),ob,rfl,rfl,rfl⟩ (wk [2,2,2,2,0] (fr (ZL k fl))))))))))))
  exact ax 2 (ar (ZE 2 [(113,X9 ys)] (Zv [] (Xs 10 x4 ys) (ZA 2 b2 (YE (Z0.mk 10 x4 ys)) (ie (ZJ (r3 [1,1] [ZM (Z0.mk 10 x4 ys)] [0] [(b2,b2)] ⟨(Z0.mk 10 x4 ys),pq,rfl,rfl,⟨SE.node (k:=3) (.inr rfl) om Xm om om om,by omega⟩⟩ (lr _))))))))
 refine ak (Yg 1 (ic [4] (Ik rd bs p (Zs:=ob)) ?_))
 rintro _ _ ⟨z1,rfl,rfl,UT⟩
 exact Zv [] (KJ z1) (ZA 3 b2 (YE (Z0.mk 0 z1 [])) (ie (ZJ (r3 [1,1] [ZM (Z0.mk 0 z1 [])] [0] [(b2,b2)] ⟨(Z0.mk 0 z1 []),p+4,rfl,rfl,⟨SE.int om om,by omega⟩⟩ (lr _)))))
theorem RY (rd:Nat) (bs:LI) (p:Nat) (g:XI) (gb:Nat) (rs:List Func) (t:Int) (Zs:∀z∈bs,0<=z/\z<=255) (hp:p+5+15*rk t<=1000000000:=by exact ob) (hg:GP g:=by exact ob) (XV:g.funcs <+: rs:=by exact ob):Zf 297 [.p rd 0,.agg (XW g gb),.i t] [Yb rd bs p,Xq gb rs] (fun r h=>∃(e:Z0) (p2:Nat),r=ZM e/\h=[Yb rd bs p2,Xq gb rs]/\SE g (1+3*rk t) e/\p<=p2/\p2<=p+5+15*rk t):=by
 have key:∀k:Nat,∀(rd:Nat) (bs:LI) (p:Nat) (t2:Int),(∀z∈bs,0<=z/\z<=255)->(p+5+15*rk t2<=1000000000)->(rk t2<k)->Zf 297 [.p rd 0,.agg (XW g gb),.i t2] [Yb rd bs p,Xq gb rs] (fun r h=>∃(e:Z0) (p2:Nat),r=ZM e/\h=[Yb rd bs p2,Xq gb rs]/\SE g (1+3*rk t2) e/\p<=p2/\p2<=p+5+15*rk t2):=by
  intro k
  induction k with
  | zero=>intro rd bs p t2 h1 h2 h3;omega
  | succ k ih=>intro rd bs p t2 h1 h2 h3;exact RZ rd bs p g gb rs t2 h1 h2 hg XV fun rd bs p t3 q1 q2 q3=>ih rd bs p t3 q1 q2 om
 exact key 2 rd bs p t Zs hp (by have:=G3 t;omega)
theorem AX (rd:Nat) (bs:LI) (p:Nat) (g:XI) (gb:Nat) (rs:List Func) (vs:LI) (t:Int) (Zs:∀z∈bs,0<=z/\z<=255) (hp:p+30<=1000000000:=by exact ob) (hg:GP g:=by exact ob) (XV:g.funcs <+: rs:=by exact ob) (hv:vs.length<=2000:=by exact ob):Zf 274 [.p rd 0,.agg (XW g gb),Z6 vs,.i t] [Yb rd bs p,Xq gb rs] (fun r h=>∃(e:Z0) (p2:Nat),r=ZM e/\h=[Yb rd bs p2,Xq gb rs]/\GE g vs.length 4 e/\p<=p2/\p2<=p+30):=by
 have hrk:=G3 t
 refine ZD 40 Tryz.func274 (ar (iA (XW g gb) fun b1=>iA [.i 0,.i 0,nl] fun b2=>ie (Yg 2 (ic [] (S7 vs t) ?_))))
 rintro _ _ ⟨xs1,rfl,rfl,ZX⟩
 have hxs:=ZX
 refine Z1 (aq (aq (XA (fun fz gz F h=>∃(wb:Bool) (p5:Nat),(wb=true->0<xs1.length)/\(p<=p5/\p5<=p+1)/\F=sF [0,3,5,8,9] fz [(27,.b wb)]/\h=[Za gz 0,Za gz 1,Yb rd bs p5,Za gz 3]) ?_ ?_)))
 ·refine az (Z2 1 (iw (Ye xs1) (Z2 2 (ib (b:=(decide ((xs1.length:Int)>0))) 16 (fun Ze=>?_) (fun Ze=>?_)))))
  ·have Yc:(xs1.length:Int)>0:=(dq).1 Ze
   refine Z2 1 (ic [2] (XL rd bs p 6 (Zs:=ob)) ?_)
   rintro _ _ ⟨k1,rfl,rfl,YM⟩
   have qhp3:=YM.lt om
   refine Z2 2 (ib (b:=(decide (k1>0))) 20 (fun ZU=>?_) (fun ZU=>?_))
   ·have YZ:k1>0:=(dq).1 ZU
    exact Z1 (ZH ⟨true,p+1,(by first|exact (fun h=>Bool.noConfusion h)|exact fun _=>by omega),ob,rfl,rfl⟩ (wk [1,1,0,0] fl))
   have X7:¬(k1>0):=YT dq ZU
   refine ZV 1 [2] (iL (Z7 []) 0 1 fun v1=>ZE 1 [(22,Z6 [])] (ic [4] (D9 g gb rs [] t) ?_))
   rintro _ _ ⟨w1,rfl,rfl⟩
   exact Z1 (ZH ⟨(!w1),p+1,(by first|exact (fun h=>Bool.noConfusion h)|exact fun _=>by omega),ob,rfl,rfl⟩ (wk [3,3,2,0] fl))
  have XX:¬((xs1.length:Int)>0):=YT dq Ze
  exact Z1 (ZH ⟨false,p,(by first|exact (fun h=>Bool.noConfusion h)|exact fun _=>by omega),ob,rfl,rfl⟩ (ZT 4 fl))
 rintro F h ⟨wb,p5,kR2_0,kR2_1,rfl,rfl⟩
 refine ac wb Iff.rfl (fun Z9=>?_) (fun Z9=>?_)
 ·have hk0:=kR2_0 Z9
  refine Yg 3 (iw (Ye xs1) (ic [2] (XL rd bs p5 (xs1.length:Int) (Zs:=ob)) ?_))
  rintro _ _ ⟨k2,rfl,rfl,Wu⟩
  have qhp7:=Wu.lt om
  obtain ⟨x1,Z5⟩:=Zq xs1 k2.toNat om
  have hxv:=hxs.2 _ (ZW Z5)
  exact Zm (Zh none k2 1 (ZZ Z5)) (Z2 1 (Zv [] (UR x1) (ZA 1 b2 (YE (Z0.mk 12 x1 [])) (ie (ZJ (r3 [1,2] [ZM (Z0.mk 12 x1 [])] [0] [(b2,b2)] ⟨(Z0.mk 12 x1 []),p5+1,rfl,rfl,⟨GE.var hxv om om,by omega⟩⟩ (lr _)))))))
 refine ak (Zo 3 [1] (ic [2,2] (RY rd bs p5 g gb rs t (Zs:=ob)) ?_))
 rintro _ _ ⟨e1,p21,rfl,rfl,V3⟩
 have hse:=V3.1
 exact ZA 2 b2 (YE e1) (ie (ZJ (r3 [1,1] [ZM e1] [0] [(b2,b2)] ⟨e1,p21,rfl,rfl,⟨hse.ge om,by omega⟩⟩ (lr _))))
theorem R0 (rd:Nat) (bs:LI) (p:Nat) (g:XI) (gb:Nat) (rs:List Func) (vs:LI) (Zs:∀z∈bs,0<=z/\z<=255) (hp:p+1<=1000000000:=by exact ob) (hg:GP g:=by exact ob) (XV:g.funcs <+: rs:=by exact ob) (hv:vs.length<=2000:=by exact ob):Zf 289 [.p rd 0,.agg (XW g gb),Z6 vs] [Yb rd bs p,Xq gb rs] (fun r h=>∃(z:Int),r=.i z/\h=[.obj rd [Vd bs,.i (p+1:Nat)],Xq gb rs]/\0<=z/\z<=4):=by
 have XB:=hg.decls.ok
 have hgl:=hg.len
 have hdl:=hg.decls.len
 refine ZD 24 Tryz.func289 (ar (iA (XW g gb) fun b1=>Z1 (Yg 1 (iL (Z7 [1,1,3,0,2,4,3]) 7 1 fun v1=>ZE 0 [(9,Z6 [1,1,3,0,2,4,3])] (ic [2] (WV rd bs p [1,1,3,0,2,4,3] (Zs:=ob)) ?_)))))
 rintro _ _ ⟨z1,rfl,rfl,ZX⟩
 have hz:=Jx (a:=0) (b:=4) ZX (by decide)
 refine Z1 (aq (aq (XA (fun fz gz F h=>∃(wb:Bool),(True)/\F=sF [7] fz [(22,.b wb)]/\h=[Za gz 0,Za gz 3]) ?_ ?_)))
 ·refine az (ZV 3 [2] (iw (Tu g.decls) (Z2 2 (ib (b:=(decide (z1>(g.decls.length:Int)))) 16 (fun Ze=>?_) (fun Ze=>?_)))))
  ·exact Z1 (ZH ⟨true,True.intro,rfl,rfl⟩ (wk [0,2] fl))
  refine ZV 3 [2] (ic [3] (D9 g gb rs vs z1) ?_)
  rintro _ _ ⟨w1,rfl,rfl⟩
  exact Z1 (ZH ⟨(!w1),True.intro,rfl,rfl⟩ (wk [1,0] fl))
 rintro F h ⟨wb,kR2_0,rfl,rfl⟩
 refine ac wb Iff.rfl (fun Z9=>?_) (fun Z9=>?_)
 ·exact ar (Zt (r1 [0,0] ⟨1,rfl,rfl,om⟩))
 exact ak (ar (Zt (r1 [0,0] ⟨z1,rfl,rfl,om⟩)))
theorem R6 (g:XI) (gb:Nat) (rs:List Func) (t:Int) (hg:GP g:=by exact ob) (XV:g.funcs <+: rs:=by exact ob):Zf 292 [.agg (XW g gb),.i t] [Xq gb rs] (fun r h=>∃(xs:LI),r=Z6 xs/\h=[Xq gb rs]/\xs.length<=4/\∀i∈xs,1<=i/\i<g.funcs.length):=by
 have XB:=hg.decls.ok
 have hgl:=hg.len
 have hdl:=hg.decls.len
 refine ZD 57 Tryz.func292 (ar (iA (XW g gb) fun b1=>Z1 (ar (iL (Z7 []) 0 1 fun v1=>?_))))
 refine Z1 (Y0 (ab 0 (Y1 (fun fz gz m F h=>∃(k:Nat) (ys:LI) (u:Value),(1<=k/\k<=g.funcs.length)/\(ys.length<=k)/\(∀i∈ys,1<=i/\i<g.funcs.length)/\F=sF [1,2] fz [(5,ZO ys u),(6,.i k)]/\h=[Za gz 1,Za gz 2,.tail u 1]/\m=g.funcs.length-k) _ _ _ ⟨1,[],v1,ob,ob,(fun i hi=>by cases hi),rfl,rfl,rfl⟩ (wk [1,1,0] (fr (fc (x:=.i 1) li fl))) ?_)))
 rintro m F h ⟨k,ys,u,Yf,Zj,Zp,rfl,rfl,rfl⟩
 refine Y7 3 [0] (io (.i g.funcs.length) (.i g.funcs.length) (lr _) (ZQ ((k:Int)<(g.funcs.length:Int)) (fun Z9=>?_) (fun Z9=>?_)))
 ·refine ak (aq (ab 1 (Zo 3 [0] ?_)))
  obtain ⟨x1,Z5⟩:=Zq g.funcs k om
  have hso:=(hg.sigs _ (ZW Z5)).bd
  refine Zm (XS gb g.funcs.length 4 k 5 (k:Int)) (Z2 1 (Vl (WC 1 gb 4 4 5 (k*5+1) (Zb (X3 rs)) [.i x1.result] 3 (.i x1.result) (VC XV Z5 1 rfl (Wv rfl))) (Z1 (Y0 (ab 2 (Y1 (fun fz gz m F h=>∃(j:Nat) (wo:Bool),(True)/\F=sF [1,2,5,6] fz [(7,.b wo),(8,.i j)]/\h=gz/\m=x1.params.length-j) _ _ _ ⟨0,(x1.result==t),True.intro,rfl,rfl,rfl⟩ (ZT 3 (fr (Yd fl))) ?_))))))
  rintro m F h ⟨j,wo,VX,rfl,rfl,rfl⟩
  refine Y7 4 [0] (Zm (XS gb g.funcs.length 4 k 5 (k:Int)) (Z2 1 (Vl (WC 1 gb 4 4 5 (k*5+0) (Zb (X3 rs)) [Z6 x1.params] 31 (Z6 x1.params) (VC XV Z5 0 rfl (Wv rfl))) (iw (Ye x1.params) (ZQ ((j:Int)<(x1.params.length:Int)) (fun Zg=>?_) (fun Zg=>?_))))))
  ·refine ak (aq (ab 3 (aE 16 (Zk 14 16 [0,1] (db (b:=wo) 37 (fun Ze=>?_) (fun Ze=>?_))))))
   ·refine ZG 10 14 [2,4,5,6] [0,0] (dx 7 (XS gb g.funcs.length 4 k 5 (k:Int)) (Zk 8 9 [8] (Vt 9 (WC 1 gb 4 4 5 (k*5+0) (Zb (X3 rs)) [Z6 x1.params] 31 (Z6 x1.params) (VC XV Z5 0 rfl (Wv rfl))) (Zk 6 7 [10] ?_))))
    obtain ⟨x2,Zu⟩:=Zq x1.params j om
    refine dx 11 (Zh none (j:Int) 1 (ZZ Zu)) (Zk 4 5 [12] (Z8 3 (dL 3 [1,0,0] [gb,b1,b1] (Z7 []) 0 1 fun v2=>Yh 3 3 [] [(39,Z6 [])] (Z8 13 (dc 13 [2] [] [] (D9 g gb rs [] x2) ?_)))))
    rintro _ _ ⟨w1,rfl,rfl⟩
    exact Zk 0 2 [14,15] (de (az (Z2 1 (ZF j (Z1 (ZI ⟨j+1,w1,True.intro,rfl,rfl,rfl⟩ (wk [2,0,1] (fr (ZL j fl)))))))))
   exact Zk 0 14 [2,3,4,5,6,7,8,9,10,11,12,13,14,15] (de (az (Z2 1 (ZF j (Z1 (ZI ⟨j+1,false,ob,rfl,rfl,rfl⟩ (ZT 3 (fr (ZL j fl)))))))))
  refine ax 2 (ar (YR wo Iff.rfl (fun ZK=>?_) (fun ZK=>?_)))
  ·exact az (Z2 2 (iL (Z7 [(k:Int)]) 1 1 fun v3=>ZE 0 [(54,Z6 [(k:Int)])] (ip 3 (Z7 (ys++[(k:Int)])) (Z7 ys) (Z7 [(k:Int)]) u none 1 (Yw _) (Yw _) (XT _) (by simp<;>omega) (by simp [XQ,Z7]) fun v4=>Z1 (az (Z2 1 (ZF k (Z1 (ZI ⟨k+1,(ys++[(k:Int)]),v4,ob,ob,(Xb Zp om),rfl,rfl,rfl⟩ (wk [2,2,0] (fr (ZL k fl)))))))))))
  exact ak (az (Z2 1 (ZF k (Z1 (ZI ⟨k+1,ys,u,ob,ob,ob,rfl,rfl,rfl⟩ (ZT 3 (fr (ZL k fl))))))))
 exact ax 0 (ar (Zt (r2 [1] [ZO ys u] ⟨ys,rfl,rfl,⟨by omega,Zp⟩⟩ (Zd.forget _ _))))
theorem RM (e:Z0) (left:Int) (hz:e.sz<=1000000:=by exact ob) (hl:0<=left/\left<=1000:=by exact ob) (ih:∀(e2:Z0) (left:Int),(e2.sz<e.sz)->(0<=left/\left<=1000)->Zf 275 [ZM e2,.i left] [] (fun r h=>∃(w:Int),r=.i w/\h=[]/\NL e2.sz left w)):Zf 275 [ZM e,.i left] [] (fun r h=>∃(w:Int),r=.i w/\h=[]/\NL e.sz left w):=by
 have hes:=e.sz_eq
 have hel:=HM (xs:=e.kids)
 refine ZD 27 Tryz.func275 (ar (iA (YE e) fun b1=>Z1 (Xd (ZQ (left<1) (fun Z9=>?_) (fun Z9=>?_)))))
 ·exact ar (Zt (r1 [] ⟨(-1),rfl,rfl,(.inr ⟨by omega,rfl⟩)⟩))
 refine ak (Yg 1 (ia ((left-1)) ((left)-(1)) (Z1 (Y0 (ab 0 (Y1 (fun fz gz m F h=>∃(k:Nat) (q:Int),(k<=e.kids.length)/\(0<=q/\q+1+X8 (e.kids.take k)=left)/\F=sF [2] fz [(1,.i q),(5,.i k)]/\h=gz/\m=e.kids.length-k) _ _ _ ⟨0,(left-1),ob,(by simp [X8];omega),rfl,rfl,rfl⟩ (wk [0] (fr (Yd fl))) ?_))))))
 rintro m F h ⟨k,q,Yf,Zj,rfl,rfl,rfl⟩
 refine Y7 3 [0] (iw (EU e.kids) (ZQ ((k:Int)<(e.kids.length:Int)) (fun Zg=>?_) (fun Zg=>?_)))
 ·refine ak (aq (ab 1 (Zo 3 [0] ?_)))
  obtain ⟨x1,Z5⟩:=Zq e.kids k om
  have hks:=A4 Z5
  have htk:X8 (e.kids.take (k+1))=X8 (e.kids.take k)+(x1).sz:=by rw [Vq Z5,BE,X8,X8];rfl
  have htl:X8 (e.kids.take (k+1))<=X8 e.kids:=by have h:=Yr X8 (Un (k+1) e.kids);rw [BE] at h;omega
  refine Zm (Zh none (k:Int) 3 (AO Z5)) (Z2 2 (ic [] (ih x1 q ob ob) ?_))
  rintro _ _ ⟨w1,rfl,rfl,ZX⟩
  have hnl:=ZX
  unfold NL at hnl
  refine Z1 (ar (ZQ (w1<0) (fun ZK=>?_) (fun ZK=>?_)))
  ·exact ar (Zt (r1 [] ⟨(-1),rfl,rfl,(.inr ⟨by omega,rfl⟩)⟩))
  exact ak (az (Z2 1 (ZF k (Z1 (ZI ⟨k+1,w1,ob,ob,rfl,rfl,rfl⟩ (wk [0] (fr (ZL k fl))))))))
 refine ax 0 (Y9 ?_)
 have htk:X8 (e.kids.take k)=X8 e.kids:=by rw [WS om]
 exact ZJ (r1 [] ⟨q,rfl,rfl,(.inl ⟨by omega,by omega⟩)⟩)
theorem RL (e:Z0) (left:Int) (hz:e.sz<=1000000:=by exact ob) (hl:0<=left/\left<=1000:=by exact ob):Zf 275 [ZM e,.i left] [] (fun r h=>∃(w:Int),r=.i w/\h=[]/\NL e.sz left w):=by
 have key:∀k:Nat,∀(e2:Z0) (left:Int),(e2.sz<k)->(e2.sz<=1000000)->(0<=left/\left<=1000)->Zf 275 [ZM e2,.i left] [] (fun r h=>∃(w:Int),r=.i w/\h=[]/\NL e2.sz left w):=by
  intro k
  induction k with
  | zero=>intro e2 left h;omega
  | succ k ih=>intro e2 left h1 h2 h3;exact RM e2 left h2 h3 fun e3 l3 q1 q2=>ih e3 l3 om om q2
 exact key (e.sz+1) e left om hz hl
theorem Ih (e:Z0) (hz:e.sz<=1000000:=by exact ob):Zf 232 [ZM e] [] (fun r h=>∃(w:Int),r=.i w/\h=[]/\((w=e.sz/\e.sz<=30)∨(w=-1/\30<e.sz))):=by
 refine ZD 10 Tryz.func232 (ar (iA (YE e) fun b1=>Z1 (Zo 1 [0] (ic [] (RL e 30) ?_))))
 rintro _ _ ⟨w1,rfl,rfl,ZX⟩
 have hnl:=ZX
 unfold NL at hnl
 refine Z1 (Xd (ZQ (w1<0) (fun Z9=>?_) (fun Z9=>?_)))
 ·exact ar (Zt (r1 [] ⟨(-1),rfl,rfl,ob⟩))
 exact ak (Yg 1 (ia ((30-w1)) ((30)-(w1)) (Zt (r1 [] ⟨(30-w1),rfl,rfl,ob⟩))))
theorem A8 (rd:Nat) (bs:LI) (p:Nat) (g:XI) (gb:Nat) (rs:List Func) (vs:LI) (ts:LI) (b:Nat) (bb:Nat) (Zs:∀z∈bs,0<=z/\z<=255) (hp:p+ts.length*bC (b / ts.length)<=1000000000:=by exact ob) (hg:GP g:=by exact ob) (XV:g.funcs <+: rs:=by exact ob) (hv:vs.length+3*bb<=900:=by exact ob) (ht:ts.length<=3:=by exact ob) (hb:b<bb/\bb<=1000:=by exact ob) (ih:∀(rd:Nat) (bs:LI) (p:Nat) (vs2:LI) (t2:Int) (b2:Nat),(∀z∈bs,0<=z/\z<=255)->(p+bC b2<=1000000000)->(vs2.length+3*b2<=900)->(b2<bb)->Zf 270 [.p rd 0,.agg (XW g gb),Z6 vs2,.i t2,.i b2] [Yb rd bs p,Xq gb rs] (fun r h=>∃(e:Z0) (p2:Nat),r=ZM e/\h=[Yb rd bs p2,Xq gb rs]/\GE g vs2.length (bS b2) e/\p<=p2/\p2<=p+bC b2)):Zf 290 [.p rd 0,.agg (XW g gb),Z6 vs,Z6 ts,.i b] [Yb rd bs p,Xq gb rs] (fun r h=>∃(ys:List Z0) (p2:Nat),r=X9 ys/\h=[Yb rd bs p2,Xq gb rs]/\ys.length=ts.length/\(∀e∈ys,GE g vs.length (bS (b / ts.length)) e)/\p<=p2/\p2<=p+ts.length*bC (b / ts.length)):=by
 have hqb:=Nat.div_le_self b ts.length
 refine ZD 36 Tryz.func290 (ar (iA (XW g gb) fun b1=>Z1 (ar (iL (Ya []) 0 3 fun v1=>?_))))
 refine Z1 (Y0 (ab 0 (Y1 (fun fz gz m F h=>∃(k:Nat) (ys:List Z0) (u:Value) (pq:Nat),(k<=ts.length)/\(ys.length=k)/\(∀e∈ys,GE g vs.length (bS (b / ts.length)) e)/\(p<=pq/\pq<=p+k*bC (b / ts.length))/\F=sF [0,2,3,4,6] fz [(11,Th ys u),(12,.i k)]/\h=[Za gz 1,Yb rd bs pq,Za gz 3,.tail u 3]/\m=ts.length-k) _ _ _ ⟨0,[],v1,p,ob,ob,(fun e he=>by cases he),(by simp),rfl,rfl,rfl⟩ (wk [1,1,1,0] (fr (Yd fl))) ?_)))
 rintro m F h ⟨k,ys,u,pq,Yf,Zj,Zp,YA,rfl,rfl,rfl⟩
 refine X1 2 (iw (Ye ts) (ZQ ((k:Int)<(ts.length:Int)) (fun Z9=>?_) (fun Z9=>?_)))
 ·obtain ⟨hm1,hm2⟩:=Le (k:=k) (L:=ts.length) (C:=bC (b / ts.length)) om
  refine ak (aq (ab 1 (aE 16 (ZG 10 16 [0,1,2,3,4,5] [0] ?_))))
  obtain ⟨x1,Z5⟩:=Zq ts k om
  refine dx 6 (Zh none (k:Int) 1 (ZZ Z5)) (Zk 6 9 [7,8,9] (dw 10 (Ye ts) (dx 11 (Af b ts.length om om) (Z8 12 (dc 12 [1,1] [] [] (ih rd bs pq vs x1 (b / ts.length) ob ob ob ob) ?_)))))
  rintro _ _ ⟨e1,p21,rfl,rfl,ZX⟩
  have YY:=ZX.1
  exact Z8 13 (W5 13 [] [] [ZM e1] (Ya [e1]) (Xp [e1]).symm 1 3 fun v2=>Yh 2 2 [] [(33,X9 [e1])] (Z8 14 (dp 14 4 [] [] (Ya (ys++[e1])) (Ya ys) (Ya [e1]) u none 3 (U0 _) (U0 _) (QX _) (by simp<;>omega) (by simp [QW,Ya]) fun v3=>Zk 0 1 [15] (de (az (Z2 1 (ZF k (Z1 (ZI ⟨k+1,(ys++[e1]),v3,p21,ob,ob,(Xb Zp (by assumption)),om,rfl,rfl,rfl⟩ (wk [4,2,2,0] (fr (ZL k fl))))))))))))
 have hke:k=ts.length:=by omega
 subst hke
 exact ax 0 (ar (Zt (r2 [1,1] [Th ys u] ⟨ys,pq,rfl,rfl,⟨by omega,Zp,by omega⟩⟩ (Zd.forget _ _))))
theorem Ro (rd:Nat) (bs:LI) (p:Nat) (g:XI) (gb:Nat) (rs:List Func) (vs:LI) (t:Int) (b:Nat) (Zs:∀z∈bs,0<=z/\z<=255) (hp:p+(bC b-1)<=1000000000:=by exact ob) (hg:GP g:=by exact ob) (XV:g.funcs <+: rs:=by exact ob) (hv:vs.length+3*b<=900:=by exact ob) (hb:3<=b:=by exact ob) (ih:∀(rd:Nat) (bs:LI) (p:Nat) (vs2:LI) (t2:Int) (b2:Nat),(∀z∈bs,0<=z/\z<=255)->(p+bC b2<=1000000000)->(vs2.length+3*b2<=900)->(b2<b)->Zf 270 [.p rd 0,.agg (XW g gb),Z6 vs2,.i t2,.i b2] [Yb rd bs p,Xq gb rs] (fun r h=>∃(e:Z0) (p2:Nat),r=ZM e/\h=[Yb rd bs p2,Xq gb rs]/\GE g vs2.length (bS b2) e/\p<=p2/\p2<=p+bC b2)):Zf 291 [.p rd 0,.agg (XW g gb),Z6 vs,.i t,.i b] [Yb rd bs p,Xq gb rs] (fun r h=>∃(e:Z0) (p2:Nat),r=ZM e/\h=[Yb rd bs p2,Xq gb rs]/\GE g vs.length (bS b) e/\p<=p2/\p2<=p+(bC b-1)):=by
 have XB:=hg.decls.ok
 have hgl:=hg.len
 have hdl:=hg.decls.len
 have hcm:=H6 b
 refine ZD 69 Tryz.func291 (ar (iA (XW g gb) fun b1=>iA [.i 0,.i 0,nl] fun b2=>ie (Yg 1 (iL (Z7 [1,1,3,4]) 4 1 fun v1=>ZE 0 [(16,Z6 [1,1,3,4])] (ic [3] (WV rd bs p [1,1,3,4] (Zs:=ob)) ?_)))))
 rintro _ _ ⟨z1,rfl,rfl,ZX⟩
 have hz:=Jx (a:=1) (b:=4) ZX (by decide)
 refine Z1 (Y7 3 [3] (iw (Tu g.decls) (XN [0,2,3,4,6,10,11] [(28,.b ((decide (z1>(g.decls.length:Int)))||WW g.decls z1))] (fun gz=>gz) ?_ ?_)))
 ·refine Z2 2 (ib (b:=(decide (z1>(g.decls.length:Int)))) 23 (fun Ze=>?_) (fun Ze=>?_))
  ·exact Z1 (ZT 5 (ZP true Ze fl))
  exact ZV 3 [3] (Zv [] (Ci g.decls z1) (Z1 (ZT 5 (ZP (WW g.decls z1) Ze fl))))
 refine XA (fun fz gz F h=>∃(d:Int),(1<=d/\d<=4)/\F=sF [0,2,3,4,6,10] fz [(11,.i d)]/\h=[Za gz 0,Za gz 2,Za gz 3,Za gz 4]) ?_ ?_
 ·refine ac ((decide (z1>(g.decls.length:Int)))||WW g.decls z1) (p:=(z1>(g.decls.length:Int))∨(WW g.decls z1=true)) (Xu dq Iff.rfl) (fun Z9=>?_) (fun Z9=>?_)
  ·exact UN (ZH ⟨1,om,rfl,rfl⟩ (wk [0,1,1,1] fl))
  exact ak (ZH ⟨z1,om,rfl,rfl⟩ (wk [0,1,1,1] fl))
 rintro F h ⟨d,Qh,rfl,rfl⟩
 have hcl:=Lk XB d
 have hmc:=Z0s (L:=(Y2 g.decls d).length) (q:=((b-2) / (Y2 g.decls d).length)) (b:=b) om hb (UM _ _)
 have hqb:=Nat.div_le_self (b-2) (Y2 g.decls d).length
 refine Zo 3 [2] (ic [] (K9 g.decls d) ?_)
 rintro _ _ ⟨v2,rfl,rfl⟩
 refine Z1 (Zo 4 [3] (ic [1,3] (AX rd bs (p+1) g gb rs vs d (Zs:=ob)) ?_))
 rintro _ _ ⟨e1,p21,rfl,rfl,YZ⟩
 have hle:=YZ.1
 refine VD [ZM e1] (Ya [e1]) (Xp [e1]).symm 1 3 fun v3=>?_
 refine Z1 (Y0 (ab 0 (Y1 (fun fz gz m F h=>∃(k:Nat) (ys:List Z0) (u:Value) (pq:Nat),(k<=(Y2 g.decls d).length)/\(ys.length=k)/\(Tv g.decls g.funcs.length (UH g.decls 8 d vs.length) 1 ys)/\(∀e∈ys,e.sz<=bS ((b-2) / (Y2 g.decls d).length))/\(p<=pq/\pq<=p+31+k*bC ((b-2) / (Y2 g.decls d).length))/\F=sF [0,2,3,4,6,10,11] fz [(12,Z6 (Y2 g.decls d)),(13,Th (e1::ys) u),(14,.i k)]/\h=[Yb rd bs pq,Za gz 2,Za gz 4,Za gz 5,.tail u 3]/\m=(Y2 g.decls d).length-k) _ _ _ ⟨0,[],v3,p21,ob,rfl,True.intro,(fun e he=>by cases he),(by simp only [Nat.zero_mul];omega),rfl,rfl,rfl⟩ (wk [1,1,2,2,0] (fc (x:=ZO (Y2 g.decls d) v2) (Zd.forget _ _) (fc (x:=Th [e1] v3) (Zd.slh _ (Yr Ya rfl)) (Yd fl)))) ?_)))
 rintro m F h ⟨k,ys,u,pq,Yf,Zj,Zp,YA,XZ,rfl,rfl,rfl⟩
 refine X1 2 (io (.i (((Y2 g.decls d).length:Nat):Int)) (.i (((Z7 (Y2 g.decls d)).length:Nat):Int)) (li (by rw [Ye])) (ZQ ((k:Int)<(((Y2 g.decls d).length:Nat):Int)) (fun Zg=>?_) (fun Zg=>?_)))
 ·refine ak (aq (ab 1 (aE 22 (ZG 14 22 [0,1,2,3,4,5,6,7] [3,3] ?_))))
  obtain ⟨x1,Z5⟩:=Zq (Y2 g.decls d) k om
  have hcf:=VB XB x1
  have harm:=Bg (m:=vs.length) Z5
  obtain ⟨hm1,hm2⟩:=Le (k:=k) (L:=(Y2 g.decls d).length) (C:=bC ((b-2) / (Y2 g.decls d).length)) om
  refine dx 8 (Zh none (k:Int) 1 (ZZ Z5)) (Zk 10 13 [9,12,13] (da 14 (((b-2:Nat):Int)) (((b:Int))-(2)) (Zk 8 9 [15] (dn 16 (.i (((Y2 g.decls d).length:Nat):Int)) (.i (((Z7 (Y2 g.decls d)).length:Nat):Int)) (li (by rw [Ye])) (dx 17 (Af (b-2) ((Y2 g.decls d).length) om om) (Z8 10 (Yo 10 [] [3] [b1] (TX g.decls x1) (Z8 11 (dc 11 [] [3] [b1] (TG vs (Y5 g.decls x1)) ?_)))))))))
  rintro _ _ ⟨v4,rfl,rfl⟩
  refine Yh 4 4 [] [(56,Z6 (vs++(Y5 g.decls x1)))] (Z8 18 (dc 18 [1,1] [] [] (ih rd bs pq (vs++(Y5 g.decls x1)) t ((b-2) / ((Y2 g.decls d).length)) ob ob (by simp only [Yk];omega) ob) ?_))
  rintro _ _ ⟨e2,p22,rfl,rfl,X7⟩
  have YY:=X7.1
  exact Z8 19 (W5 19 [] [] [ZM e2] (Ya [e2]) (Xp [e2]).symm 1 3 fun v5=>Yh 2 2 [] [(64,X9 [e2])] (Z8 20 (dp 20 6 [] [] (Ya ((e1::ys)++[e2])) (Ya (e1::ys)) (Ya [e2]) u none 3 (U0 _) (U0 _) (QX _) (by simp<;>omega) (by simp [QW,Ya]) fun v6=>Zk 0 1 [21] (de (az (Z2 1 (ZF k (Z1 (ZI ⟨k+1,(ys++[e2]),v6,p22,ob,ob,(HI.2 ⟨Zp,by rw [Zj,harm,<-Yk];exact YY.1,True.intro⟩),(Xb YA YY.2),om,rfl,rfl,rfl⟩ (wk [2,2,3,3,0] (fr (fc (x:=Th ((e1::ys)++[e2]) v6) (Zd.slh _ (Yr Ya rfl)) (ZL k fl)))))))))))))
 refine ax 0 (ar (ZE 2 [(67,X9 (e1::ys))] (Zv [] (Xs 8 d (e1::ys)) (ZA 2 b2 (YE (Z0.mk 8 d (e1::ys))) (ie ?_)))))
 have hke:k=(Y2 g.decls d).length:=by omega
 subst hke
 exact ZJ (r3 [1,1] [ZM (Z0.mk 8 d (e1::ys))] [0] [(b2,b2)] ⟨(Z0.mk 8 d (e1::ys)),pq,rfl,rfl,⟨GE.match_ om hle Zp YA Zj rfl om (Z0t om hb (UM _ _)),by omega⟩⟩ (lr _))
theorem Ia (rd:Nat) (bs:LI) (p:Nat) (g:XI) (gb:Nat) (rs:List Func) (vs:LI) (t:Int) (b:Nat) (Zs:∀z∈bs,0<=z/\z<=255) (hp:p+(bC b-1)<=1000000000:=by exact ob) (hg:GP g:=by exact ob) (XV:g.funcs <+: rs:=by exact ob) (hv:vs.length+3*b<=900:=by exact ob) (hb:3<=b:=by exact ob) (ih:∀(rd:Nat) (bs:LI) (p:Nat) (vs2:LI) (t2:Int) (b2:Nat),(∀z∈bs,0<=z/\z<=255)->(p+bC b2<=1000000000)->(vs2.length+3*b2<=900)->(b2<b)->Zf 270 [.p rd 0,.agg (XW g gb),Z6 vs2,.i t2,.i b2] [Yb rd bs p,Xq gb rs] (fun r h=>∃(e:Z0) (p2:Nat),r=ZM e/\h=[Yb rd bs p2,Xq gb rs]/\GE g vs2.length (bS b2) e/\p<=p2/\p2<=p+bC b2)):Zf 293 [.p rd 0,.agg (XW g gb),Z6 vs,.i t,.i b] [Yb rd bs p,Xq gb rs] (fun r h=>∃(e:Z0) (p2:Nat),r=ZM e/\h=[Yb rd bs p2,Xq gb rs]/\GE g vs.length (bS b) e/\p<=p2/\p2<=p+(bC b-1)):=by
 have XB:=hg.decls.ok
 have hgl:=hg.len
 have hdl:=hg.decls.len
 have hac:=NZ hb
 have has:=O0 hb
 refine ZD 120 Tryz.func293 (ar (iA (XW g gb) fun b1=>iA [.i 0,.i 0,nl] fun b2=>ie (X1 1 (ic [2] (XL rd bs p 4 (Zs:=ob)) ?_))))
 rintro _ _ ⟨k1,rfl,rfl,ZX⟩
 have qhp1:=ZX.lt om
 refine Z1 (XA (fun fz gz F h=>∃(p5:Nat),(p<=p5/\p5<=p+1)/\F=sF [0,2,3,4,6,10] fz []/\h=[Yb rd bs p5,Za gz 1,Za gz 2,Za gz 3]) ?_ ?_)
 ·refine ac (k1==0) ZB (fun Z9=>?_) (fun Z9=>?_)
  ·refine Y9 (ab 0 (Y1 (fun fz gz m F h=>∃(a:Nat),(1<=a/\a<=g.decls.length+1)/\F=sF [0,2,3,4,6,10] fz [(11,.i a)]/\h=gz/\m=g.decls.length+1-a) _ _ _ ⟨1,ob,rfl,rfl,rfl⟩ (ZT 4 (fc (x:=.i 1) li fl)) ?_))
   rintro m F h ⟨a,Yf,rfl,rfl,rfl⟩
   refine Y7 3 [2] (iw (Tu g.decls) (ZQ ((a:Int)<=(g.decls.length:Int)) (fun Zg=>?_) (fun Zg=>?_)))
   ·refine ak (aq (ab 1 (aq (XA (fun fz gz F h=>∃(wb:Bool),(True)/\F=sF [0,2,3,4,6,10,11] fz [(44,.b wb)]/\h=gz) ?_ ?_))))
    ·refine az (ZV 3 [2] (Zv [] (Ci g.decls (a:Int)) (Z2 1 (ib (b:=WW g.decls (a:Int)) 28 (fun Ze=>?_) (fun Ze=>?_)))))
     ·refine ZV 3 [2] (ia (((a-1:Nat):Int)) (((a:Int))-(1)) ?_)
      obtain ⟨x1,Z5⟩:=Zq g.decls (a-1) om
      refine Zm (Zh none ((a-1:Nat):Int) 3 (VZ Z5)) (Z2 6 (ib (b:=(x1.to_==t)) 39 (fun ZU=>?_) (fun ZU=>?_)))
      ·refine ZV 3 [2] (ic [3] (D9 g gb rs vs (a:Int)) ?_)
       rintro _ _ ⟨w1,rfl,rfl⟩
       exact Z1 (ZH ⟨w1,True.intro,rfl,rfl⟩ (wk [1,1,1,0] fl))
      exact Z1 (ZH ⟨false,True.intro,rfl,rfl⟩ (ZT 4 fl))
     exact Z1 (ZH ⟨false,True.intro,rfl,rfl⟩ (ZT 4 fl))
    rintro F h ⟨wb,kR5_0,rfl,rfl⟩
    refine ac wb Iff.rfl (fun ZK=>?_) (fun ZK=>?_)
    ·refine aD 21 (ZG 11 21 [0,1,2,3,5,6,7,8,9,10] [2,2,2] (da 11 (((a-1:Nat):Int)) (((a:Int))-(1)) ?_))
     obtain ⟨x2,Zu⟩:=Zq g.decls (a-1) om
     refine dx 12 (Zh none ((a-1:Nat):Int) 3 (VZ Zu)) (Zk 6 9 [13,14,15] (da 16 (((b-2:Nat):Int)) (((b:Int))-(2)) (Z8 4 (dc 4 [0,2] [1,1] [b1,b1] (AX rd bs (p+1) g gb rs vs (a:Int) (Zs:=ob)) ?_))))
     rintro _ _ ⟨e1,p21,rfl,rfl,XX⟩
     have hle:=XX.1
     refine Z8 17 (dc 17 [0,0] [] [] (ih rd bs p21 vs x2.frm (b-2) ob ob ob ob) ?_)
     rintro _ _ ⟨e2,p22,rfl,rfl,Wu⟩
     have YY:=Wu.1
     exact Z8 18 (W5 18 [] [] [ZM e1,ZM e2] (Ya [e1,e2]) (Xp [e1,e2]).symm 2 3 fun v1=>Yh 2 2 [] [(63,X9 [e1,e2])] (Z8 19 (Yo 19 [] [] [] (Xs 11 0 [e1,e2]) (Z8 20 (Yy 20 3 [] [] b2 (YE (Z0.mk 11 0 [e1,e2])) (de (ZJ (r3 [2,2] [ZM (Z0.mk 11 0 [e1,e2])] [0] [(b2,b2)] ⟨(Z0.mk 11 0 [e1,e2]),p22,rfl,rfl,⟨GE.two om om hle YY om,by omega⟩⟩ (lr _)))))))))
    exact ak (az (Z2 1 (ZF a (Z1 (ZI ⟨a+1,ob,rfl,rfl,rfl⟩ (ZT 4 (ZL a fl)))))))
   exact ax 0 (ZH ⟨p+1,ob,rfl,rfl⟩ (ZT 4 fl))
  exact ak (ZH ⟨p+1,ob,rfl,rfl⟩ (ZT 4 fl))
 rintro F h ⟨p5,Qh,rfl,rfl⟩
 refine Zo 3 [2] (ic [] (K9 g.decls t) ?_)
 rintro _ _ ⟨v2,rfl,rfl⟩
 refine Z1 (X1 1 (io (.i (((Y2 g.decls t).length:Nat):Int)) (.i (((Z7 (Y2 g.decls t)).length:Nat):Int)) (li (by rw [Ye])) (ZQ ((((Y2 g.decls t).length:Nat):Int)>0) (fun Yt=>?_) (fun Yt=>?_))))
 ·refine Yg 3 (io (.i (((Y2 g.decls t).length:Nat):Int)) (.i (((Z7 (Y2 g.decls t)).length:Nat):Int)) (li (by rw [Ye])) (ic [1] (XL rd bs p5 (((Y2 g.decls t).length:Nat):Int) (Zs:=ob)) ?_))
  rintro _ _ ⟨k2,rfl,rfl,V3⟩
  have qhp8:=V3.lt om
  obtain ⟨x3,X0⟩:=Zq (Y2 g.decls t) k2.toNat om
  have hcc:=hg.decls.cons_cases (ZW X0)
  refine Zm (Zh (some v2) k2 1 (ZZ X0)) (Z1 (aD 13 (ZG 5 13 [0,1,2,3,4,5,6,8] [3,3] (da 9 (((b-1:Nat):Int)) (((b:Int))-(1)) (Z8 7 (Yo 7 [] [2] [b1] (TX g.decls x3) (Z8 10 (dc 10 [0,3] [] [] (A8 rd bs (p5+1) g gb rs vs (Y5 g.decls x3) (b-1) b (Zs:=ob) (hp:=(Ak (p:=p) (by first|omega|simp) hb om om)) (ht:=(by first|omega|simp)) (hb:=om) (ih:=ih)) ?_))))))))
  rintro _ _ ⟨ys1,p23,rfl,rfl,Vk⟩
  have hga1:=Vk.1
  have hga2:=Vk.2.1
  have hga3:=Vk.2.2
  have hnc:=KV (b:=b) (show (ys1).length<=3 by rw [hga1];first|omega|simp) hb (UM _ (b-1))
  rw [hga1] at hnc
  exact Z8 11 (Yo 11 [] [] [] (Xs 6 x3 ys1) (Z8 12 (Yy 12 3 [] [] b2 (YE (Z0.mk 6 x3 ys1)) (de (ZJ (r3 [1,1] [ZM (Z0.mk 6 x3 ys1)] [0] [(b2,b2)] ⟨(Z0.mk 6 x3 ys1),p23,rfl,rfl,⟨GE.node om (fun h=>by omega) om hga2 hga1 (by first|omega|simp) (C2 (by first|omega|simp) hb (UM _ _)),by omega⟩⟩ (lr _)))))))
 refine ak (Xd (ZQ (t>0) (fun XG=>?_) (fun XG=>?_)))
 ·refine Zo 4 [3] (ic [1,3] (AX rd bs p5 g gb rs vs t (Zs:=ob)) ?_)
  rintro _ _ ⟨e3,p24,rfl,rfl,UT⟩
  have hle:=UT.1
  exact ZA 3 b2 (YE e3) (ie (ZJ (r3 [1,1] [ZM e3] [0] [(b2,b2)] ⟨e3,p24,rfl,rfl,⟨hle.le (H7 b),by omega⟩⟩ (lr _))))
 refine ak (X1 1 (ic [1] (XL rd bs p5 3 (Zs:=ob)) ?_))
 rintro _ _ ⟨k3,rfl,rfl,UU⟩
 have qhp11:=UU.lt om
 refine YR (k3==0) ZB (fun XH=>?_) (fun XH=>?_)
 ·refine Zo 3 [3] (iL (Z7 [0]) 1 1 fun v3=>Z2 1 (ia (((b-1:Nat):Int)) (((b:Int))-(1)) (ZE 0 [(104,Z6 [0])] (ic [1,4] (A8 rd bs (p5+1) g gb rs vs [0] (b-1) b (Zs:=ob) (hp:=(Ak (p:=p) (by first|omega|simp) hb om om)) (ht:=(by first|omega|simp)) (hb:=om) (ih:=ih)) ?_))))
  rintro _ _ ⟨ys2,p25,rfl,rfl,UV⟩
  have hga1:=UV.1
  have hga2:=UV.2.1
  have hga3:=UV.2.2
  have hnc:=KV (b:=b) (show (ys2).length<=3 by rw [hga1];first|omega|simp) hb (UM _ (b-1))
  rw [hga1] at hnc
  exact Zv [] (Xs 5 0 ys2) (ZA 4 b2 (YE (Z0.mk 5 0 ys2)) (ie (ZJ (r3 [1,1] [ZM (Z0.mk 5 0 ys2)] [0] [(b2,b2)] ⟨(Z0.mk 5 0 ys2),p25,rfl,rfl,⟨GE.node om (fun h=>by omega) om hga2 hga1 (by first|omega|simp) (C2 (by first|omega|simp) hb (UM _ _)),by omega⟩⟩ (lr _)))))
 refine ak (aD 12 (ZG 7 12 [0,3,4,5,7] [3] (da 8 (((b-1:Nat):Int)) (((b:Int))-(1)) (Kx (fun fz gz F h=>∃(z1:Int) (ys3:List Z0) (p26:Nat),(z1∈[1,2,3,4])/\(ys3.length=[0,0].length/\(∀e∈ys3,GE g vs.length (bS ((b-1) / [0,0].length)) e)/\((p5+1)+1)<=p26/\p26<=((p5+1)+1)+[0,0].length*bC ((b-1) / [0,0].length))/\F=sF [10] fz []/\h=[.obj b2 (YE (Z0.mk z1 0 ys3)),Yb rd bs p26,Za gz 4,Za gz 1,Za gz 3]) ?_ ?_))))
 ·refine WT 1 6 ?_ ?_
  ·refine dL 1 [2] [b1] (Z7 [1,2,3,4]) 4 1 fun v4=>Yh 5 5 [] [(110,Z6 [1,2,3,4])] (WT 2 6 ?_ ?_)
   ·refine dc 2 [1] [1] [b1] (WV rd bs (p5+1) [1,2,3,4] (Zs:=ob)) ?_
    rintro _ _ ⟨z1,rfl,rfl,Qy⟩
    have hz:=Jx (a:=1) (b:=4) Qy (by decide)
    refine Z8 6 (dL 6 [2] [b1] (Z7 [0,0]) 2 1 fun v5=>Yh 3 3 [] [(115,Z6 [0,0])] (Z8 9 (dc 9 [1,5] [] [] (A8 rd bs ((p5+1)+1) g gb rs vs [0,0] (b-1) b (Zs:=ob) (hp:=(Ak (p:=p) (by first|omega|simp) hb om om)) (ht:=(by first|omega|simp)) (hb:=om) (ih:=ih)) ?_)))
    rintro _ _ ⟨ys3,p26,rfl,rfl,Qg⟩
    have hga1:=Qg.1
    have hga2:=Qg.2.1
    have hga3:=Qg.2.2
    have hnc:=KV (b:=b) (show (ys3).length<=3 by rw [hga1];first|omega|simp) hb (UM _ (b-1))
    rw [hga1] at hnc
    exact Z8 10 (Yo 10 [] [] [] (Xs z1 0 ys3) (Z8 11 (Yy 11 5 [] [] b2 (YE (Z0.mk z1 0 ys3)) (de (ZH ⟨z1,ys3,p26,(by assumption),(by assumption),rfl,rfl⟩ (wk [0,0,0,2,2] fl))))))
   refine dL 6 [2] [b1] (Z7 [0,0]) 2 1 fun v6=>Z8 2 (dc 2 [2] [1] [b1] (WV rd bs (p5+1) [1,2,3,4] (Zs:=ob)) ?_)
   rintro _ _ ⟨z2,rfl,rfl,Jq⟩
   have hz:=Jx (a:=1) (b:=4) Jq (by decide)
   refine Yh 3 3 [] [(115,Z6 [0,0])] (Z8 9 (dc 9 [0,5] [] [] (A8 rd bs ((p5+1)+1) g gb rs vs [0,0] (b-1) b (Zs:=ob) (hp:=(Ak (p:=p) (by first|omega|simp) hb om om)) (ht:=(by first|omega|simp)) (hb:=om) (ih:=ih)) ?_))
   rintro _ _ ⟨ys4,p27,rfl,rfl,KQ⟩
   have hga1:=KQ.1
   have hga2:=KQ.2.1
   have hga3:=KQ.2.2
   have hnc:=KV (b:=b) (show (ys4).length<=3 by rw [hga1];first|omega|simp) hb (UM _ (b-1))
   rw [hga1] at hnc
   exact Z8 10 (Yo 10 [] [] [] (Xs z2 0 ys4) (Z8 11 (Yy 11 5 [] [] b2 (YE (Z0.mk z2 0 ys4)) (de (ZH ⟨z2,ys4,p27,(by assumption),(by assumption),rfl,rfl⟩ (wk [0,0,0,2,2] fl))))))
  refine dL 6 [2] [b1] (Z7 [0,0]) 2 1 fun v7=>Z8 1 (dL 1 [2] [b1] (Z7 [1,2,3,4]) 4 1 fun v8=>Yh 4 4 [] [(110,Z6 [1,2,3,4])] (Z8 2 (dc 2 [2] [1] [b1] (WV rd bs (p5+1) [1,2,3,4] (Zs:=ob)) ?_)))
  rintro _ _ ⟨z3,rfl,rfl,Dd⟩
  have hz:=Jx (a:=1) (b:=4) Dd (by decide)
  refine Yh 3 3 [] [(115,Z6 [0,0])] (Z8 9 (dc 9 [0,5] [] [] (A8 rd bs ((p5+1)+1) g gb rs vs [0,0] (b-1) b (Zs:=ob) (hp:=(Ak (p:=p) (by first|omega|simp) hb om om)) (ht:=(by first|omega|simp)) (hb:=om) (ih:=ih)) ?_))
  rintro _ _ ⟨ys5,p28,rfl,rfl,Ad⟩
  have hga1:=Ad.1
  have hga2:=Ad.2.1
  have hga3:=Ad.2.2
  have hnc:=KV (b:=b) (show (ys5).length<=3 by rw [hga1];first|omega|simp) hb (UM _ (b-1))
  rw [hga1] at hnc
  exact Z8 10 (Yo 10 [] [] [] (Xs z3 0 ys5) (Z8 11 (Yy 11 5 [] [] b2 (YE (Z0.mk z3 0 ys5)) (de (ZH ⟨z3,ys5,p28,(by assumption),(by assumption),rfl,rfl⟩ (wk [0,0,0,2,2] fl))))))
 rintro F h ⟨z1,ys3,p26,Qy,Qg,rfl,rfl⟩
 have hz:=Jx (a:=1) (b:=4) Qy (by decide)
 have hga1:=Qg.1
 have hga2:=Qg.2.1
 have hga3:=Qg.2.2
 have hnc:=KV (b:=b) (show (ys3).length<=3 by rw [hga1];first|omega|simp) hb (UM _ (b-1))
 rw [hga1] at hnc
 exact ZJ (r3 [1,1] [ZM (Z0.mk z1 0 ys3)] [0] [(b2,b2)] ⟨(Z0.mk z1 0 ys3),p26,rfl,rfl,⟨GE.node om (fun h=>by omega) om hga2 hga1 (by first|omega|simp) (C2 (by first|omega|simp) hb (UM _ _)),by omega⟩⟩ (lr _))
theorem Rp (rd:Nat) (bs:LI) (p:Nat) (g:XI) (gb:Nat) (rs:List Func) (vs:LI) (t:Int) (b:Nat) (Zs:∀z∈bs,0<=z/\z<=255) (hp:p+bC b<=1000000000) (hg:GP g) (XV:g.funcs <+: rs) (hv:vs.length+3*b<=900) (ih:∀(rd:Nat) (bs:LI) (p:Nat) (vs2:LI) (t2:Int) (b2:Nat),(∀z∈bs,0<=z/\z<=255)->(p+bC b2<=1000000000)->(vs2.length+3*b2<=900)->(b2<b)->Zf 270 [.p rd 0,.agg (XW g gb),Z6 vs2,.i t2,.i b2] [Yb rd bs p,Xq gb rs] (fun r h=>∃(e:Z0) (p2:Nat),r=ZM e/\h=[Yb rd bs p2,Xq gb rs]/\GE g vs2.length (bS b2) e/\p<=p2/\p2<=p+bC b2)):Zf 270 [.p rd 0,.agg (XW g gb),Z6 vs,.i t,.i b] [Yb rd bs p,Xq gb rs] (fun r h=>∃(e:Z0) (p2:Nat),r=ZM e/\h=[Yb rd bs p2,Xq gb rs]/\GE g vs.length (bS b) e/\p<=p2/\p2<=p+bC b):=by
 have XB:=hg.decls.ok
 have hgl:=hg.len
 have hdl:=hg.decls.len
 have hbm:=H7 b
 have hcm:=H6 b
 refine ZD 114 Tryz.func270 (ar (iA (XW g gb) fun b1=>iA [.i 0,.i 0,nl] fun b2=>ie (Xd (ZQ ((b:Int)<3) (fun Z9=>?_) (fun Z9=>?_)))))
 ·refine Zo 4 [1] (ic [2,2] (AX rd bs p g gb rs vs t (Zs:=ob)) ?_)
  rintro _ _ ⟨e1,p21,rfl,rfl,ZX⟩
  have hle:=ZX.1
  exact ZA 2 b2 (YE e1) (ie (ZJ (r3 [1,1] [ZM e1] [0] [(b2,b2)] ⟨e1,p21,rfl,rfl,⟨hle.le hbm,by omega⟩⟩ (lr _))))
 have hb:3<=b:=by omega
 have hlc:=Z0n hb
 have hls:=Z0o hb
 refine ak (X1 1 (ic [2] (XL rd bs p 12 (Zs:=ob)) ?_))
 rintro _ _ ⟨k1,rfl,rfl,Yc⟩
 have qhp2:=Yc.lt om
 refine ie (ab 0 (ar (YR (k1==0) ZB (fun Zg=>?_) (fun Zg=>?_))))
 ·refine Zo 4 [2] (ic [0,2] (AX rd bs (p+1) g gb rs vs t (Zs:=ob)) ?_)
  rintro _ _ ⟨e2,p22,rfl,rfl,YM⟩
  have hle:=YM.1
  exact ZA 2 b2 (YE e2) (ie (ZJ (r3 [1,1] [ZM e2] [0] [(b2,b2)] ⟨e2,p22,rfl,rfl,⟨hle.le hbm,by omega⟩⟩ (lr _))))
 refine Y0 (XA (fun fz gz F h=>F=sF [0,2,3,4,6,10,22] fz [(30,.b ((k1==1)||(k1==2)))]/\h=gz) ?_ ?_)
 ·refine ac (k1==1) ZB (fun ZK=>?_) (fun ZK=>?_)
  ·exact ak (ZH ⟨rfl,rfl⟩ (ZT 4 (fc (x:=.b (k1==1)) (lb (by first|rfl|(rw [Zw ZK])|(rw [Zr ZK])|(simp [ZK];done)|(rw [Xl];simp [ZK];done)|omega)) fl)))
  exact UN (ZH ⟨rfl,rfl⟩ (ZT 4 (fc (x:=.b (k1==2)) (lb (by first|rfl|(rw [Zw ZK])|(rw [Zr ZK])|(simp [ZK];done)|(rw [Xl];simp [ZK];done)|omega)) fl)))
 rintro F h ⟨rfl,rfl⟩
 refine ac ((k1==1)||(k1==2)) (p:=(k1=1)∨(k1=2)) (Xu ZB ZB) (fun Yt=>?_) (fun Yt=>?_)
 ·refine Zo 3 [2] (ic [0,2] (R0 rd bs (p+1) g gb rs vs (Zs:=ob)) ?_)
  rintro _ _ ⟨z1,rfl,rfl,YZ⟩
  refine Z1 (aD 20 (ZG 15 20 [0,1,2,3,4] [3] (dx 5 (Af b 2 om om) (ZG 8 14 [7,8,9,10,13,14] [3] (dx 15 (Af b 2 om om) (Kx (fun fz gz F h=>∃(e3:Z0) (e4:Z0) (p24:Nat) (p23:Nat),(GE g vs.length (bS (b / 2)) e3/\((p+1)+1)<=p23/\p23<=((p+1)+1)+bC (b / 2))/\(GE g (vs++[z1]).length (bS (b / 2)) e4/\p23<=p24/\p24<=p23+bC (b / 2))/\F=sF [10] fz []/\h=[.obj b2 (YE (Z0.mk 13 0 [e3,e4])),Yb rd bs p24,Za gz 1,Za gz 3]) ?_ ?_))))))
  ·refine WT 6 11 ?_ ?_
   ·refine dc 6 [0,0] [1] [b1] (ih rd bs ((p+1)+1) vs z1 (b / 2) ob ob (by first|omega|(simp only [Yk,YD,X6];omega)) ob) ?_
    rintro _ _ ⟨e3,p23,rfl,rfl,X7⟩
    have hgehp5:=X7.1
    refine Z8 11 (dL 11 [3] [b1] (Z7 [z1]) 1 1 fun v1=>Yh 5 5 [] [(48,Z6 [z1])] (Z8 12 (dc 12 [] [3] [b1] (TG vs [z1]) ?_)))
    rintro _ _ ⟨v2,rfl,rfl⟩
    refine Yh 4 4 [] [(49,Z6 (vs++[z1]))] (Z8 16 (dc 16 [2,2] [] [] (ih rd bs p23 (vs++[z1]) t (b / 2) ob ob (by first|omega|(simp only [Yk,YD,X6];omega)) ob) ?_))
    rintro _ _ ⟨e4,p24,rfl,rfl,XX⟩
    have hgehp6:=XX.1
    exact Z8 17 (W5 17 [] [] [ZM e3,ZM e4] (Ya [e3,e4]) (Xp [e3,e4]).symm 2 3 fun v3=>Yh 2 2 [] [(54,X9 [e3,e4])] (Z8 18 (Yo 18 [] [] [] (Xs 13 0 [e3,e4]) (Z8 19 (Yy 19 5 [] [] b2 (YE (Z0.mk 13 0 [e3,e4])) (de (ZH ⟨e3,e4,p24,_,(by assumption),(by assumption),rfl,rfl⟩ (wk [0,1,1,3] fl))))))))
   refine dL 11 [3,3] [b1,b1] (Z7 [z1]) 1 1 fun v4=>Z8 6 (dc 6 [1,1] [1] [b1] (ih rd bs ((p+1)+1) vs z1 (b / 2) ob ob (by first|omega|(simp only [Yk,YD,X6];omega)) ob) ?_)
   rintro _ _ ⟨e5,p25,rfl,rfl,Wu⟩
   have hgehp7:=Wu.1
   refine Yh 5 5 [] [(48,Z6 [z1])] (Z8 12 (dc 12 [] [3] [b1] (TG vs [z1]) ?_))
   rintro _ _ ⟨v5,rfl,rfl⟩
   refine Yh 4 4 [] [(49,Z6 (vs++[z1]))] (Z8 16 (dc 16 [1,1] [] [] (ih rd bs p25 (vs++[z1]) t (b / 2) ob ob (by first|omega|(simp only [Yk,YD,X6];omega)) ob) ?_))
   rintro _ _ ⟨e6,p26,rfl,rfl,V3⟩
   have hgehp8:=V3.1
   exact Z8 17 (W5 17 [] [] [ZM e5,ZM e6] (Ya [e5,e6]) (Xp [e5,e6]).symm 2 3 fun v6=>Yh 2 2 [] [(54,X9 [e5,e6])] (Z8 18 (Yo 18 [] [] [] (Xs 13 0 [e5,e6]) (Z8 19 (Yy 19 5 [] [] b2 (YE (Z0.mk 13 0 [e5,e6])) (de (ZH ⟨e5,e6,p26,_,(by assumption),(by assumption),rfl,rfl⟩ (wk [0,1,1,3] fl))))))))
  rintro F h ⟨e3,e4,p24,p23,X7,XX,rfl,rfl⟩
  have hgehp5:=X7.1
  have hgehp6:=XX.1
  exact ZJ (r3 [1,1] [ZM (Z0.mk 13 0 [e3,e4])] [0] [(b2,b2)] ⟨(Z0.mk 13 0 [e3,e4]),p24,rfl,rfl,⟨GE.let_ (by assumption) (by have h:=‹GE g (vs++[_]).length (bS (b / 2)) _›;rw [Yk] at h;exact h) hls,by omega⟩⟩ (lr _))
 refine ar (YR (k1==3) ZB (fun XG=>?_) (fun XG=>?_))
 ·refine Zo 5 [2] (iL (Z7 [0,t,t]) 3 1 fun v7=>Z2 1 (ia (((b-1:Nat):Int)) (((b:Int))-(1)) (ZE 0 [(63,Z6 [0,t,t])] (ic [1,3] (A8 rd bs (p+1) g gb rs vs [0,t,t] (b-1) b (Zs:=ob) (hp:=(Ak (p:=p) (by first|omega|simp) hb om om)) (ht:=(by first|omega|simp)) (hb:=om) (ih:=ih)) ?_))))
  rintro _ _ ⟨ys1,p27,rfl,rfl,Vk⟩
  have hga1:=Vk.1
  have hga2:=Vk.2.1
  have hga3:=Vk.2.2
  have hnc:=KV (b:=b) (show (ys1).length<=3 by rw [hga1];first|omega|simp) hb (UM _ (b-1))
  rw [hga1] at hnc
  exact Zv [] (Xs 7 0 ys1) (ZA 3 b2 (YE (Z0.mk 7 0 ys1)) (ie (ZJ (r3 [1,1] [ZM (Z0.mk 7 0 ys1)] [0] [(b2,b2)] ⟨(Z0.mk 7 0 ys1),p27,rfl,rfl,⟨GE.if_ om hga2 hga1 (C2 (by simp) hb (UM 3 _)),by omega⟩⟩ (lr _)))))
 refine Y0 (XA (fun fz gz F h=>F=sF [0,2,3,4,6,10,22] fz [(68,.b ((k1==4)||((k1==5)||(k1==6))))]/\h=gz) ?_ ?_)
 ·refine ac (k1==4) ZB (fun XH=>?_) (fun XH=>?_)
  ·exact ak (ZH ⟨rfl,rfl⟩ (ZT 4 (fc (x:=.b (k1==4)) (lb (by first|rfl|(rw [Zw XH])|(rw [Zr XH])|(simp [XH];done)|(rw [Xl];simp [XH];done)|omega)) fl)))
  refine ar (YR (k1==5) ZB (fun TS=>?_) (fun TS=>?_))
  ·exact ak (ZH ⟨rfl,rfl⟩ (ZT 4 (fc (x:=.b (k1==5)) (lb (by first|rfl|(rw [Zw XH])|(rw [Zr XH])|(simp [XH,TS];done)|(rw [Xl];simp [XH,TS];done)|omega)) fl)))
  exact UN (ZH ⟨rfl,rfl⟩ (ZT 4 (fc (x:=.b (k1==6)) (lb (by first|rfl|(rw [Zw XH])|(rw [Zr XH])|(simp [XH,TS];done)|(rw [Xl];simp [XH,TS];done)|omega)) fl)))
 rintro F h ⟨rfl,rfl⟩
 refine ac ((k1==4)||((k1==5)||(k1==6))) (p:=(k1=4)∨((k1=5)∨(k1=6))) (Xu ZB (Xu ZB ZB)) (fun Tb=>?_) (fun Tb=>?_)
 ·refine Zo 5 [2] (ic [0,2] (Ro rd bs (p+1) g gb rs vs t b (Zs:=ob) (ih:=ih)) ?_)
  rintro _ _ ⟨e7,p28,rfl,rfl,UT⟩
  have hgm:=UT.1
  exact ZA 2 b2 (YE e7) (ie (ZJ (r3 [1,1] [ZM e7] [0] [(b2,b2)] ⟨e7,p28,rfl,rfl,⟨hgm,by omega⟩⟩ (lr _))))
 refine Y0 (XA (fun fz gz F h=>F=sF [0,2,3,4,6,10] fz [(78,.b ((k1==7)||(k1==8)))]/\h=gz) ?_ ?_)
 ·refine ac (k1==7) ZB (fun UC=>?_) (fun UC=>?_)
  ·exact ak (ZH ⟨rfl,rfl⟩ (ZT 4 (fc (x:=.b (k1==7)) (lb (by first|rfl|(rw [Zw UC])|(rw [Zr UC])|(simp [UC];done)|(rw [Xl];simp [UC];done)|omega)) fl)))
  exact UN (ZH ⟨rfl,rfl⟩ (ZT 4 (fc (x:=.b (k1==8)) (lb (by first|rfl|(rw [Zw UC])|(rw [Zr UC])|(simp [UC];done)|(rw [Xl];simp [UC];done)|omega)) fl)))
 rintro F h ⟨rfl,rfl⟩
 refine ac ((k1==7)||(k1==8)) (p:=(k1=7)∨(k1=8)) (Xu ZB ZB) (fun BP=>?_) (fun BP=>?_)
 ·refine Zo 2 [2] (ic [3] (R6 g gb rs t) ?_)
  rintro _ _ ⟨xs1,rfl,rfl,UU⟩
  have hcal:=UU
  refine Z1 (Yg 1 (iw (Ye xs1) (ZQ ((xs1.length:Int)>0) (fun BQ=>?_) (fun BQ=>?_))))
  ·refine Yg 3 (iw (Ye xs1) (ic [1] (XL rd bs (p+1) (xs1.length:Int) (Zs:=ob)) ?_))
   rintro _ _ ⟨k2,rfl,rfl,UV⟩
   have qhp12:=UV.lt om
   obtain ⟨x1,Z5⟩:=Zq xs1 k2.toNat om
   have hcv:=hcal.2 _ (ZW Z5)
   refine Zm (Zh none k2 1 (ZZ Z5)) (Z1 (aD 15 (ZG 8 15 [0,1,2,3,4,5,6] [3,3] ?_)))
   obtain ⟨x2,Zu⟩:=Zq g.funcs x1.toNat om
   have hso:=(hg.sigs _ (ZW Zu)).bd
   refine dx 7 (XS gb g.funcs.length 4 x1.toNat 5 x1) (Zk 6 7 [8] (Vt 9 (WC 1 gb 4 4 5 (x1.toNat * 5+0) (Zb (X3 rs)) [Z6 x2.params] 31 (Z6 x2.params) (VC XV Zu 0 rfl (Wv rfl))) (Zk 4 5 [10] (da 11 (((b-1:Nat):Int)) (((b:Int))-(1)) (Z8 12 (dc 12 [0,0] [] [] (A8 rd bs ((p+1)+1) g gb rs vs x2.params (b-1) b (Zs:=ob) (hp:=(Ak (p:=p) (by first|omega|simp) hb om om)) (ht:=(by first|omega|simp)) (hb:=om) (ih:=ih)) ?_))))))
   rintro _ _ ⟨ys2,p29,rfl,rfl,Qy⟩
   have hga1:=Qy.1
   have hga2:=Qy.2.1
   have hga3:=Qy.2.2
   have hnc:=KV (b:=b) (show (ys2).length<=3 by rw [hga1];first|omega|simp) hb (UM _ (b-1))
   rw [hga1] at hnc
   exact Z8 13 (Yo 13 [] [] [] (Xs 9 x1 ys2) (Z8 14 (Yy 14 2 [] [] b2 (YE (Z0.mk 9 x1 ys2)) (de (ZJ (r3 [1,1] [ZM (Z0.mk 9 x1 ys2)] [0] [(b2,b2)] ⟨(Z0.mk 9 x1 ys2),p29,rfl,rfl,⟨GE.node om (fun _=>by omega) om hga2 hga1 (by first|omega|simp) (C2 (by first|omega|simp) hb (UM _ _)),by omega⟩⟩ (lr _)))))))
  refine ak (Zo 5 [3] (ic [1,0] (Ia rd bs (p+1) g gb rs vs t b (Zs:=ob) (ih:=ih)) ?_))
  rintro _ _ ⟨e8,p210,rfl,rfl,Qg⟩
  have hgm:=Qg.1
  exact ZA 2 b2 (YE e8) (ie (ZJ (r3 [1,1] [ZM e8] [0] [(b2,b2)] ⟨e8,p210,rfl,rfl,⟨hgm,by omega⟩⟩ (lr _))))
 refine ak (Zo 5 [2] (ic [0,2] (Ia rd bs (p+1) g gb rs vs t b (Zs:=ob) (ih:=ih)) ?_))
 rintro _ _ ⟨e9,p211,rfl,rfl,Jq⟩
 have hgm:=Jq.1
 exact ZA 2 b2 (YE e9) (ie (ZJ (r3 [1,1] [ZM e9] [0] [(b2,b2)] ⟨e9,p211,rfl,rfl,⟨hgm,by omega⟩⟩ (lr _))))
theorem Ty (rd:Nat) (bs:LI) (p:Nat) (g:XI) (gb:Nat) (rs:List Func) (vs:LI) (t:Int) (b:Nat) (Zs:∀z∈bs,0<=z/\z<=255) (hp:p+bC b<=1000000000:=by exact ob) (hg:GP g:=by exact ob) (XV:g.funcs <+: rs:=by exact ob) (hv:vs.length+3*b<=900:=by exact ob):Zf 270 [.p rd 0,.agg (XW g gb),Z6 vs,.i t,.i b] [Yb rd bs p,Xq gb rs] (fun r h=>∃(e:Z0) (p2:Nat),r=ZM e/\h=[Yb rd bs p2,Xq gb rs]/\GE g vs.length (bS b) e/\p<=p2/\p2<=p+bC b):=by
 have key:∀k:Nat,∀(rd:Nat) (bs:LI) (p:Nat) (vs:LI) (t:Int) (b2:Nat),(∀z∈bs,0<=z/\z<=255)->(p+bC b2<=1000000000)->(vs.length+3*b2<=900)->(b2<k)->Zf 270 [.p rd 0,.agg (XW g gb),Z6 vs,.i t,.i b2] [Yb rd bs p,Xq gb rs] (fun r h=>∃(e:Z0) (p2:Nat),r=ZM e/\h=[Yb rd bs p2,Xq gb rs]/\GE g vs.length (bS b2) e/\p<=p2/\p2<=p+bC b2):=by
  intro k
  induction k with
  | zero=>intro rd bs p vs t b2 h1 h2 h3 h4;omega
  | succ k ih=>intro rd bs p vs t b2 h1 h2 h3 h4;exact Rp rd bs p g gb rs vs t b2 h1 h2 hg XV h3 fun rd bs p vs t b3 q1 q2 q3 q4=>ih rd bs p vs t b3 q1 q2 q3 om
 exact key (b+1) rd bs p vs t b Zs hp hv om
theorem I9 (rd:Nat) (bs:LI) (p:Nat) (g:XI) (gb:Nat) (rs:List Func) (vs:LI) (t:Int) (b:Nat) (Zs:∀z∈bs,0<=z/\z<=255) (hp:p+40000<=1000000000:=by exact ob) (hg:GP g:=by exact ob) (XV:g.funcs <+: rs:=by exact ob) (hv:vs.length+3*b<=900:=by exact ob) (hb:b<=20:=by exact ob):Zf 231 [.p rd 0,.agg (XW g gb),Z6 vs,.i t,.i b] [Yb rd bs p,Xq gb rs] (fun r h=>∃(e:Z0) (p2:Nat),r=ZM e/\h=[Yb rd bs p2,Xq gb rs]/\GE g vs.length 30 e/\p<=p2/\p2<=p+40000):=by
 have Z6j:=CF hb
 refine ZD 34 Tryz.func231 (ar (iA (XW g gb) fun b1=>iA [.i 0,.i 0,nl] fun b2=>ie (Zo 5 [1] (ic [2,2] (Ty rd bs p g gb rs vs t b (Zs:=ob)) ?_))))
 rintro _ _ ⟨e1,p21,rfl,rfl,ZX⟩
 have YY:=ZX.1
 refine iA [.i 0,.i 0,nl] fun b3=>?_
 refine ZA 0 b3 (YE e1) (ie (aq (ab 0 (Y1 (fun fz gz m F h=>∃(bq:Nat) (eQ:Z0) (pq:Nat),(GE g vs.length (bS bq) eQ)/\(bq<=b)/\(p<=pq/\pq+1900*bq<=p+1900*(b+1))/\F=sF [0,2,3,6,10,11] fz [(4,.i bq)]/\h=[.obj b3 (YE eQ),Yb rd bs pq,Za gz 2,Za gz 3,Za gz 4]/\m=bq+1) _ _ _ ⟨b,e1,p21,YY,ob,ob,rfl,rfl,rfl⟩ (ZT 5 fl) ?_))))
 rintro m F h ⟨bq,eQ,pq,Yf,Zj,Zp,rfl,rfl,rfl⟩
 refine Y7 1 [0] (ic [] (Ih eQ (hz:=(by have h1:=Yf.2;have h2:=(CF (b:=bq) om).1;omega))) ?_)
 rintro _ _ ⟨w1,rfl,rfl,Yc⟩
 have Fs:=Yc
 have hq20:=CF (b:=bq) om
 have hq21:=CF (b:=bq / 2) om
 have X5:=Yf.2
 refine XN [0,2,3,4,6,10,11] [(24,.b ((decide (w1<0))&&(decide ((bq:Int)>2))))] (fun gz=>gz) ?_ ?_
 ·refine Z2 2 (ib (b:=(decide (w1<0))) 21 (fun Ze=>?_) (fun Ze=>?_))
  ·exact Z1 (ZT 5 (ZP (decide ((bq:Int)>2)) Ze fl))
  exact Z1 (ZT 5 (ZP false Ze fl))
 refine ac ((decide (w1<0))&&(decide ((bq:Int)>2))) (p:=(w1<0)/\((bq:Int)>2)) (Xr dq dq) (fun Z9=>?_) (fun Z9=>?_)
 ·refine ak (ab 1 (Yg 1 (Zm (Af bq 2 om om) (Z1 (az (ZV 5 [4] (ic [1,1] (Ty rd bs pq g gb rs vs t (bq / 2) (Zs:=ob)) ?_)))))))
  rintro _ _ ⟨e2,p22,rfl,rfl,X7⟩
  have YY:=X7.1
  exact ZA 2 b3 (YE e2) (ie (ZI ⟨(bq / 2),e2,p22,YY,ob,ob,rfl,rfl,rfl⟩ (ZT 5 (fc (x:=.i (bq / 2:Nat)) li fl))))
 exact ax 0 (Zo 1 [0] (ZA 3 b2 (YE eQ) (ie (ZJ (r3 [2,2] [ZM eQ] [0] [(b2,b2)] ⟨eQ,pq,rfl,rfl,⟨⟨Yf.1,by omega⟩,by omega⟩⟩ (lr _))))))
theorem RD (rd:Nat) (bs:LI) (p:Nat) (t:Int) (Zs:∀z∈bs,0<=z/\z<=255) (hp:p+14<=1000000000:=by exact ob):Zf 272 [.p rd 0,.i t] [Yb rd bs p] (fun r h=>∃(e:Z0) (p2:Nat),r=ZM e/\h=[Yb rd bs p2]/\(∀g:XI,SE g 9 e)/\p<=p2/\p2<=p+14):=by
 refine ZD 45 Tryz.func272 (ar (iA [.i 0,.i 0,nl] fun b1=>ie (ar (iL (Ya []) 0 3 fun v1=>ZE 0 [(10,X9 [])] (Zv [] (Xs 6 0 []) (iA [.i 0,.i 0,nl] fun b2=>ZA 0 b2 (YE (Z0.mk 6 0 [])) (ie (Xd (YR (t==3) ZB (fun Z9=>?_) (fun Z9=>?_))))))))))
 ·refine ar (iL (Ya []) 0 3 fun v2=>ZE 0 [(14,X9 [])] (Zv [] (Xs 6 2 []) (iA [.i 0,.i 0,nl] fun b3=>?_)))
  refine ZA 0 b3 (YE (Z0.mk 6 2 [])) (ie (aD 9 (ZG 6 9 [0,1,4] [0,0] (Kx (fun fz gz F h=>∃(k1:Int) (b4:Nat),(Pk 9 k1)/\F=sF [0,4,6] fz [(7,.p b4 0)]/\h=[.obj b4 (YE (Z0.mk 6 3 [Z0.mk 6 2 [],Z0.mk 0 k1 [],Z0.mk 6 2 []])),.obj rd [Vd bs,.i (p+1:Nat)],Za gz 0,Za gz 1,Za gz 2,Za gz 3,Za gz 4]) ?_ ?_))))
  ·refine WT 2 7 ?_ ?_
   ·refine dc 2 [5] [0,0] [b3,b3] (XL rd bs p 9 (Zs:=ob)) ?_
    rintro _ _ ⟨k1,rfl,rfl,ZX⟩
    have qhp1:=ZX.lt om
    refine WT 3 7 ?_ ?_
    ·refine Yo 3 [] [1,1] [b3,b3] (KJ k1) (WT 5 7 ?_ ?_)
     ·refine W5 5 [] [] [ZM (Z0.mk 6 2 []),ZM (Z0.mk 0 k1 []),ZM (Z0.mk 6 2 [])] (Ya [Z0.mk 6 2 [],Z0.mk 0 k1 [],Z0.mk 6 2 []]) (Xp [Z0.mk 6 2 [],Z0.mk 0 k1 [],Z0.mk 6 2 []]).symm 3 3 fun v3=>Yh 3 3 [] [(21,X9 [Z0.mk 6 2 [],Z0.mk 0 k1 [],Z0.mk 6 2 []])] (WT 6 7 ?_ ?_)
      ·exact Yo 6 [] [] [] (Xs 6 3 [Z0.mk 6 2 [],Z0.mk 0 k1 [],Z0.mk 6 2 []]) (Z8 7 (dA 7 [] [] [.i 0,.i 0,nl] fun b4=>Z8 8 (Yy 8 0 [] [] b4 (YE (Z0.mk 6 3 [Z0.mk 6 2 [],Z0.mk 0 k1 [],Z0.mk 6 2 []])) (de (ZH ⟨k1,b4,(by assumption),rfl,rfl⟩ (wk [0,1,1,1,1,1,1] fl))))))
      exact dA 7 [] [] [.i 0,.i 0,nl] fun b5=>Z8 6 (Yo 6 [] [] [] (Xs 6 3 [Z0.mk 6 2 [],Z0.mk 0 k1 [],Z0.mk 6 2 []]) (Z8 8 (Yy 8 0 [] [] b5 (YE (Z0.mk 6 3 [Z0.mk 6 2 [],Z0.mk 0 k1 [],Z0.mk 6 2 []])) (de (ZH ⟨k1,b5,(by assumption),rfl,rfl⟩ (wk [0,1,1,1,1,1,1] fl))))))
     exact dA 7 [1,1] [b3,b3] [.i 0,.i 0,nl] fun b6=>Z8 5 (W5 5 [] [] [ZM (Z0.mk 6 2 []),ZM (Z0.mk 0 k1 []),ZM (Z0.mk 6 2 [])] (Ya [Z0.mk 6 2 [],Z0.mk 0 k1 [],Z0.mk 6 2 []]) (Xp [Z0.mk 6 2 [],Z0.mk 0 k1 [],Z0.mk 6 2 []]).symm 3 3 fun v4=>Yh 2 2 [] [(21,X9 [Z0.mk 6 2 [],Z0.mk 0 k1 [],Z0.mk 6 2 []])] (Z8 6 (Yo 6 [] [] [] (Xs 6 3 [Z0.mk 6 2 [],Z0.mk 0 k1 [],Z0.mk 6 2 []]) (Z8 8 (Yy 8 1 [] [] b6 (YE (Z0.mk 6 3 [Z0.mk 6 2 [],Z0.mk 0 k1 [],Z0.mk 6 2 []])) (de (ZH ⟨k1,b6,(by assumption),rfl,rfl⟩ (wk [0,1,1,1,1,1,1] fl))))))))
    exact dA 7 [1,1] [b3,b3] [.i 0,.i 0,nl] fun b7=>Z8 3 (Yo 3 [] [2,2] [b3,b3] (KJ k1) (Z8 5 (W5 5 [] [] [ZM (Z0.mk 6 2 []),ZM (Z0.mk 0 k1 []),ZM (Z0.mk 6 2 [])] (Ya [Z0.mk 6 2 [],Z0.mk 0 k1 [],Z0.mk 6 2 []]) (Xp [Z0.mk 6 2 [],Z0.mk 0 k1 [],Z0.mk 6 2 []]).symm 3 3 fun v5=>Yh 2 2 [] [(21,X9 [Z0.mk 6 2 [],Z0.mk 0 k1 [],Z0.mk 6 2 []])] (Z8 6 (Yo 6 [] [] [] (Xs 6 3 [Z0.mk 6 2 [],Z0.mk 0 k1 [],Z0.mk 6 2 []]) (Z8 8 (Yy 8 1 [] [] b7 (YE (Z0.mk 6 3 [Z0.mk 6 2 [],Z0.mk 0 k1 [],Z0.mk 6 2 []])) (de (ZH ⟨k1,b7,(by assumption),rfl,rfl⟩ (wk [0,1,1,1,1,1,1] fl))))))))))
   refine dA 7 [0,0] [b3,b3] [.i 0,.i 0,nl] fun b8=>Z8 2 (dc 2 [6] [1,1] [b3,b3] (XL rd bs p 9 (Zs:=ob)) ?_)
   rintro _ _ ⟨k2,rfl,rfl,Yc⟩
   have qhp2:=Yc.lt om
   exact Z8 3 (Yo 3 [] [2,2] [b3,b3] (KJ k2) (Z8 5 (W5 5 [] [] [ZM (Z0.mk 6 2 []),ZM (Z0.mk 0 k2 []),ZM (Z0.mk 6 2 [])] (Ya [Z0.mk 6 2 [],Z0.mk 0 k2 [],Z0.mk 6 2 []]) (Xp [Z0.mk 6 2 [],Z0.mk 0 k2 [],Z0.mk 6 2 []]).symm 3 3 fun v6=>Yh 2 2 [] [(21,X9 [Z0.mk 6 2 [],Z0.mk 0 k2 [],Z0.mk 6 2 []])] (Z8 6 (Yo 6 [] [] [] (Xs 6 3 [Z0.mk 6 2 [],Z0.mk 0 k2 [],Z0.mk 6 2 []]) (Z8 8 (Yy 8 2 [] [] b8 (YE (Z0.mk 6 3 [Z0.mk 6 2 [],Z0.mk 0 k2 [],Z0.mk 6 2 []])) (de (ZH ⟨k2,b8,(by assumption),rfl,rfl⟩ (wk [0,1,1,1,1,1,1] fl))))))))))
  rintro F h ⟨k1,b4,ZX,rfl,rfl⟩
  have qhp1:=ZX.lt om
  refine aD 8 (ZG 5 8 [0,1,4] [0,2] (Z8 2 (dc 2 [1] [1,0] [b3,b4] (XL rd bs (p+1) 9 (Zs:=ob)) ?_)))
  rintro _ _ ⟨k3,rfl,rfl,YM⟩
  have qhp3:=YM.lt om
  exact Z8 3 (Yo 3 [] [2,1] [b3,b4] (KJ k3) (Z8 5 (W5 5 [] [] [ZM (Z0.mk 6 3 [Z0.mk 6 2 [],Z0.mk 0 k1 [],Z0.mk 6 2 []]),ZM (Z0.mk 0 k3 []),ZM (Z0.mk 6 2 [])] (Ya [Z0.mk 6 3 [Z0.mk 6 2 [],Z0.mk 0 k1 [],Z0.mk 6 2 []],Z0.mk 0 k3 [],Z0.mk 6 2 []]) (Xp [Z0.mk 6 3 [Z0.mk 6 2 [],Z0.mk 0 k1 [],Z0.mk 6 2 []],Z0.mk 0 k3 [],Z0.mk 6 2 []]).symm 3 3 fun v7=>Yh 2 2 [] [(28,X9 [Z0.mk 6 3 [Z0.mk 6 2 [],Z0.mk 0 k1 [],Z0.mk 6 2 []],Z0.mk 0 k3 [],Z0.mk 6 2 []])] (Z8 6 (Yo 6 [] [] [] (Xs 6 3 [Z0.mk 6 3 [Z0.mk 6 2 [],Z0.mk 0 k1 [],Z0.mk 6 2 []],Z0.mk 0 k3 [],Z0.mk 6 2 []]) (Z8 7 (Yy 7 7 [] [] b1 (YE (Z0.mk 6 3 [Z0.mk 6 3 [Z0.mk 6 2 [],Z0.mk 0 k1 [],Z0.mk 6 2 []],Z0.mk 0 k3 [],Z0.mk 6 2 []])) (de (ZJ (r3 [2] [ZM (Z0.mk 6 3 [Z0.mk 6 3 [Z0.mk 6 2 [],Z0.mk 0 k1 [],Z0.mk 6 2 []],Z0.mk 0 k3 [],Z0.mk 6 2 []])] [0] [(b1,b1)] ⟨(Z0.mk 6 3 [Z0.mk 6 3 [Z0.mk 6 2 [],Z0.mk 0 k1 [],Z0.mk 6 2 []],Z0.mk 0 k3 [],Z0.mk 6 2 []]),(p+1)+1,rfl,rfl,⟨fun g=>SE.three (s1:=4) (s2:=1) (s3:=1) om om (SE.three (s1:=1) (s2:=1) (s3:=1) om om (SE.nil om om om) (SE.int om om) (SE.nil om om om) om) (SE.int om om) (SE.nil om om om) om,by omega⟩⟩ (lr _)))))))))))
 refine ak (Zo 1 [0] (iA [.i 0,.i 0,nl] fun b9=>ZA 0 b9 (YE (Z0.mk 6 0 [])) (ie (X1 1 (ic [4] (XL rd bs p 3 (Zs:=ob)) ?_)))))
 rintro _ _ ⟨k4,rfl,rfl,YZ⟩
 have qhp4:=YZ.lt om
 refine ia ((1+k4)) ((1)+(k4)) (Z1 (ab 0 (Y1 (fun fz gz m F h=>∃(j:Int) (eQ:Z0) (pq:Nat),(0<=j/\j<=3)/\(∀g:XI,SE g (7-2*j.toNat) eQ)/\(p+1<=pq/\pq+4*j.toNat<=p+13)/\F=sF [0,4,8] fz [(9,.i j)]/\h=[Yb rd bs pq,.obj b9 (YE eQ),Za gz 4]/\m=j.toNat) _ _ _ ⟨(1+k4),(Z0.mk 6 0 []),p+1,ob,(fun g=>SE.nil om om om),ob,rfl,rfl,rfl⟩ (wk [0,0,2] fl) ?_)))
 rintro m F h ⟨j,eQ,pq,Yf,Zj,Zp,rfl,rfl,rfl⟩
 refine Xd (ZQ (j>0) (fun Zg=>?_) (fun Zg=>?_))
 ·refine ak (aq (ab 1 (aE 7 (ZG 5 7 [0,3] [1] (Z8 1 (dc 1 [0] [0] [b9] (Ik rd bs pq (Zs:=ob)) ?_))))))
  rintro _ _ ⟨z1,rfl,rfl,X7⟩
  have hz:=X7
  exact Z8 2 (Yo 2 [] [1] [b9] (KJ z1) (Z8 4 (W5 4 [] [] [ZM (Z0.mk 0 z1 []),ZM eQ] (Ya [Z0.mk 0 z1 [],eQ]) (Xp [Z0.mk 0 z1 [],eQ]).symm 2 3 fun v8=>Yh 2 2 [] [(42,X9 [Z0.mk 0 z1 [],eQ])] (Z8 5 (Yo 5 [] [] [] (Xs 6 1 [Z0.mk 0 z1 [],eQ]) (Z8 6 (Yy 6 2 [] [] b9 (YE (Z0.mk 6 1 [Z0.mk 0 z1 [],eQ])) (de (az (Z2 1 (ia ((j-1)) ((j)-(1)) (Z1 (ZI ⟨(j-1),(Z0.mk 6 1 [Z0.mk 0 z1 [],eQ]),pq+4,ob,(fun g=>SE.two om om (SE.int (q:=1) om om) (Zj g) om),ob,rfl,rfl,rfl⟩ (wk [2,0,1] fl))))))))))))))
 exact ax 0 (Zo 1 [1] (ZA 2 b1 (YE eQ) (ie (ZJ (r3 [1] [ZM eQ] [0] [(b1,b1)] ⟨eQ,pq,rfl,rfl,⟨fun g=>(⟨(Zj g).1,by have:=(Zj g).2;omega⟩:SE g 9 _),by omega⟩⟩ (lr _))))))
theorem RH (rd:Nat) (bs:LI) (p:Nat) (g:XI) (gb:Nat) (rs:List Func) (Zs:∀z∈bs,0<=z/\z<=255) (hp:p+1600<=1000000000:=by exact ob) (hg:GP g:=by exact ob) (XV:g.funcs <+: rs:=by exact ob):Zf 227 [.p rd 0,.agg (XW g gb)] [Yb rd bs p,Xq gb rs] (fun r h=>∃(e:Z0) (p2:Nat),r=ZM e/\h=[Yb rd bs p2,Xq gb rs]/\GE g 0 200 e/\p<=p2/\p2<=p+1600):=by
 have hbv:=By
 refine ZD 27 Tryz.func227 (ar (iA (XW g gb) fun b1=>iA [.i 0,.i 0,nl] fun b2=>ie (Yg 1 (iL (Z7 [1,1,3]) 3 1 fun v1=>ZE 0 [(8,Z6 [1,1,3])] (ic [3] (WV rd bs p [1,1,3] (Zs:=ob)) ?_)))))
 rintro _ _ ⟨z1,rfl,rfl,ZX⟩
 have hz:=Jx (a:=1) (b:=3) ZX (by decide)
 refine Z1 (Zo 3 [3] (iL (Z7 [z1]) 1 1 fun v2=>ZE 0 [(13,Z6 [z1])] (ic [1,4] (Ty rd bs (p+1) g gb rs [z1] 0 16 (Zs:=ob) (hv:=(by simp))) ?_)))
 rintro _ _ ⟨e1,p21,rfl,rfl,Yc⟩
 have YY:=Yc.1
 have Tz:=Yc.2
 rw [hbv.2.2.2.1] at YY
 refine iA [.i 0,.i 0,nl] fun b3=>ZA 0 b3 (YE e1) (ie (X1 1 (ic [1] (XL rd bs p21 3 (Zs:=ob)) ?_)))
 rintro _ _ ⟨k1,rfl,rfl,YM⟩
 have qhp3:=YM.lt om
 refine Z1 (XA (fun fz gz F h=>∃(eQ:Z0),(GE g 1 151 eQ)/\F=sF [0,4,5,6] fz []/\h=[Za gz 0,.obj b3 (YE eQ),Za gz 2,Za gz 5]) ?_ ?_)
 ·refine ac (k1==0) ZB (fun Z9=>?_) (fun Z9=>?_)
  ·exact az (ZV 1 [1] (VD [ZM e1] (Ya [e1]) (Xp [e1]).symm 1 3 fun v3=>ZE 0 [(19,X9 [e1])] (Zv [] (Xs 5 0 [e1]) (ZA 2 b3 (YE (Z0.mk 5 0 [e1])) (ie (ZH ⟨(Z0.mk 5 0 [e1]),(GE.one om om YY om),rfl,rfl⟩ (wk [2,0,1,3] fl)))))))
  exact ak (ZH ⟨e1,(GE.le YY om),rfl,rfl⟩ (wk [0,0,0,2] fl))
 rintro F h ⟨eQ,Qh,rfl,rfl⟩
 refine aD 7 (ZG 4 7 [0,1,3] [1] (Z8 2 (dc 2 [0] [0] [b3] (RD rd bs (p21+1) z1 (Zs:=ob)) ?_)))
 rintro _ _ ⟨e2,p22,rfl,rfl,YZ⟩
 have hli:=YZ.1
 exact Z8 4 (W5 4 [] [] [ZM e2,ZM eQ] (Ya [e2,eQ]) (Xp [e2,eQ]).symm 2 3 fun v4=>Yh 2 2 [] [(25,X9 [e2,eQ])] (Z8 5 (Yo 5 [] [] [] (Xs 13 0 [e2,eQ]) (Z8 6 (Yy 6 4 [] [] b2 (YE (Z0.mk 13 0 [e2,eQ])) (de (ZJ (r3 [2,3] [ZM (Z0.mk 13 0 [e2,eQ])] [0] [(b2,b2)] ⟨(Z0.mk 13 0 [e2,eQ]),p22,rfl,rfl,⟨GE.letS ((hli g).ge (YQ _)) Qh om,by omega⟩⟩ (lr _)))))))))
theorem RQ (rd:Nat) (bs:LI) (p:Nat) (g:XI) (gb:Nat) (rs:List Func) (f:Func) (i:Int) (w:Int) (Zs:∀z∈bs,0<=z/\z<=255) (hp:p+1000<=1000000000:=by exact ob) (hg:GP g:=by exact ob) (XV:g.funcs <+: rs:=by exact ob) (hi:0<=i:=by exact ob) (hf:g.funcs[i.toNat]? = some f:=by exact ob) (hw:0<=w/\w<f.params.length:=by exact ob):Zf 228 [.p rd 0,.agg (XW g gb),.i i,.i w] [Yb rd bs p,Xq gb rs] (fun r h=>∃(e:Z0) (p2:Nat),r=ZM e/\h=[Yb rd bs p2,Xq gb rs]/\GE g f.params.length 200 e/\p<=p2/\p2<=p+1000):=by
 obtain ⟨hil,_⟩:=XC.1 hf
 have hgl:=hg.len
 have hso:=(hg.sigs f (ZW hf)).bd
 have hbv:=By
 refine ZD 136 Tryz.func228 (ar (iA (XW g gb) fun b1=>iA [.i 0,.i 0,nl] fun b2=>ie (Zo 3 [1] (Zm (XS gb g.funcs.length 4 i.toNat 5 i) (Z2 1 (Vl (WC 3 gb 4 4 5 (i.toNat * 5+0) (Zb (X3 rs)) [Z6 f.params] 31 (Z6 f.params) (VC XV hf 0 rfl (Wv rfl))) (Z1 (Yg 1 (iw (Ye f.params) (Z1 (Yg 1 (iL (Z7 [0,1]) 2 1 fun v1=>ZE 0 [(26,Z6 [0,1])] (ic [] (TG f.params [0,1]) ?_)))))))))))))
 rintro _ _ ⟨v2,rfl,rfl⟩
 refine Z1 (ar (iL (Ya []) 0 3 fun v3=>?_))
 refine Z1 (Y0 (ab 0 (Y1 (fun fz gz m F h=>∃(k:Nat) (ys:List Z0) (u:Value) (pq:Nat),(k<=f.params.length)/\(ys.length=k)/\(∀e∈ys,GE g (f.params.length+2) 3 e)/\(p<=pq/\pq<=p+k)/\F=sF [0,2,3,5,8,9,10] fz [(11,Z6 (f.params++[0,1])),(12,Th ys u),(13,.i k)]/\h=[Za gz 3,Za gz 4,Yb rd bs pq,Za gz 6,.tail u 3]/\m=f.params.length-k) _ _ _ ⟨0,[],v3,p,ob,ob,(fun e he=>by cases he),ob,rfl,rfl,rfl⟩ (wk [3,3,3,3,0] (fc (x:=ZO (f.params++[0,1]) v2) (Zd.forget _ _) (fr (Yd fl)))) ?_)))
 rintro m F h ⟨k,ys,u,pq,Yf,Zj,Zp,YA,rfl,rfl,rfl⟩
 refine Xd (ZQ ((k:Int)<(f.params.length:Int)) (fun Z9=>?_) (fun Z9=>?_))
 ·refine ak (aq (ab 1 (ar (YR ((k:Int)==w) ZB (fun Zg=>?_) (fun Zg=>?_)))))
  ·exact az (Z2 2 (ia (((f.params.length+1:Nat):Int)) (((f.params.length:Int))+(1)) (Zv [] (UR ((f.params.length+1:Nat):Int)) (VD [ZM (Z0.mk 12 ((f.params.length+1:Nat):Int) [])] (Ya [(Z0.mk 12 ((f.params.length+1:Nat):Int) [])]) (Xp [(Z0.mk 12 ((f.params.length+1:Nat):Int) [])]).symm 1 3 fun v4=>ZE 0 [(41,X9 [(Z0.mk 12 ((f.params.length+1:Nat):Int) [])])] (ip 5 (Ya (ys++[(Z0.mk 12 ((f.params.length+1:Nat):Int) [])])) (Ya ys) (Ya [(Z0.mk 12 ((f.params.length+1:Nat):Int) [])]) u none 3 (U0 _) (U0 _) (QX _) (by simp<;>omega) (by simp [QW,Ya]) fun v5=>Z1 (az (Z2 1 (ZF k (Z1 (ZI ⟨k+1,(ys++[(Z0.mk 12 ((f.params.length+1:Nat):Int) [])]),v5,pq,ob,ob,(Xb Zp (GE.var om om om)),ob,rfl,rfl,rfl⟩ (wk [2,2,2,2,0] (fw (ZL k fl)))))))))))))
  refine aq (XA (fun fz gz F h=>∃(wb:Bool) (p5:Nat),(pq<=p5/\p5<=pq+1)/\F=sF [0,2,3,5,8,9,10,11,12,13] fz [(52,.b wb)]/\h=[Za gz 0,Za gz 1,Yb rd bs p5,Za gz 3,Za gz 4]) ?_ ?_)
  ·refine az (Z2 2 ?_)
   obtain ⟨x1,Z5⟩:=Zq f.params k om
   refine Zm (Zh none (k:Int) 1 (ZZ Z5)) (Z2 3 (ib (b:=(x1==0)) 48 (fun Ze=>?_) (fun Ze=>?_)))
   ·refine Z2 1 (ic [2] (XL rd bs pq 2 (Zs:=ob)) ?_)
    rintro _ _ ⟨k1,rfl,rfl,Yc⟩
    have qhp2:=Yc.lt om
    exact Z1 (ZH ⟨(k1==0),pq+1,om,rfl,rfl⟩ (wk [1,1,0,0,0] fl))
   exact Z1 (ZH ⟨false,pq,ob,rfl,rfl⟩ (ZT 5 fl))
  rintro F h ⟨wb,p5,kR10_0,rfl,rfl⟩
  refine ac wb Iff.rfl (fun ZK=>?_) (fun ZK=>?_)
  ·exact az (Z2 2 (Zv [] (UR (k:Int)) (Z2 1 (Zv [] (UR (f.params.length:Int)) (VD [ZM (Z0.mk 12 (k:Int) []),ZM (Z0.mk 12 (f.params.length:Int) [])] (Ya [(Z0.mk 12 (k:Int) []),(Z0.mk 12 (f.params.length:Int) [])]) (Xp [(Z0.mk 12 (k:Int) []),(Z0.mk 12 (f.params.length:Int) [])]).symm 2 3 fun v6=>ZE 0 [(58,X9 [(Z0.mk 12 (k:Int) []),(Z0.mk 12 (f.params.length:Int) [])])] (Zv [] (Xs 1 0 [(Z0.mk 12 (k:Int) []),(Z0.mk 12 (f.params.length:Int) [])]) (VD [ZM (Z0.mk 1 0 [(Z0.mk 12 (k:Int) []),(Z0.mk 12 (f.params.length:Int) [])])] (Ya [(Z0.mk 1 0 [(Z0.mk 12 (k:Int) []),(Z0.mk 12 (f.params.length:Int) [])])]) (Xp [(Z0.mk 1 0 [(Z0.mk 12 (k:Int) []),(Z0.mk 12 (f.params.length:Int) [])])]).symm 1 3 fun v7=>ZE 0 [(60,X9 [(Z0.mk 1 0 [(Z0.mk 12 (k:Int) []),(Z0.mk 12 (f.params.length:Int) [])])])] (ip 6 (Ya (ys++[(Z0.mk 1 0 [(Z0.mk 12 (k:Int) []),(Z0.mk 12 (f.params.length:Int) [])])])) (Ya ys) (Ya [(Z0.mk 1 0 [(Z0.mk 12 (k:Int) []),(Z0.mk 12 (f.params.length:Int) [])])]) u none 3 (U0 _) (U0 _) (QX _) (by simp<;>omega) (by simp [QW,Ya]) fun v8=>Z1 (az (Z2 1 (ZF k (Z1 (ZI ⟨k+1,(ys++[(Z0.mk 1 0 [(Z0.mk 12 (k:Int) []),(Z0.mk 12 (f.params.length:Int) [])])]),v8,p5,ob,ob,(Xb Zp (GE.two (s1:=1) (s2:=1) om om (GE.var om om om) (GE.var om om om) om)),ob,rfl,rfl,rfl⟩ (wk [3,3,3,3,0] (fw (ZL k fl))))))))))))))))
  exact az (Z2 2 (Zv [] (UR (k:Int)) (VD [ZM (Z0.mk 12 (k:Int) [])] (Ya [(Z0.mk 12 (k:Int) [])]) (Xp [(Z0.mk 12 (k:Int) [])]).symm 1 3 fun v9=>ZE 0 [(65,X9 [(Z0.mk 12 (k:Int) [])])] (ip 5 (Ya (ys++[(Z0.mk 12 (k:Int) [])])) (Ya ys) (Ya [(Z0.mk 12 (k:Int) [])]) u none 3 (U0 _) (U0 _) (QX _) (by simp<;>omega) (by simp [QW,Ya]) fun v10=>Z1 (az (Z2 1 (ZF k (Z1 (ZI ⟨k+1,(ys++[(Z0.mk 12 (k:Int) [])]),v10,p5,ob,ob,(Xb Zp (GE.var om om om)),ob,rfl,rfl,rfl⟩ (wk [2,2,2,2,0] (fw (ZL k fl))))))))))))
 refine ax 0 (ar (ZE 2 [(68,X9 ys)] (Zv [] (Xs 9 i ys) (iA [.i 0,.i 0,nl] fun b3=>ZA 0 b3 (YE (Z0.mk 9 i ys)) (ie (Zo 1 [0] (iA [.i 0,.i 0,nl] fun b4=>?_)))))))
 refine ZA 0 b4 (YE (Z0.mk 9 i ys)) (ie (aq (aq (XA (fun fz gz F h=>∃(wb:Bool) (p5:Nat),(pq<=p5/\p5<=pq+1)/\F=sF [0,2,3,5,8,9,10,11,14,15] fz [(82,.b wb)]/\h=[Za gz 0,Za gz 1,Za gz 2,Za gz 3,Yb rd bs p5,Za gz 5]) ?_ ?_))))
 ·refine az (ZV 3 [3] (Zm (XS gb g.funcs.length 4 i.toNat 5 i) (Z2 1 (Vl (WC 5 gb 4 4 5 (i.toNat * 5+1) (Zb (X3 rs)) [.i f.result] 3 (.i f.result) (VC XV hf 1 rfl (Wv rfl))) (Z2 2 (ib (b:=(f.result==1)) 78 (fun ZU=>?_) (fun ZU=>?_)))))))
  ·refine Z2 1 (ic [4] (XL rd bs pq 5 (Zs:=ob)) ?_)
   rintro _ _ ⟨k2,rfl,rfl,X7⟩
   have qhp5:=X7.lt om
   exact Z1 (ZH ⟨(decide (k2>0)),pq+1,ob,rfl,rfl⟩ (wk [1,1,1,1,0,0] fl))
  exact Z1 (ZH ⟨false,pq,ob,rfl,rfl⟩ (ZT 6 fl))
 rintro F h ⟨wb,p5,kR15_0,rfl,rfl⟩
 refine XA (fun fz gz F h=>∃(eQ:Z0) (p6:Nat),(GE g (f.params.length+2) 41 eQ)/\(p5<=p6/\p6<=p5+302)/\F=sF [0,2,3,5,8,9,15] fz []/\h=[.obj b4 (YE eQ),Za gz 2,Za gz 3,Yb rd bs p6,Za gz 5]) ?_ ?_
 ·refine ac wb Iff.rfl (fun Yt=>?_) (fun Yt=>?_)
  ·refine Zo 3 [3] (ic [4,4] (Ty rd bs p5 g gb rs (f.params++[0,1]) 0 4 (Zs:=ob) (hv:=(by first|omega|(simp only [Yk,YD,X6];omega)))) ?_)
   rintro _ _ ⟨e1,p21,rfl,rfl,Wu⟩
   have YY:=Wu.1
   have Tz:=Wu.2
   try rw [Yk] at YY
   rw [hbv.2.1] at YY
   refine iA [.i 0,.i 0,nl] fun b5=>?_
   refine ZA 0 b5 (YE e1) (ie (aq (aq (XA (fun fz gz F h=>∃(wc:Bool),(True)/\F=sF [0,2,3,5,8,9,10,14,15,16] fz [(94,.b wc)]/\h=gz) ?_ ?_))))
   ·refine az (Z2 3 (ib (b:=(decide ((f.params.length:Int)>1))) 89 (fun X4=>?_) (fun X4=>?_)))
    ·refine Z2 1 ?_
     obtain ⟨x2,Zu⟩:=Zq f.params 0 om
     exact Zm (Zh none 0 1 (ZZ Zu)) (Z1 (ZH ⟨(x2==2),ob,rfl,rfl⟩ (ZT 7 fl)))
    exact Z1 (ZH ⟨false,ob,rfl,rfl⟩ (ZT 7 fl))
   rintro F h ⟨wc,kR17_0,rfl,rfl⟩
   refine XA (fun fz gz F h=>∃(eA:Z0),(GE g (f.params.length+2) 30 eA)/\F=sF [0,2,3,5,8,9,14,15,16] fz []/\h=[.obj b5 (YE eA),Za gz 1,Za gz 2,Za gz 3,Za gz 4,Za gz 5,Za gz 6]) ?_ ?_
   ·refine ac wc Iff.rfl (fun XG=>?_) (fun XG=>?_)
    ·exact az (Zv [] (UR 0) (Z2 1 (Zv [] (UR (f.params.length:Int)) (VD [ZM (Z0.mk 12 0 []),ZM (Z0.mk 12 (f.params.length:Int) [])] (Ya [Z0.mk 12 0 [],(Z0.mk 12 (f.params.length:Int) [])]) (Xp [Z0.mk 12 0 [],(Z0.mk 12 (f.params.length:Int) [])]).symm 2 3 fun v11=>ZE 0 [(98,X9 [Z0.mk 12 0 [],(Z0.mk 12 (f.params.length:Int) [])])] (Zv [] (Xs 11 0 [Z0.mk 12 0 [],(Z0.mk 12 (f.params.length:Int) [])]) (ZA 1 b5 (YE (Z0.mk 11 0 [Z0.mk 12 0 [],(Z0.mk 12 (f.params.length:Int) [])])) (ie (ZH ⟨(Z0.mk 11 0 [Z0.mk 12 0 [],(Z0.mk 12 (f.params.length:Int) [])]),(GE.two (s1:=1) (s2:=1) om om (GE.var om om om) (GE.var om om om) om),rfl,rfl⟩ (wk [0,1,1,1,1,1,1] fl)))))))))
    exact ak (ZH ⟨e1,YY,rfl,rfl⟩ (ZT 7 fl))
   rintro F h ⟨eA,SP,rfl,rfl⟩
   exact az (ZV 2 [0,4] (VD [ZM eA,ZM (Z0.mk 9 i ys)] (Ya [eA,Z0.mk 9 i ys]) (Xp [eA,Z0.mk 9 i ys]).symm 2 3 fun v12=>ZE 0 [(102,X9 [eA,Z0.mk 9 i ys])] (Zv [] (Xs 6 1 [eA,Z0.mk 9 i ys]) (ZA 4 b4 (YE (Z0.mk 6 1 [eA,Z0.mk 9 i ys])) (ie (ZH ⟨(Z0.mk 6 1 [eA,Z0.mk 9 i ys]),p21,(GE.two (s1:=30) (s2:=10) om om SP (GE.node (L:=f.params.length) (s:=3) (q:=10) om (fun _=>by omega) om Zp om om om) om),ob,rfl,rfl⟩ (wk [0,5,5,2,2] fl)))))))
  refine Zo 3 [3] (Zm (XS gb g.funcs.length 4 i.toNat 5 i) (Z2 1 (Vl (WC 5 gb 4 4 5 (i.toNat * 5+1) (Zb (X3 rs)) [.i f.result] 3 (.i f.result) (VC XV hf 1 rfl (Wv rfl))) (YR (f.result==0) ZB (fun XH=>?_) (fun XH=>?_)))))
  ·refine aE 11 (ZG 6 11 [0,3,4,5,7] [3,1] (Z8 1 (dL 1 [1,3] [b3,b1] (Z7 [1,2]) 2 1 fun v13=>Yh 5 5 [] [(112,Z6 [1,2])] (Z8 2 (dc 2 [5] [1,3] [b3,b1] (WV rd bs p5 [1,2] (Zs:=ob)) ?_)))))
   rintro _ _ ⟨z1,rfl,rfl,UT⟩
   have hz:=Jx (a:=1) (b:=2) UT (by decide)
   refine Z8 6 (dc 6 [0,5] [1] [b3] (Ty rd bs (p5+1) g gb rs (f.params++[0,1]) 0 4 (Zs:=ob) (hv:=(by first|omega|(simp only [Yk,YD,X6];omega)))) ?_)
   rintro _ _ ⟨e2,p22,rfl,rfl,UU⟩
   have YY:=UU.1
   have Tz:=UU.2
   try rw [Yk] at YY
   rw [hbv.2.1] at YY
   exact Z8 8 (W5 8 [] [] [ZM e2,ZM (Z0.mk 9 i ys)] (Ya [e2,Z0.mk 9 i ys]) (Xp [e2,Z0.mk 9 i ys]).symm 2 3 fun v14=>Yh 2 2 [] [(119,X9 [e2,Z0.mk 9 i ys])] (Z8 9 (Yo 9 [] [] [] (Xs z1 0 [e2,Z0.mk 9 i ys]) (Z8 10 (Yy 10 4 [] [] b4 (YE (Z0.mk z1 0 [e2,Z0.mk 9 i ys])) (de (ZH ⟨(Z0.mk z1 0 [e2,Z0.mk 9 i ys]),p22,(GE.two (s1:=30) (s2:=10) om om YY (GE.node (L:=f.params.length) (s:=3) (q:=10) om (fun _=>by omega) om Zp om om om) om),ob,rfl,rfl⟩ (wk [0,5,5,1,1] fl))))))))
  exact ak (ZH ⟨(Z0.mk 9 i ys),p5,(GE.le (GE.node (L:=f.params.length) (s:=3) (q:=10) om (fun _=>by omega) om Zp om om om) om),ob,rfl,rfl⟩ (wk [0,1,1,1,1] fl))
 rintro F h ⟨eQ,p6,TA,SO,rfl,rfl⟩
 refine aD 16 (ZG 9 16 [0,2,3,4,5,6,7] [2,2] (dx 8 (XS gb g.funcs.length 4 i.toNat 5 i) (Zk 7 8 [9] (Vt 10 (WC 4 gb 4 4 5 (i.toNat * 5+1) (Zb (X3 rs)) [.i f.result] 3 (.i f.result) (VC XV hf 1 rfl (Wv rfl))) (ZG 5 6 [12] [0] (Z8 1 (Yo 1 [] [0,4,2,2] [b4,gb,b1,b1] (UR w) (Z8 11 (dc 11 [3,3] [0] [b4] (Ty rd bs p6 g gb rs f.params f.result 4 (Zs:=ob) (hv:=(by first|omega|(simp only [Yk,YD,X6];omega)))) ?_)))))))))
 rintro _ _ ⟨e3,p23,rfl,rfl,UV⟩
 have YY:=UV.1
 have Tz:=UV.2
 try rw [Yk] at YY
 rw [hbv.2.1] at YY
 exact Z8 13 (W5 13 [] [] [ZM (Z0.mk 12 w []),ZM e3,ZM eQ] (Ya [Z0.mk 12 w [],e3,eQ]) (Xp [Z0.mk 12 w [],e3,eQ]).symm 3 3 fun v15=>Yh 2 2 [] [(134,X9 [Z0.mk 12 w [],e3,eQ])] (Z8 14 (Yo 14 [] [] [] (Xs 8 1 [Z0.mk 12 w [],e3,eQ]) (Z8 15 (Yy 15 4 [] [] b2 (YE (Z0.mk 8 1 [Z0.mk 12 w [],e3,eQ])) (de (ZJ (r3 [2,2] [ZM (Z0.mk 8 1 [Z0.mk 12 w [],e3,eQ])] [0] [(b2,b2)] ⟨(Z0.mk 8 1 [Z0.mk 12 w [],e3,eQ]),p23,rfl,rfl,⟨GE.matchL hg (s1:=1) (s2:=30) (s3:=41) (GE.var om om om) YY TA om,by omega⟩⟩ (lr _)))))))))
theorem RR (rd:Nat) (bs:LI) (p:Nat) (g:XI) (gb:Nat) (rs:List Func) (f:Func) (i:Int) (Zs:∀z∈bs,0<=z/\z<=255) (hp:p+1000<=1000000000:=by exact ob) (hg:GP g:=by exact ob) (XV:g.funcs <+: rs:=by exact ob) (hi:0<=i:=by exact ob) (hf:g.funcs[i.toNat]? = some f:=by exact ob) (h0:0<f.params.length:=by exact ob):Zf 229 [.p rd 0,.agg (XW g gb),.i i] [Yb rd bs p,Xq gb rs] (fun r h=>∃(e:Z0) (p2:Nat),r=ZM e/\h=[Yb rd bs p2,Xq gb rs]/\GE g f.params.length 200 e/\p<=p2/\p2<=p+1000):=by
 obtain ⟨hil,_⟩:=XC.1 hf
 have hgl:=hg.len
 have hso:=(hg.sigs f (ZW hf)).bd
 have hbv:=By
 refine ZD 96 Tryz.func229 (ar (iA (XW g gb) fun b1=>iA [.i 0,.i 0,nl] fun b2=>ie (Zo 3 [1] (Zm (XS gb g.funcs.length 4 i.toNat 5 i) (Z2 1 (Vl (WC 3 gb 4 4 5 (i.toNat * 5+0) (Zb (X3 rs)) [Z6 f.params] 31 (Z6 f.params) (VC XV hf 0 rfl (Wv rfl))) (Z1 (Yg 1 (iw (Ye f.params) (Z1 (Yg 1 (Zv [] (UR (f.params.length:Int)) (VD [ZM (Z0.mk 12 (f.params.length:Int) [])] (Ya [(Z0.mk 12 (f.params.length:Int) [])]) (Xp [(Z0.mk 12 (f.params.length:Int) [])]).symm 1 3 fun v1=>Z1 (Yg 1 (ia (((f.params.length+2:Nat):Int)) (((f.params.length:Int))+(2)) (Zv [] (UR ((f.params.length+2:Nat):Int)) (VD [ZM (Z0.mk 12 ((f.params.length+2:Nat):Int) [])] (Ya [(Z0.mk 12 ((f.params.length+2:Nat):Int) [])]) (Xp [(Z0.mk 12 ((f.params.length+2:Nat):Int) [])]).symm 1 3 fun v2=>?_)))))))))))))))))
 refine Z1 (Y0 (ab 0 (Y1 (fun fz gz m F h=>∃(k:Nat) (ys:List Z0) (u:Value) (zs:List Z0) (w:Value),(1<=k/\k<=f.params.length)/\(ys.length=k)/\(zs.length=k)/\(∀e∈ys,GE g (f.params.length+3) 1 e)/\(∀e∈zs,GE g (f.params.length+3) 1 e)/\F=sF [0,2,4,6,7,8] fz [(9,Th ys u),(10,Th zs w),(11,.i k)]/\h=[Za gz 2,Za gz 3,Za gz 4,Za gz 5,.tail u 3,.tail w 3]/\m=f.params.length-k) _ _ _ ⟨1,[(Z0.mk 12 (f.params.length:Int) [])],v1,[(Z0.mk 12 ((f.params.length+2:Nat):Int) [])],v2,ob,ob,ob,(Er (GE.var om om om)),(Er (GE.var om om om)),rfl,rfl,rfl⟩ (wk [2,2,2,2,1,0] (fw (fc (x:=.i 1) li fl))) ?_)))
 rintro m F h ⟨k,ys,u,zs,w,Yf,Zj,Zp,YA,XZ,rfl,rfl,rfl⟩
 refine Xd (ZQ ((k:Int)<(f.params.length:Int)) (fun Z9=>?_) (fun Z9=>?_))
 ·exact ak (aq (ab 1 (Yg 2 (Zv [] (UR (k:Int)) (VD [ZM (Z0.mk 12 (k:Int) [])] (Ya [(Z0.mk 12 (k:Int) [])]) (Xp [(Z0.mk 12 (k:Int) [])]).symm 1 3 fun v3=>ZE 0 [(38,X9 [(Z0.mk 12 (k:Int) [])])] (ip 5 (Ya (ys++[(Z0.mk 12 (k:Int) [])])) (Ya ys) (Ya [(Z0.mk 12 (k:Int) [])]) u none 3 (U0 _) (U0 _) (QX _) (by simp<;>omega) (by simp [QW,Ya]) fun v4=>Z1 (az (Z2 2 (Zv [] (UR (k:Int)) (VD [ZM (Z0.mk 12 (k:Int) [])] (Ya [(Z0.mk 12 (k:Int) [])]) (Xp [(Z0.mk 12 (k:Int) [])]).symm 1 3 fun v5=>ZE 0 [(43,X9 [(Z0.mk 12 (k:Int) [])])] (ip 7 (Ya (zs++[(Z0.mk 12 (k:Int) [])])) (Ya zs) (Ya [(Z0.mk 12 (k:Int) [])]) w none 3 (U0 _) (U0 _) (QX _) (by simp<;>omega) (by simp [QW,Ya]) fun v6=>Z1 (az (Z2 1 (ZF k (Z1 (ZI ⟨k+1,(ys++[(Z0.mk 12 (k:Int) [])]),v4,(zs++[(Z0.mk 12 (k:Int) [])]),v6,ob,ob,ob,(Xb YA (GE.var om om om)),(Xb XZ (GE.var om om om)),rfl,rfl,rfl⟩ (wk [4,4,4,4,2,0] (fw (ZL k fl)))))))))))))))))))
 refine ax 0 (ar (ZE 2 [(46,X9 ys)] (Zv [] (Xs 9 i ys) (iA [.i 0,.i 0,nl] fun b3=>ZA 0 b3 (YE (Z0.mk 9 i ys)) (ie (ar (ZE 2 [(49,X9 zs)] (Zv [] (Xs 9 i zs) (iA [.i 0,.i 0,nl] fun b4=>?_)))))))))
 refine ZA 0 b4 (YE (Z0.mk 9 i zs)) (ie (aD 14 (ZG 9 14 [0,1,2,3,7] [1,3,0] (Kx (fun fz gz F h=>∃(e1:Z0) (p21:Nat) (b5:Nat),(GE g (f.params++[3,0,3]).length (bS 4) e1/\p<=p21/\p21<=p+bC 4)/\F=sF [0,2,4,6,7,8,12] fz [(14,.p b5 0)]/\h=[.obj b5 (YE (Z0.mk 1 0 [Z0.mk 9 i ys,Z0.mk 1 0 [e1,Z0.mk 9 i zs]])),Yb rd bs p21,Za gz 5,Za gz 0,Za gz 1,Za gz 2,Za gz 3,Za gz 6,Za gz 7]) ?_ ?_))))
 ·refine WT 4 12 ?_ ?_
  ·refine dL 4 [0,3,1] [b4,b1,b3] (Z7 [3,0,3]) 3 1 fun v7=>Yh 8 8 [] [(55,Z6 [3,0,3])] (WT 5 12 ?_ ?_)
   ·refine dc 5 [] [0,3,1] [b4,b1,b3] (TG f.params [3,0,3]) ?_
    rintro _ _ ⟨v8,rfl,rfl⟩
    refine Yh 7 7 [] [(56,Z6 (f.params++[3,0,3]))] (WT 6 12 ?_ ?_)
    ·refine dc 6 [6,6] [0,1] [b4,b3] (Ty rd bs p g gb rs (f.params++[3,0,3]) 0 4 (Zs:=ob) (hv:=(by first|omega|(simp only [Yk,YD,X6];omega)))) ?_
     rintro _ _ ⟨e1,p21,rfl,rfl,ZX⟩
     have YY:=ZX.1
     have Tz:=ZX.2
     try rw [Yk] at YY
     rw [hbv.2.1] at YY
     refine WT 8 12 ?_ ?_
     ·refine W5 8 [3] [b3] [ZM e1,ZM (Z0.mk 9 i zs)] (Ya [e1,Z0.mk 9 i zs]) (Xp [e1,Z0.mk 9 i zs]).symm 2 3 fun v9=>Yh 5 5 [] [(59,X9 [e1,Z0.mk 9 i zs])] (WT 9 12 ?_ ?_)
      ·refine Yo 9 [] [3] [b3] (Xs 1 0 [e1,Z0.mk 9 i zs]) (WT 10 12 ?_ ?_)
       ·refine W5 10 [] [] [ZM (Z0.mk 9 i ys),ZM (Z0.mk 1 0 [e1,Z0.mk 9 i zs])] (Ya [Z0.mk 9 i ys,Z0.mk 1 0 [e1,Z0.mk 9 i zs]]) (Xp [Z0.mk 9 i ys,Z0.mk 1 0 [e1,Z0.mk 9 i zs]]).symm 2 3 fun v10=>Yh 3 3 [] [(61,X9 [Z0.mk 9 i ys,Z0.mk 1 0 [e1,Z0.mk 9 i zs]])] (WT 11 12 ?_ ?_)
        ·exact Yo 11 [] [] [] (Xs 1 0 [Z0.mk 9 i ys,Z0.mk 1 0 [e1,Z0.mk 9 i zs]]) (Z8 12 (dA 12 [] [] [.i 0,.i 0,nl] fun b5=>Z8 13 (Yy 13 0 [] [] b5 (YE (Z0.mk 1 0 [Z0.mk 9 i ys,Z0.mk 1 0 [e1,Z0.mk 9 i zs]])) (de (ZH ⟨e1,p21,b5,(by assumption),rfl,rfl⟩ (wk [0,2,2,4,4,4,4,4,4] fl))))))
        exact dA 12 [] [] [.i 0,.i 0,nl] fun b6=>Z8 11 (Yo 11 [] [] [] (Xs 1 0 [Z0.mk 9 i ys,Z0.mk 1 0 [e1,Z0.mk 9 i zs]]) (Z8 13 (Yy 13 0 [] [] b6 (YE (Z0.mk 1 0 [Z0.mk 9 i ys,Z0.mk 1 0 [e1,Z0.mk 9 i zs]])) (de (ZH ⟨e1,p21,b6,(by assumption),rfl,rfl⟩ (wk [0,2,2,4,4,4,4,4,4] fl))))))
       exact dA 12 [3] [b3] [.i 0,.i 0,nl] fun b7=>Z8 10 (W5 10 [] [] [ZM (Z0.mk 9 i ys),ZM (Z0.mk 1 0 [e1,Z0.mk 9 i zs])] (Ya [Z0.mk 9 i ys,Z0.mk 1 0 [e1,Z0.mk 9 i zs]]) (Xp [Z0.mk 9 i ys,Z0.mk 1 0 [e1,Z0.mk 9 i zs]]).symm 2 3 fun v11=>Yh 2 2 [] [(61,X9 [Z0.mk 9 i ys,Z0.mk 1 0 [e1,Z0.mk 9 i zs]])] (Z8 11 (Yo 11 [] [] [] (Xs 1 0 [Z0.mk 9 i ys,Z0.mk 1 0 [e1,Z0.mk 9 i zs]]) (Z8 13 (Yy 13 1 [] [] b7 (YE (Z0.mk 1 0 [Z0.mk 9 i ys,Z0.mk 1 0 [e1,Z0.mk 9 i zs]])) (de (ZH ⟨e1,p21,b7,(by assumption),rfl,rfl⟩ (wk [0,2,2,4,4,4,4,4,4] fl))))))))
      exact dA 12 [3] [b3] [.i 0,.i 0,nl] fun b8=>Z8 9 (Yo 9 [] [4] [b3] (Xs 1 0 [e1,Z0.mk 9 i zs]) (Z8 10 (W5 10 [] [] [ZM (Z0.mk 9 i ys),ZM (Z0.mk 1 0 [e1,Z0.mk 9 i zs])] (Ya [Z0.mk 9 i ys,Z0.mk 1 0 [e1,Z0.mk 9 i zs]]) (Xp [Z0.mk 9 i ys,Z0.mk 1 0 [e1,Z0.mk 9 i zs]]).symm 2 3 fun v12=>Yh 2 2 [] [(61,X9 [Z0.mk 9 i ys,Z0.mk 1 0 [e1,Z0.mk 9 i zs]])] (Z8 11 (Yo 11 [] [] [] (Xs 1 0 [Z0.mk 9 i ys,Z0.mk 1 0 [e1,Z0.mk 9 i zs]]) (Z8 13 (Yy 13 1 [] [] b8 (YE (Z0.mk 1 0 [Z0.mk 9 i ys,Z0.mk 1 0 [e1,Z0.mk 9 i zs]])) (de (ZH ⟨e1,p21,b8,(by assumption),rfl,rfl⟩ (wk [0,2,2,4,4,4,4,4,4] fl))))))))))
     exact dA 12 [2,3] [b4,b3] [.i 0,.i 0,nl] fun b9=>Z8 8 (W5 8 [4] [b3] [ZM e1,ZM (Z0.mk 9 i zs)] (Ya [e1,Z0.mk 9 i zs]) (Xp [e1,Z0.mk 9 i zs]).symm 2 3 fun v13=>Yh 4 4 [] [(59,X9 [e1,Z0.mk 9 i zs])] (Z8 9 (Yo 9 [] [4] [b3] (Xs 1 0 [e1,Z0.mk 9 i zs]) (Z8 10 (W5 10 [] [] [ZM (Z0.mk 9 i ys),ZM (Z0.mk 1 0 [e1,Z0.mk 9 i zs])] (Ya [Z0.mk 9 i ys,Z0.mk 1 0 [e1,Z0.mk 9 i zs]]) (Xp [Z0.mk 9 i ys,Z0.mk 1 0 [e1,Z0.mk 9 i zs]]).symm 2 3 fun v14=>Yh 2 2 [] [(61,X9 [Z0.mk 9 i ys,Z0.mk 1 0 [e1,Z0.mk 9 i zs]])] (Z8 11 (Yo 11 [] [] [] (Xs 1 0 [Z0.mk 9 i ys,Z0.mk 1 0 [e1,Z0.mk 9 i zs]]) (Z8 13 (Yy 13 2 [] [] b9 (YE (Z0.mk 1 0 [Z0.mk 9 i ys,Z0.mk 1 0 [e1,Z0.mk 9 i zs]])) (de (ZH ⟨e1,p21,b9,(by assumption),rfl,rfl⟩ (wk [0,2,2,4,4,4,4,4,4] fl))))))))))))
    refine dA 12 [0,3,1] [b4,b1,b3] [.i 0,.i 0,nl] fun b10=>Z8 6 (dc 6 [7,7] [1,2] [b4,b3] (Ty rd bs p g gb rs (f.params++[3,0,3]) 0 4 (Zs:=ob) (hv:=(by first|omega|(simp only [Yk,YD,X6];omega)))) ?_)
    rintro _ _ ⟨e2,p22,rfl,rfl,Yc⟩
    have YY:=Yc.1
    have Tz:=Yc.2
    try rw [Yk] at YY
    rw [hbv.2.1] at YY
    exact Z8 8 (W5 8 [4] [b3] [ZM e2,ZM (Z0.mk 9 i zs)] (Ya [e2,Z0.mk 9 i zs]) (Xp [e2,Z0.mk 9 i zs]).symm 2 3 fun v15=>Yh 4 4 [] [(59,X9 [e2,Z0.mk 9 i zs])] (Z8 9 (Yo 9 [] [4] [b3] (Xs 1 0 [e2,Z0.mk 9 i zs]) (Z8 10 (W5 10 [] [] [ZM (Z0.mk 9 i ys),ZM (Z0.mk 1 0 [e2,Z0.mk 9 i zs])] (Ya [Z0.mk 9 i ys,Z0.mk 1 0 [e2,Z0.mk 9 i zs]]) (Xp [Z0.mk 9 i ys,Z0.mk 1 0 [e2,Z0.mk 9 i zs]]).symm 2 3 fun v16=>Yh 2 2 [] [(61,X9 [Z0.mk 9 i ys,Z0.mk 1 0 [e2,Z0.mk 9 i zs]])] (Z8 11 (Yo 11 [] [] [] (Xs 1 0 [Z0.mk 9 i ys,Z0.mk 1 0 [e2,Z0.mk 9 i zs]]) (Z8 13 (Yy 13 4 [] [] b10 (YE (Z0.mk 1 0 [Z0.mk 9 i ys,Z0.mk 1 0 [e2,Z0.mk 9 i zs]])) (de (ZH ⟨e2,p22,b10,(by assumption),rfl,rfl⟩ (wk [0,2,2,4,4,4,4,4,4] fl))))))))))))
   refine dA 12 [0,3,1] [b4,b1,b3] [.i 0,.i 0,nl] fun b11=>Z8 5 (dc 5 [] [1,4,2] [b4,b1,b3] (TG f.params [3,0,3]) ?_)
   rintro _ _ ⟨v17,rfl,rfl⟩
   refine Yh 6 6 [] [(56,Z6 (f.params++[3,0,3]))] (Z8 6 (dc 6 [7,7] [1,2] [b4,b3] (Ty rd bs p g gb rs (f.params++[3,0,3]) 0 4 (Zs:=ob) (hv:=(by first|omega|(simp only [Yk,YD,X6];omega)))) ?_))
   rintro _ _ ⟨e3,p23,rfl,rfl,YM⟩
   have YY:=YM.1
   have Tz:=YM.2
   try rw [Yk] at YY
   rw [hbv.2.1] at YY
   exact Z8 8 (W5 8 [4] [b3] [ZM e3,ZM (Z0.mk 9 i zs)] (Ya [e3,Z0.mk 9 i zs]) (Xp [e3,Z0.mk 9 i zs]).symm 2 3 fun v18=>Yh 4 4 [] [(59,X9 [e3,Z0.mk 9 i zs])] (Z8 9 (Yo 9 [] [4] [b3] (Xs 1 0 [e3,Z0.mk 9 i zs]) (Z8 10 (W5 10 [] [] [ZM (Z0.mk 9 i ys),ZM (Z0.mk 1 0 [e3,Z0.mk 9 i zs])] (Ya [Z0.mk 9 i ys,Z0.mk 1 0 [e3,Z0.mk 9 i zs]]) (Xp [Z0.mk 9 i ys,Z0.mk 1 0 [e3,Z0.mk 9 i zs]]).symm 2 3 fun v19=>Yh 2 2 [] [(61,X9 [Z0.mk 9 i ys,Z0.mk 1 0 [e3,Z0.mk 9 i zs]])] (Z8 11 (Yo 11 [] [] [] (Xs 1 0 [Z0.mk 9 i ys,Z0.mk 1 0 [e3,Z0.mk 9 i zs]]) (Z8 13 (Yy 13 5 [] [] b11 (YE (Z0.mk 1 0 [Z0.mk 9 i ys,Z0.mk 1 0 [e3,Z0.mk 9 i zs]])) (de (ZH ⟨e3,p23,b11,(by assumption),rfl,rfl⟩ (wk [0,2,2,4,4,4,4,4,4] fl))))))))))))
  refine dA 12 [0,3,1] [b4,b1,b3] [.i 0,.i 0,nl] fun b12=>Z8 4 (dL 4 [1,4,2] [b4,b1,b3] (Z7 [3,0,3]) 3 1 fun v20=>Yh 7 7 [] [(55,Z6 [3,0,3])] (Z8 5 (dc 5 [] [1,4,2] [b4,b1,b3] (TG f.params [3,0,3]) ?_)))
  rintro _ _ ⟨v21,rfl,rfl⟩
  refine Yh 6 6 [] [(56,Z6 (f.params++[3,0,3]))] (Z8 6 (dc 6 [7,7] [1,2] [b4,b3] (Ty rd bs p g gb rs (f.params++[3,0,3]) 0 4 (Zs:=ob) (hv:=(by first|omega|(simp only [Yk,YD,X6];omega)))) ?_))
  rintro _ _ ⟨e4,p24,rfl,rfl,YZ⟩
  have YY:=YZ.1
  have Tz:=YZ.2
  try rw [Yk] at YY
  rw [hbv.2.1] at YY
  exact Z8 8 (W5 8 [4] [b3] [ZM e4,ZM (Z0.mk 9 i zs)] (Ya [e4,Z0.mk 9 i zs]) (Xp [e4,Z0.mk 9 i zs]).symm 2 3 fun v22=>Yh 4 4 [] [(59,X9 [e4,Z0.mk 9 i zs])] (Z8 9 (Yo 9 [] [4] [b3] (Xs 1 0 [e4,Z0.mk 9 i zs]) (Z8 10 (W5 10 [] [] [ZM (Z0.mk 9 i ys),ZM (Z0.mk 1 0 [e4,Z0.mk 9 i zs])] (Ya [Z0.mk 9 i ys,Z0.mk 1 0 [e4,Z0.mk 9 i zs]]) (Xp [Z0.mk 9 i ys,Z0.mk 1 0 [e4,Z0.mk 9 i zs]]).symm 2 3 fun v23=>Yh 2 2 [] [(61,X9 [Z0.mk 9 i ys,Z0.mk 1 0 [e4,Z0.mk 9 i zs]])] (Z8 11 (Yo 11 [] [] [] (Xs 1 0 [Z0.mk 9 i ys,Z0.mk 1 0 [e4,Z0.mk 9 i zs]]) (Z8 13 (Yy 13 6 [] [] b12 (YE (Z0.mk 1 0 [Z0.mk 9 i ys,Z0.mk 1 0 [e4,Z0.mk 9 i zs]])) (de (ZH ⟨e4,p24,b12,(by assumption),rfl,rfl⟩ (wk [0,2,2,4,4,4,4,4,4] fl))))))))))))
 rintro F h ⟨e1,p21,b5,ZX,rfl,rfl⟩
 have YY:=ZX.1
 have Tz:=ZX.2
 try rw [Yk] at YY
 rw [hbv.2.1] at YY
 refine Y7 3 [6] (Zm (XS gb g.funcs.length 4 i.toNat 5 i) (Z2 1 (Vl (WC 2 gb 4 4 5 (i.toNat * 5+1) (Zb (X3 rs)) [.i f.result] 3 (.i f.result) (VC XV hf 1 rfl (Wv rfl))) (Z1 (XA (fun fz gz F h=>∃(eQ:Z0) (p6:Nat),(GE g (f.params.length+3) 52 eQ)/\(p<=p6/\p6<=p+650)/\F=sF [0,2,4,6,7,14] fz []/\h=[.obj b5 (YE eQ),Yb rd bs p6,Za gz 2,Za gz 5,Za gz 6]) ?_ ?_)))))
 ·refine ac (f.result==3) ZB (fun Zg=>?_) (fun Zg=>?_)
  ·refine aE 13 (ZG 8 13 [0,1,2,3,7] [4,6] (da 8 (((f.params.length+2:Nat):Int)) (((f.params.length:Int))+(2)) (Z8 4 (dL 4 [6,4] [b1,b3] (Z7 [3,0,3]) 3 1 fun v24=>Yh 6 6 [] [(74,Z6 [3,0,3])] (Z8 5 (dc 5 [] [6,4] [b1,b3] (TG f.params [3,0,3]) ?_))))))
   rintro _ _ ⟨v25,rfl,rfl⟩
   refine Yh 5 5 [] [(75,Z6 (f.params++[3,0,3]))] (Z8 6 (dc 6 [3,3] [2] [b3] (Ty rd bs p21 g gb rs (f.params++[3,0,3]) 0 4 (Zs:=ob) (hv:=(by first|omega|(simp only [Yk,YD,X6];omega)))) ?_))
   rintro _ _ ⟨e5,p25,rfl,rfl,X7⟩
   have YY:=X7.1
   have Tz:=X7.2
   try rw [Yk] at YY
   rw [hbv.2.1] at YY
   exact Z8 9 (Yo 9 [] [4] [b3] (UR ((f.params.length+2:Nat):Int)) (Z8 10 (W5 10 [] [] [ZM (Z0.mk 9 i ys),ZM e5,ZM (Z0.mk 12 ((f.params.length+2:Nat):Int) [])] (Ya [Z0.mk 9 i ys,e5,(Z0.mk 12 ((f.params.length+2:Nat):Int) [])]) (Xp [Z0.mk 9 i ys,e5,(Z0.mk 12 ((f.params.length+2:Nat):Int) [])]).symm 3 3 fun v26=>Yh 2 2 [] [(80,X9 [Z0.mk 9 i ys,e5,(Z0.mk 12 ((f.params.length+2:Nat):Int) [])])] (Z8 11 (Yo 11 [] [] [] (Xs 6 3 [Z0.mk 9 i ys,e5,(Z0.mk 12 ((f.params.length+2:Nat):Int) [])]) (Z8 12 (Yy 12 5 [] [] b5 (YE (Z0.mk 6 3 [Z0.mk 9 i ys,e5,(Z0.mk 12 ((f.params.length+2:Nat):Int) [])])) (de (ZH ⟨(Z0.mk 6 3 [Z0.mk 9 i ys,e5,(Z0.mk 12 ((f.params.length+2:Nat):Int) [])]),p25,(GE.three (s1:=10) (s2:=30) (s3:=1) om om (GE.node (L:=f.params.length) (s:=1) (q:=10) om (fun _=>by omega) om YA om om om) YY (GE.var om om om) om),ob,rfl,rfl⟩ (wk [0,1,1,5,5] fl))))))))))
  exact ak (ZH ⟨(Z0.mk 1 0 [Z0.mk 9 i ys,Z0.mk 1 0 [e1,Z0.mk 9 i zs]]),p21,(GE.two (s1:=10) (s2:=41) om om (GE.node (L:=f.params.length) (s:=1) (q:=10) om (fun _=>by omega) om YA om om om) (GE.two (s1:=30) (s2:=10) om om YY (GE.node (L:=f.params.length) (s:=1) (q:=10) om (fun _=>by omega) om XZ om om om) om) om),ob,rfl,rfl⟩ (wk [0,0,0,2,2] fl))
 rintro F h ⟨eQ,p6,V4,KR,rfl,rfl⟩
 refine aD 15 (ZG 9 15 [1,2,3,4,5,6] [4,4] (dx 7 (XS gb g.funcs.length 4 i.toNat 5 i) (Zk 7 8 [8] (Vt 9 (WC 2 gb 4 4 5 (i.toNat * 5+1) (Zb (X3 rs)) [.i f.result] 3 (.i f.result) (VC XV hf 1 rfl (Wv rfl))) (ZG 5 6 [11] [0] (Z8 0 (Yo 0 [] [0,2,4,4] [b5,gb,b1,b1] (UR 0) (Z8 10 (dc 10 [1,1] [0] [b5] (Ty rd bs p6 g gb rs f.params f.result 4 (Zs:=ob) (hv:=(by first|omega|(simp only [Yk,YD,X6];omega)))) ?_)))))))))
 rintro _ _ ⟨e6,p26,rfl,rfl,XX⟩
 have YY:=XX.1
 have Tz:=XX.2
 try rw [Yk] at YY
 rw [hbv.2.1] at YY
 exact Z8 12 (W5 12 [] [] [ZM (Z0.mk 12 0 []),ZM e6,ZM eQ] (Ya [Z0.mk 12 0 [],e6,eQ]) (Xp [Z0.mk 12 0 [],e6,eQ]).symm 3 3 fun v27=>Yh 2 2 [] [(94,X9 [Z0.mk 12 0 [],e6,eQ])] (Z8 13 (Yo 13 [] [] [] (Xs 8 3 [Z0.mk 12 0 [],e6,eQ]) (Z8 14 (Yy 14 4 [] [] b2 (YE (Z0.mk 8 3 [Z0.mk 12 0 [],e6,eQ])) (de (ZJ (r3 [2,2] [ZM (Z0.mk 8 3 [Z0.mk 12 0 [],e6,eQ])] [0] [(b2,b2)] ⟨(Z0.mk 8 3 [Z0.mk 12 0 [],e6,eQ]),p26,rfl,rfl,⟨GE.matchT hg (s1:=1) (s2:=30) (s3:=52) (GE.var om om om) YY V4 om,by omega⟩⟩ (lr _)))))))))
theorem Rm (rd:Nat) (bs:LI) (p:Nat) (g:XI) (gb:Nat) (rs:List Func) (f:Func) (i:Int) (Zs:∀z∈bs,0<=z/\z<=255) (hp:p+1000<=1000000000:=by exact ob) (hg:GP g:=by exact ob) (XV:g.funcs <+: rs:=by exact ob) (hi:0<=i:=by exact ob) (hf:g.funcs[i.toNat]? = some f:=by exact ob) (h0:0<f.params.length:=by exact ob):Zf 230 [.p rd 0,.agg (XW g gb),.i i] [Yb rd bs p,Xq gb rs] (fun r h=>∃(e:Z0) (p2:Nat),r=ZM e/\h=[Yb rd bs p2,Xq gb rs]/\GE g f.params.length 200 e/\p<=p2/\p2<=p+1000):=by
 obtain ⟨hil,_⟩:=XC.1 hf
 have hgl:=hg.len
 have hso:=(hg.sigs f (ZW hf)).bd
 have hbv:=By
 refine ZD 75 Tryz.func230 (ar (iA (XW g gb) fun b1=>iA [.i 0,.i 0,nl] fun b2=>ie (Zo 3 [1] (Zm (XS gb g.funcs.length 4 i.toNat 5 i) (Z2 1 (Vl (WC 3 gb 4 4 5 (i.toNat * 5+0) (Zb (X3 rs)) [Z6 f.params] 31 (Z6 f.params) (VC XV hf 0 rfl (Wv rfl))) (Z1 (ar (Zv [] (UR 0) (Zv [] (KJ 1) (VD [ZM (Z0.mk 12 0 []),ZM (Z0.mk 0 1 [])] (Ya [Z0.mk 12 0 [],Z0.mk 0 1 []]) (Xp [Z0.mk 12 0 [],Z0.mk 0 1 []]).symm 2 3 fun v1=>ZE 0 [(20,X9 [Z0.mk 12 0 [],Z0.mk 0 1 []])] (Zv [] (Xs 2 0 [Z0.mk 12 0 [],Z0.mk 0 1 []]) (VD [ZM (Z0.mk 2 0 [Z0.mk 12 0 [],Z0.mk 0 1 []])] (Ya [Z0.mk 2 0 [Z0.mk 12 0 [],Z0.mk 0 1 []]]) (Xp [Z0.mk 2 0 [Z0.mk 12 0 [],Z0.mk 0 1 []]]).symm 1 3 fun v2=>?_)))))))))))))
 refine Z1 (Y0 (ab 0 (Y1 (fun fz gz m F h=>∃(k:Nat) (ys:List Z0) (u:Value) (pq:Nat),(1<=k/\k<=f.params.length)/\(ys.length=k)/\(∀e∈ys,GE g f.params.length 4 e)/\(p<=pq/\pq<=p+30*k)/\F=sF [0,2,4,6,7] fz [(8,Th ys u),(9,.i k)]/\h=[Za gz 2,Za gz 3,Yb rd bs pq,Za gz 5,.tail u 3]/\m=f.params.length-k) _ _ _ ⟨1,[Z0.mk 2 0 [Z0.mk 12 0 [],Z0.mk 0 1 []]],v2,p,ob,ob,(Er (GE.two (s1:=1) (s2:=1) om om (GE.var om om om) (GE.int om om) om)),ob,rfl,rfl,rfl⟩ (wk [2,2,2,2,0] (fr (fc (x:=.i 1) li fl))) ?_)))
 rintro m F h ⟨k,ys,u,pq,Yf,Zj,Zp,YA,rfl,rfl,rfl⟩
 refine X1 2 (iw (Ye f.params) (ZQ ((k:Int)<(f.params.length:Int)) (fun Z9=>?_) (fun Z9=>?_)))
 ·refine ak (aq (ab 1 (aE 12 (ZG 6 12 [0,1,2,3,4,5] [1] ?_))))
  obtain ⟨x1,Z5⟩:=Zq f.params k om
  refine dx 6 (Zh none (k:Int) 1 (ZZ Z5)) (Zk 4 5 [7] (Z8 8 (dc 8 [2,2] [] [] (AX rd bs pq g gb rs f.params x1 (Zs:=ob)) ?_)))
  rintro _ _ ⟨e1,p21,rfl,rfl,ZX⟩
  have hle:=ZX.1
  exact Z8 9 (W5 9 [] [] [ZM e1] (Ya [e1]) (Xp [e1]).symm 1 3 fun v3=>Yh 2 2 [] [(38,X9 [e1])] (Z8 10 (dp 10 5 [] [] (Ya (ys++[e1])) (Ya ys) (Ya [e1]) u none 3 (U0 _) (U0 _) (QX _) (by simp<;>omega) (by simp [QW,Ya]) fun v4=>Zk 0 1 [11] (de (az (Z2 1 (ZF k (Z1 (ZI ⟨k+1,(ys++[e1]),v4,p21,ob,ob,(Xb Zp hle),ob,rfl,rfl,rfl⟩ (wk [4,4,2,2,0] (fr (ZL k fl))))))))))))
 refine ax 0 (ar (ZE 2 [(41,X9 ys)] (Zv [] (Xs 9 i ys) (iA [.i 0,.i 0,nl] fun b3=>?_))))
 refine ZA 0 b3 (YE (Z0.mk 9 i ys)) (ie (Y7 3 [2] (Zm (XS gb g.funcs.length 4 i.toNat 5 i) (Z2 1 (Vl (WC 4 gb 4 4 5 (i.toNat * 5+1) (Zb (X3 rs)) [.i f.result] 3 (.i f.result) (VC XV hf 1 rfl (Wv rfl))) (Z1 (XA (fun fz gz F h=>∃(eQ:Z0) (p6:Nat),(GE g f.params.length 34 eQ)/\(p<=p6/\p6<=p+350)/\F=sF [0,2,4,6,7,10] fz []/\h=[.obj b3 (YE eQ),Za gz 1,Za gz 2,Yb rd bs p6,Za gz 4]) ?_ ?_)))))))
 ·refine ac (f.result==1) ZB (fun Zg=>?_) (fun Zg=>?_)
  ·refine aE 8 (ZG 4 8 [0,1,2,4] [2,0] (Z8 3 (dc 3 [3,3] [0] [b3] (Ty rd bs pq g gb rs f.params 0 3 (Zs:=ob)) ?_)))
   rintro _ _ ⟨e2,p22,rfl,rfl,Yc⟩
   have YY:=Yc.1
   have Tz:=Yc.2
   try rw [Yk] at YY
   first|rw [hbv.2.1] at YY|rw [hbv.1] at YY
   exact Z8 5 (W5 5 [] [] [ZM e2,ZM (Z0.mk 9 i ys)] (Ya [e2,Z0.mk 9 i ys]) (Xp [e2,Z0.mk 9 i ys]).symm 2 3 fun v5=>Yh 2 2 [] [(55,X9 [e2,Z0.mk 9 i ys])] (Z8 6 (Yo 6 [] [] [] (Xs 6 1 [e2,Z0.mk 9 i ys]) (Z8 7 (Yy 7 3 [] [] b3 (YE (Z0.mk 6 1 [e2,Z0.mk 9 i ys])) (de (ZH ⟨(Z0.mk 6 1 [e2,Z0.mk 9 i ys]),p22,(GE.two (s1:=20) (s2:=13) om om YY (GE.node (L:=f.params.length) (s:=4) (q:=13) om (fun _=>by omega) om Zp om om om) om),ob,rfl,rfl⟩ (wk [0,3,3,1,1] fl))))))))
  exact ak (ZH ⟨(Z0.mk 9 i ys),pq,(GE.le (GE.node (L:=f.params.length) (s:=4) (q:=13) om (fun _=>by omega) om Zp om om om) om),ob,rfl,rfl⟩ (ZT 5 fl))
 rintro F h ⟨eQ,p6,V4,KR,rfl,rfl⟩
 refine ar (Zv [] (KJ 0) (Zv [] (UR 0) (VD [ZM (Z0.mk 0 0 []),ZM (Z0.mk 12 0 [])] (Ya [Z0.mk 0 0 [],Z0.mk 12 0 []]) (Xp [Z0.mk 0 0 [],Z0.mk 12 0 []]).symm 2 3 fun v6=>ZE 0 [(59,X9 [Z0.mk 0 0 [],Z0.mk 12 0 []])] (Zv [] (Xs 4 0 [Z0.mk 0 0 [],Z0.mk 12 0 []]) (iA [.i 0,.i 0,nl] fun b4=>ZA 0 b4 (YE (Z0.mk 4 0 [Z0.mk 0 0 [],Z0.mk 12 0 []])) (ie (aD 15 (ZG 7 15 [0,1,2,3,4,5,6,7] [0,2,4,4] (dx 8 (XS gb g.funcs.length 4 i.toNat 5 i) (Zk 5 6 [9] (Vt 10 (WC 6 gb 4 4 5 (i.toNat * 5+1) (Zb (X3 rs)) [.i f.result] 3 (.i f.result) (VC XV hf 1 rfl (Wv rfl))) (Z8 11 (dc 11 [5,5] [1,0] [b3,b4] (Ty rd bs p6 g gb rs f.params f.result 4 (Zs:=ob)) ?_)))))))))))))
 rintro _ _ ⟨e3,p23,rfl,rfl,YM⟩
 have YY:=YM.1
 have Tz:=YM.2
 try rw [Yk] at YY
 first|rw [hbv.2.1] at YY|rw [hbv.1] at YY
 exact Z8 12 (W5 12 [] [] [ZM (Z0.mk 4 0 [Z0.mk 0 0 [],Z0.mk 12 0 []]),ZM eQ,ZM e3] (Ya [Z0.mk 4 0 [Z0.mk 0 0 [],Z0.mk 12 0 []],eQ,e3]) (Xp [Z0.mk 4 0 [Z0.mk 0 0 [],Z0.mk 12 0 []],eQ,e3]).symm 3 3 fun v7=>Yh 2 2 [] [(73,X9 [Z0.mk 4 0 [Z0.mk 0 0 [],Z0.mk 12 0 []],eQ,e3])] (Z8 13 (Yo 13 [] [] [] (Xs 7 0 [Z0.mk 4 0 [Z0.mk 0 0 [],Z0.mk 12 0 []],eQ,e3]) (Z8 14 (Yy 14 6 [] [] b2 (YE (Z0.mk 7 0 [Z0.mk 4 0 [Z0.mk 0 0 [],Z0.mk 12 0 []],eQ,e3])) (de (ZJ (r3 [2,2] [ZM (Z0.mk 7 0 [Z0.mk 4 0 [Z0.mk 0 0 [],Z0.mk 12 0 []],eQ,e3])] [0] [(b2,b2)] ⟨(Z0.mk 7 0 [Z0.mk 4 0 [Z0.mk 0 0 [],Z0.mk 12 0 []],eQ,e3]),p23,rfl,rfl,⟨GE.three (s1:=3) (s2:=34) (s3:=30) om om (GE.two (s1:=1) (s2:=1) om om (GE.int om om) (GE.var om om om) om) V4 YY om,by omega⟩⟩ (lr _)))))))))
theorem RW (xs:LI) (t:Int) (hl:xs.length<=1000:=by exact ob):Zf 225 [Z6 xs,.i t] [] (fun r h=>∃(w:Int),r=.i w/\h=[]/\-1<=w/\w<xs.length):=by
 refine ZD 19 Tryz.func225 (Y9 (Y0 (ab 0 (Y1 (fun fz gz m F h=>∃(k:Nat),(k<=xs.length)/\F=sF [0,1] fz [(5,.i k)]/\h=gz/\m=xs.length-k) _ _ _ ⟨0,ob,rfl,rfl,rfl⟩ (wk [] (Yd fl)) ?_))))
 rintro m F h ⟨k,Yf,rfl,rfl,rfl⟩
 refine X1 2 (iw (Ye xs) (ZQ ((k:Int)<(xs.length:Int)) (fun Z9=>?_) (fun Z9=>?_)))
 ·refine ak (aq (ab 1 (Yg 2 ?_)))
  obtain ⟨x1,Z5⟩:=Zq xs k om
  refine Zm (Zh none (k:Int) 1 (ZZ Z5)) (YR (x1==t) ZB (fun Zg=>?_) (fun Zg=>?_))
  ·exact ar (Zt (r1 [] ⟨(k:Int),rfl,rfl,ob⟩))
  exact ak (az (Z2 1 (ZF k (Z1 (ZI ⟨k+1,ob,rfl,rfl,rfl⟩ (wk [] (ZL k fl)))))))
 exact ax 0 (ar (Zt (r1 [] ⟨(-1),rfl,rfl,ob⟩)))
theorem R4 (rd:Nat) (bs:LI) (p:Nat) (g:XI) (gb:Nat) (rs:List Func) (f:Func) (i:Int) (Zs:∀z∈bs,0<=z/\z<=255) (hp:p+90000<=1000000000) (hg:GP g) (XV:g.funcs <+: rs) (hi:0<=i) (hf:g.funcs[i.toNat]? = some f) (h0:i=0->f.params.length=0):Zf 177 [.p rd 0,.agg (XW g gb),.i i] [Yb rd bs p,Xq gb rs] (fun r h=>∃(e:Z0) (p2:Nat),r=ZM e/\h=[Yb rd bs p2,Xq gb rs]/\GE g f.params.length 30 e/\p<=p2/\p2<=p+90000):=by
 obtain ⟨hil,_⟩:=XC.1 hf
 have hgl:=hg.len
 have hso:=(hg.sigs f (ZW hf)).bd
 have hbv:=By
 refine ZD 121 Tryz.func177 (ar (iA (XW g gb) fun b1=>iA [.i 0,.i 0,nl] fun b2=>ie (Zo 3 [1] (Zm (XS gb g.funcs.length 4 i.toNat 5 i) (Z2 1 (Vl (WC 3 gb 4 4 5 (i.toNat * 5+0) (Zb (X3 rs)) [Z6 f.params] 31 (Z6 f.params) (VC XV hf 0 rfl (Wv rfl))) (Z1 (Zo 3 [1] (Zm (XS gb g.funcs.length 4 i.toNat 5 i) (Z2 1 (Vl (WC 3 gb 4 4 5 (i.toNat * 5+1) (Zb (X3 rs)) [.i f.result] 3 (.i f.result) (VC XV hf 1 rfl (Wv rfl))) (Z1 (Yg 1 (ic [] (RW f.params 1) ?_))))))))))))))
 rintro _ _ ⟨w1,rfl,rfl,ZX⟩
 have hpl:=ZX
 refine Z1 (ar (Zv [] (KJ 0) (iA [.i 0,.i 0,nl] fun b3=>ZA 0 b3 (YE (Z0.mk 0 0 [])) (ie (Yg 1 (ic [3] (XL rd bs p 4 (Zs:=ob)) ?_))))))
 rintro _ _ ⟨k1,rfl,rfl,Yc⟩
 have qhp2:=Yc.lt om
 refine Z1 (aq (aq (XA (fun fz gz F h=>∃(wb:Bool),(wb=true->i=0)/\F=sF [0,2,4,6,7,8,9,10,11] fz [(34,.b wb)]/\h=gz) ?_ ?_)))
 ·refine az (Z2 3 (ib (b:=(decide (k1<3))) 31 (fun Ze=>?_) (fun Ze=>?_)))
  ·have YM:k1<3:=(dq).1 Ze
   exact Z1 (ZH ⟨(i==0),(by first|exact (fun h=>Bool.noConfusion h)|(intro h;omega)|(intro h;simp at h;omega)),rfl,rfl⟩ (ZT 5 fl))
  have YZ:¬(k1<3):=YT dq Ze
  exact Z1 (ZH ⟨false,(by first|exact (fun h=>Bool.noConfusion h)|(intro h;omega)|(intro h;simp at h;omega)),rfl,rfl⟩ (ZT 5 fl))
 rintro F h ⟨wb,kR6_0,rfl,rfl⟩
 refine XA (fun fz gz F h=>∃(eQ:Z0) (p6:Nat),(GE g f.params.length 200 eQ)/\(p<=p6/\p6<=p+42000)/\F=sF [0,4,6,7,8,10] fz []/\h=[Yb rd bs p6,.obj b3 (YE eQ),Za gz 2,Za gz 3,Za gz 4]) ?_ ?_
 ·refine ac wb Iff.rfl (fun Z9=>?_) (fun Z9=>?_)
  ·refine az (ZV 2 [3] (ic [0,3] (RH rd bs (p+1) g gb rs (Zs:=ob)) ?_))
   rintro _ _ ⟨e1,p21,rfl,rfl,X7⟩
   have hbd:=X7.1
   have hbp:=X7.2
   exact ZA 2 b3 (YE e1) (ie (ZH ⟨e1,p21,(by rw [h0 (kR6_0 (by assumption))];exact hbd),ob,rfl,rfl⟩ (wk [1,0,1,1,0] fl)))
  refine aq (XA (fun fz gz F h=>∃(wb:Bool),(wb=true->0<=w1)/\F=sF [0,2,4,6,7,8,9,10,11] fz [(51,.b wb)]/\h=gz) ?_ ?_)
  ·refine az (Z2 3 (ib (b:=(decide (k1<3))) 40 (fun ZU=>?_) (fun ZU=>?_)))
   ·have XX:k1<3:=(dq).1 ZU
    refine Z2 4 (ib (b:=(decide (w1>=0))) 44 (fun X4=>?_) (fun X4=>?_))
    ·have Wu:w1>=0:=(dq).1 X4
     refine Z2 3 (ib (b:=(f.result==0)) 47 (fun Wd=>?_) (fun Wd=>?_))
     ·have V3:f.result=0:=(ZB).1 Wd
      exact Z1 (ZH ⟨true,(by first|exact (fun h=>Bool.noConfusion h)|(intro h;omega)|(intro h;simp at h;omega)),rfl,rfl⟩ (ZT 5 fl))
     have Vk:¬(f.result=0):=YT ZB Wd
     exact Z1 (ZH ⟨(f.result==1),(by first|exact (fun h=>Bool.noConfusion h)|(intro h;omega)|(intro h;simp at h;omega)),rfl,rfl⟩ (ZT 5 fl))
    have UT:¬(w1>=0):=YT dq X4
    exact Z1 (ZH ⟨false,(by first|exact (fun h=>Bool.noConfusion h)|(intro h;omega)|(intro h;simp at h;omega)),rfl,rfl⟩ (ZT 5 fl))
   have UU:¬(k1<3):=YT dq ZU
   exact Z1 (ZH ⟨false,(by first|exact (fun h=>Bool.noConfusion h)|(intro h;omega)|(intro h;simp at h;omega)),rfl,rfl⟩ (ZT 5 fl))
  rintro F h ⟨wb,kR8_0,rfl,rfl⟩
  refine ac wb Iff.rfl (fun Zg=>?_) (fun Zg=>?_)
  ·refine az (ZV 4 [3] (ic [0,3] (RQ rd bs (p+1) g gb rs _ i w1 (Zs:=ob) (hw:=(by have:=kR8_0 (by assumption);omega))) ?_))
   rintro _ _ ⟨e2,p22,rfl,rfl,UV⟩
   have hbd:=UV.1
   have hbp:=UV.2
   exact ZA 2 b3 (YE e2) (ie (ZH ⟨e2,p22,(GE.le hbd om),ob,rfl,rfl⟩ (wk [1,0,1,1,0] fl)))
  refine aq (XA (fun fz gz F h=>∃(wb:Bool),(wb=true->0<f.params.length)/\F=sF [0,2,4,6,7,8,10,11] fz [(77,.b wb)]/\h=gz) ?_ ?_)
  ·refine az (Z2 3 (ib (b:=(decide (k1<3))) 59 (fun Uj=>?_) (fun Uj=>?_)))
   ·have Qy:k1<3:=(dq).1 Uj
    refine Z2 1 (iw (Ye f.params) (Z2 3 (ib (b:=(decide ((f.params.length:Int)>0))) 64 (fun TR=>?_) (fun TR=>?_))))
    ·have Qg:(f.params.length:Int)>0:=(dq).1 TR
     refine Z2 1 ?_
     obtain ⟨x1,Z5⟩:=Zq f.params 0 om
     refine Zm (Zh none 0 1 (ZZ Z5)) (Z2 4 (ib (b:=(x1==3)) 70 (fun Aa=>?_) (fun Aa=>?_)))
     ·have Jq:x1=3:=(ZB).1 Aa
      refine Z2 3 (ib (b:=(f.result==0)) 73 (fun KN=>?_) (fun KN=>?_))
      ·have KQ:f.result=0:=(ZB).1 KN
       exact Z1 (ZH ⟨true,(by first|exact (fun h=>Bool.noConfusion h)|(intro h;omega)|(intro h;simp at h;omega)),rfl,rfl⟩ (ZT 5 fl))
      have Dd:¬(f.result=0):=YT ZB KN
      exact Z1 (ZH ⟨(f.result==3),(by first|exact (fun h=>Bool.noConfusion h)|(intro h;omega)|(intro h;simp at h;omega)),rfl,rfl⟩ (ZT 5 fl))
     have Ad:¬(x1=3):=YT ZB Aa
     exact Z1 (ZH ⟨false,(by first|exact (fun h=>Bool.noConfusion h)|(intro h;omega)|(intro h;simp at h;omega)),rfl,rfl⟩ (ZT 5 fl))
    have Z6k:¬((f.params.length:Int)>0):=YT dq TR
    exact Z1 (ZH ⟨false,(by first|exact (fun h=>Bool.noConfusion h)|(intro h;omega)|(intro h;simp at h;omega)),rfl,rfl⟩ (ZT 5 fl))
   have Z6l:¬(k1<3):=YT dq Uj
   exact Z1 (ZH ⟨false,(by first|exact (fun h=>Bool.noConfusion h)|(intro h;omega)|(intro h;simp at h;omega)),rfl,rfl⟩ (ZT 5 fl))
  rintro F h ⟨wb,kR10_0,rfl,rfl⟩
  refine ac wb Iff.rfl (fun ZK=>?_) (fun ZK=>?_)
  ·refine az (ZV 3 [3] (ic [0,3] (RR rd bs (p+1) g gb rs _ i (Zs:=ob) (h0:=(kR10_0 (by assumption)))) ?_))
   rintro _ _ ⟨e3,p23,rfl,rfl,Iu⟩
   have hbd:=Iu.1
   have hbp:=Iu.2
   exact ZA 2 b3 (YE e3) (ie (ZH ⟨e3,p23,(GE.le hbd om),ob,rfl,rfl⟩ (wk [1,0,1,1,0] fl)))
  refine aq (XA (fun fz gz F h=>∃(wb:Bool),(wb=true->0<f.params.length)/\F=sF [0,2,4,6,7,8,10] fz [(102,.b wb)]/\h=gz) ?_ ?_)
  ·refine az (Z2 3 (ib (b:=(decide (k1<3))) 84 (fun KO=>?_) (fun KO=>?_)))
   ·have Z6m:k1<3:=(dq).1 KO
    refine Z2 1 (iw (Ye f.params) (Z2 3 (ib (b:=(decide ((f.params.length:Int)>0))) 89 (fun Fk=>?_) (fun Fk=>?_))))
    ·have Z6n:(f.params.length:Int)>0:=(dq).1 Fk
     refine Z2 1 ?_
     obtain ⟨x2,Zu⟩:=Zq f.params 0 om
     refine Zm (Zh none 0 1 (ZZ Zu)) (Z2 4 (ib (b:=(x2==0)) 95 (fun Fl=>?_) (fun Fl=>?_)))
     ·have Z6o:x2=0:=(ZB).1 Fl
      refine Z2 3 (ib (b:=(f.result==0)) 98 (fun Fm=>?_) (fun Fm=>?_))
      ·have Z6p:f.result=0:=(ZB).1 Fm
       exact Z1 (ZH ⟨true,(by first|exact (fun h=>Bool.noConfusion h)|(intro h;omega)|(intro h;simp at h;omega)),rfl,rfl⟩ (ZT 5 fl))
      have Z6q:¬(f.result=0):=YT ZB Fm
      exact Z1 (ZH ⟨(f.result==1),(by first|exact (fun h=>Bool.noConfusion h)|(intro h;omega)|(intro h;simp at h;omega)),rfl,rfl⟩ (ZT 5 fl))
     have Z6r:¬(x2=0):=YT ZB Fl
     exact Z1 (ZH ⟨false,(by first|exact (fun h=>Bool.noConfusion h)|(intro h;omega)|(intro h;simp at h;omega)),rfl,rfl⟩ (ZT 5 fl))
    have Z6s:¬((f.params.length:Int)>0):=YT dq Fk
    exact Z1 (ZH ⟨false,(by first|exact (fun h=>Bool.noConfusion h)|(intro h;omega)|(intro h;simp at h;omega)),rfl,rfl⟩ (ZT 5 fl))
   have Z6t:¬(k1<3):=YT dq KO
   exact Z1 (ZH ⟨false,(by first|exact (fun h=>Bool.noConfusion h)|(intro h;omega)|(intro h;simp at h;omega)),rfl,rfl⟩ (ZT 5 fl))
  rintro F h ⟨wb,kR12_0,rfl,rfl⟩
  refine ac wb Iff.rfl (fun Yt=>?_) (fun Yt=>?_)
  ·refine az (ZV 3 [3] (ic [0,3] (Rm rd bs (p+1) g gb rs _ i (Zs:=ob) (h0:=(kR12_0 (by assumption)))) ?_))
   rintro _ _ ⟨e4,p24,rfl,rfl,Iv⟩
   have hbd:=Iv.1
   have hbp:=Iv.2
   exact ZA 2 b3 (YE e4) (ie (ZH ⟨e4,p24,(GE.le hbd om),ob,rfl,rfl⟩ (wk [1,0,1,1,0] fl)))
  refine az (ZV 4 [3] (ic [0,3] (I9 rd bs (p+1) g gb rs f.params f.result 18 (Zs:=ob)) ?_))
  rintro _ _ ⟨e5,p25,rfl,rfl,Iw⟩
  have hbd:=Iw.1
  have hbp:=Iw.2
  exact ZA 2 b3 (YE e5) (ie (ZH ⟨e5,p25,(GE.le hbd om),ob,rfl,rfl⟩ (wk [1,0,1,1,0] fl)))
 rintro F h ⟨eQ,p6,Qh,Fv,rfl,rfl⟩
 refine Y7 1 [1] (ic [] (Ih eQ (hz:=(by have:=Qh.2;omega))) ?_)
 rintro _ _ ⟨w2,rfl,rfl,Sf⟩
 have Fs:=Sf
 have X5:=Qh.2
 refine ZQ (w2<0) (fun XG=>?_) (fun XG=>?_)
 ·refine Zo 4 [3] (ic [0,3] (I9 rd bs p6 g gb rs f.params f.result 12 (Zs:=ob)) ?_)
  rintro _ _ ⟨e6,p26,rfl,rfl,Ix⟩
  have hbd:=Ix.1
  have hbp:=Ix.2
  exact ZA 3 b2 (YE e6) (ie (ZJ (r3 [1,1] [ZM e6] [0] [(b2,b2)] ⟨e6,p26,rfl,rfl,⟨hbd,by omega⟩⟩ (lr _))))
 exact ak (Zo 1 [1] (ZA 2 b2 (YE eQ) (ie (ZJ (r3 [1,3] [ZM eQ] [0] [(b2,b2)] ⟨eQ,p6,rfl,rfl,⟨⟨Qh.1,by omega⟩,by omega⟩⟩ (lr _))))))
theorem UB (ps:LI) (rt:Int) :Zf 176 [Z6 ps,.i rt] [] (Yu (Bw (Func.mk ps rt (Z0.mk 0 0 [])))):=by
 exact ZD 8 Tryz.func176 (ar (iA [nl,.i 0,.i 0,.i 0,nl] fun b1=>ie (Yg 3 (ZA 0 b1 [Z6 ps,.i rt,.i 0,.i 0,nl] (ie (ZJ (r3 [] [.agg [Z6 ps,.i rt,.i 0,.i 0,nl]] [0] [(b1,b1)] ⟨rfl,rfl⟩ (Zd.agg (.cons (Zd.sl _ (Yr Z7 ob)) (.cons li (.cons li (.cons li (.cons (Zd.sl _ rfl) .nil)))))))))))))
theorem RP (rd:Nat) (bs:LI) (p:Nat) (xs:LI) (Zs:∀z∈bs,0<=z/\z<=255) (hp:p+1<=1000000000:=by exact ob) (hx:0<xs.length/\xs.length<=1000000:=by exact ob) (hy:xs.all (fun x=>decide (0<=x))=true:=by exact ob):Zf 62 [.p rd 0,Z6 xs] [Yb rd bs p] (fun r h=>∃(nn:Nat),r=.i nn/\h=[.obj rd [Vd bs,.i (p+1:Nat)]]/\(nn:Int)∈xs):=(WV rd bs p xs Zs hp hx).mono fun r h ⟨z,hr,hh,hz⟩=>by
  have h0:0<=z:=of_decide_eq_true (Kg.1 hy z hz)
  exact ⟨z.toNat,by rw [hr,Int.toNat_of_nonneg h0],hh,by rw [Int.toNat_of_nonneg h0];exact hz⟩
theorem R5 (rd:Nat) (bs:LI) (p:Nat) (g:XI) (gb:Nat) (rs:List Func) (f:Func) (i:Int) (nl:Nat) (Zs:∀z∈bs,0<=z/\z<=255) (hp:p+90000<=1000000000:=by exact ob) (hg:GP g:=by exact ob) (XV:g.funcs <+: rs:=by exact ob) (hi:0<=i:=by exact ob) (hf:g.funcs[i.toNat]? = some f:=by exact ob) (h0:i=0->f.params.length=0:=by exact ob) (hn:g.funcs.length=nl:=by exact ob):Zf 177 [.p rd 0,.agg [YL g.decls,.ms gb 0 nl 4],.i i] [Yb rd bs p,Xq gb rs] (fun r h=>∃(e:Z0) (p2:Nat),r=ZM e/\h=[Yb rd bs p2,Xq gb rs]/\GE g f.params.length 30 e/\p<=p2/\p2<=p+90000):=(by subst hn;exact R4 rd bs p g gb rs f i Zs hp hg XV hi hf h0)
theorem Rs (rd:Nat) (bs:LI) (p:Nat) (Zs:∀z∈bs,0<=z/\z<=255) (hp:p+400000<=1000000000):Zf 134 [.p rd 0] [Yb rd bs p] (fun r h=>∃(rs:List Func) (ds:List Zc) (m:Nat) (gb:Nat) (p2:Nat),r=.agg [YL ds,.ms gb 0 m 4]/\h=[Xq gb rs,Yb rd bs p2]/\(GL ds m 0 rs/\GD ds/\1<=m/\m<=4)/\p<=p2/\p2<=p+400000):=by
 refine ZD 110 Tryz.func134 (ar (iA [nl,nl] fun b1=>ie (Yg 1 (ic [1] (Rq rd bs p (Zs:=ob)) ?_))))
 rintro _ _ ⟨ds1,v1,rfl,rfl,ZX⟩
 have hgd:=ZX
 refine Z2 1 (iA [nl,nl] fun b2=>ZA 0 b2 [K5 ds1 v1,nl] (ie (ar (iL (Z7 [1]) 1 1 fun v2=>ZE 0 [(13,Z6 [1])] (Zv [] (UB [1] 0) (iL (Z7 [1,1]) 2 1 fun v3=>ZE 0 [(15,Z6 [1,1])] (Zv [] (UB [1,1] 1) (iL (Z7 [1]) 1 1 fun v4=>ZE 0 [(17,Z6 [1])] (Zv [] (UB [1] 1) (iL (Z7 [1,0]) 2 1 fun v5=>ZE 0 [(19,Z6 [1,0])] (Zv [] (UB [1,0] 1) (iL (Z7 [2,1]) 2 1 fun v6=>ZE 0 [(21,Z6 [2,1])] (Zv [] (UB [2,1] 1) (iL (Z7 [1,1]) 2 1 fun v7=>ZE 0 [(23,Z6 [1,1])] (Zv [] (UB [1,1] 0) (iL (X3 [Func.mk [1] 0 (Z0.mk 0 0 []),Func.mk [1,1] 1 (Z0.mk 0 0 []),Func.mk [1] 1 (Z0.mk 0 0 []),Func.mk [1,0] 1 (Z0.mk 0 0 []),Func.mk [2,1] 1 (Z0.mk 0 0 []),Func.mk [1,1] 0 (Z0.mk 0 0 [])]) 6 5 fun v8=>Z1 (ar (iL (Z7 [3]) 1 1 fun v9=>ZE 0 [(26,Z6 [3])] (Zv [] (UB [3] 0) (iL (Z7 [0]) 1 1 fun v10=>ZE 0 [(28,Z6 [0])] (Zv [] (UB [0] 1) (iL (Z7 [0,1]) 2 1 fun v11=>ZE 0 [(30,Z6 [0,1])] (Zv [] (UB [0,1] 1) (iL (Z7 [3,0]) 2 1 fun v12=>ZE 0 [(32,Z6 [3,0])] (Zv [] (UB [3,0] 3) (iL (Z7 [3]) 1 1 fun v13=>ZE 0 [(34,Z6 [3])] (Zv [] (UB [3] 1) (iL (Z7 [1,3,0]) 3 1 fun v14=>ZE 0 [(36,Z6 [1,3,0])] (Zv [] (UB [1,3,0] 0) (iL (X3 [Func.mk [3] 0 (Z0.mk 0 0 []),Func.mk [0] 1 (Z0.mk 0 0 []),Func.mk [0,1] 1 (Z0.mk 0 0 []),Func.mk [3,0] 3 (Z0.mk 0 0 []),Func.mk [3] 1 (Z0.mk 0 0 []),Func.mk [1,3,0] 0 (Z0.mk 0 0 [])]) 6 5 fun v15=>Z1 (ar (iL (Z7 [0]) 1 1 fun v16=>ZE 0 [(39,Z6 [0])] (Zv [] (UB [0] 0) (iL (Z7 [0,0]) 2 1 fun v17=>ZE 0 [(41,Z6 [0,0])] (Zv [] (UB [0,0] 0) (iL (Z7 [1,0]) 2 1 fun v18=>ZE 0 [(43,Z6 [1,0])] (Zv [] (UB [1,0] 0) (iL (Z7 [0]) 1 1 fun v19=>ZE 0 [(45,Z6 [0])] (Zv [] (UB [0] 1) (iL (X3 [Func.mk [0] 0 (Z0.mk 0 0 []),Func.mk [0,0] 0 (Z0.mk 0 0 []),Func.mk [1,0] 0 (Z0.mk 0 0 []),Func.mk [0] 1 (Z0.mk 0 0 [])]) 4 5 fun v20=>Z1 (aD 26 (Zk 23 26 [2,3,4] (dn 5 (.i (([Func.mk [1] 0 (Z0.mk 0 0 []),Func.mk [1,1] 1 (Z0.mk 0 0 []),Func.mk [1] 1 (Z0.mk 0 0 []),Func.mk [1,0] 1 (Z0.mk 0 0 []),Func.mk [2,1] 1 (Z0.mk 0 0 []),Func.mk [1,1] 0 (Z0.mk 0 0 [])].length:Nat):Int)) (.i (((X3 [Func.mk [1] 0 (Z0.mk 0 0 []),Func.mk [1,1] 1 (Z0.mk 0 0 []),Func.mk [1] 1 (Z0.mk 0 0 []),Func.mk [1,0] 1 (Z0.mk 0 0 []),Func.mk [2,1] 1 (Z0.mk 0 0 []),Func.mk [1,1] 0 (Z0.mk 0 0 [])]).length:Nat):Int)) (li (by rw [AP])) (Zk 19 22 [9,10,11] (dn 12 (.i (([Func.mk [3] 0 (Z0.mk 0 0 []),Func.mk [0] 1 (Z0.mk 0 0 []),Func.mk [0,1] 1 (Z0.mk 0 0 []),Func.mk [3,0] 3 (Z0.mk 0 0 []),Func.mk [3] 1 (Z0.mk 0 0 []),Func.mk [1,3,0] 0 (Z0.mk 0 0 [])].length:Nat):Int)) (.i (((X3 [Func.mk [3] 0 (Z0.mk 0 0 []),Func.mk [0] 1 (Z0.mk 0 0 []),Func.mk [0,1] 1 (Z0.mk 0 0 []),Func.mk [3,0] 3 (Z0.mk 0 0 []),Func.mk [3] 1 (Z0.mk 0 0 []),Func.mk [1,3,0] 0 (Z0.mk 0 0 [])]).length:Nat):Int)) (li (by rw [AP])) (Zk 15 18 [16,17,18] (dn 19 (.i (([Func.mk [0] 0 (Z0.mk 0 0 []),Func.mk [0,0] 0 (Z0.mk 0 0 []),Func.mk [1,0] 0 (Z0.mk 0 0 []),Func.mk [0] 1 (Z0.mk 0 0 [])].length:Nat):Int)) (.i (((X3 [Func.mk [0] 0 (Z0.mk 0 0 []),Func.mk [0,0] 0 (Z0.mk 0 0 []),Func.mk [1,0] 0 (Z0.mk 0 0 []),Func.mk [0] 1 (Z0.mk 0 0 [])]).length:Nat):Int)) (li (by rw [AP])) (Z8 0 (dL 0 [] [] (Z7 []) 0 1 fun v21=>Yh 13 13 [] [(48,Z6 [])] (Z8 1 (Yo 1 [] [] [] (UB [] 0) (Z8 6 (dc 6 [22] [] [] (XL rd bs (p+1) (([Func.mk [1] 0 (Z0.mk 0 0 []),Func.mk [1,1] 1 (Z0.mk 0 0 []),Func.mk [1] 1 (Z0.mk 0 0 []),Func.mk [1,0] 1 (Z0.mk 0 0 []),Func.mk [2,1] 1 (Z0.mk 0 0 []),Func.mk [1,1] 0 (Z0.mk 0 0 [])].length:Nat):Int) (Zs:=ob)) ?_)))))))))))))))))))))))))))))))))))))))))))))))))))))
 rintro _ _ ⟨k1,rfl,rfl,Yc⟩
 have qhp2:=Yc.lt (by simp)
 simp only [YD,X6] at qhp2
 obtain ⟨x1,Z5⟩:=Zq [Func.mk [1] 0 (Z0.mk 0 0 []),Func.mk [1,1] 1 (Z0.mk 0 0 []),Func.mk [1] 1 (Z0.mk 0 0 []),Func.mk [1,0] 1 (Z0.mk 0 0 []),Func.mk [2,1] 1 (Z0.mk 0 0 []),Func.mk [1,1] 0 (Z0.mk 0 0 [])] k1.toNat (by simp only [YD,X6];omega)
 refine dx 7 (Zh (some v8) k1 5 (CU Z5)) (Zk 9 10 [8] (Z8 13 (dc 13 [0] [] [] (XL rd bs ((p+1)+1) (([Func.mk [3] 0 (Z0.mk 0 0 []),Func.mk [0] 1 (Z0.mk 0 0 []),Func.mk [0,1] 1 (Z0.mk 0 0 []),Func.mk [3,0] 3 (Z0.mk 0 0 []),Func.mk [3] 1 (Z0.mk 0 0 []),Func.mk [1,3,0] 0 (Z0.mk 0 0 [])].length:Nat):Int) (Zs:=ob)) ?_)))
 rintro _ _ ⟨k2,rfl,rfl,YM⟩
 have qhp3:=YM.lt (by simp)
 simp only [YD,X6] at qhp3
 obtain ⟨x2,Zu⟩:=Zq [Func.mk [3] 0 (Z0.mk 0 0 []),Func.mk [0] 1 (Z0.mk 0 0 []),Func.mk [0,1] 1 (Z0.mk 0 0 []),Func.mk [3,0] 3 (Z0.mk 0 0 []),Func.mk [3] 1 (Z0.mk 0 0 []),Func.mk [1,3,0] 0 (Z0.mk 0 0 [])] k2.toNat (by simp only [YD,X6];omega)
 refine dx 14 (Zh (some v15) k2 5 (CU Zu)) (Zk 6 7 [15] (Z8 20 (dc 20 [0] [] [] (XL rd bs (((p+1)+1)+1) (([Func.mk [0] 0 (Z0.mk 0 0 []),Func.mk [0,0] 0 (Z0.mk 0 0 []),Func.mk [1,0] 0 (Z0.mk 0 0 []),Func.mk [0] 1 (Z0.mk 0 0 [])].length:Nat):Int) (Zs:=ob)) ?_)))
 rintro _ _ ⟨k3,rfl,rfl,YZ⟩
 have qhp4:=YZ.lt (by simp)
 simp only [YD,X6] at qhp4
 obtain ⟨x3,X0⟩:=Zq [Func.mk [0] 0 (Z0.mk 0 0 []),Func.mk [0,0] 0 (Z0.mk 0 0 []),Func.mk [1,0] 0 (Z0.mk 0 0 []),Func.mk [0] 1 (Z0.mk 0 0 [])] k3.toNat (by simp only [YD,X6];omega)
 refine dx 21 (Zh (some v20) k3 5 (CU X0)) (Zk 3 4 [22] (Z8 23 (OZ 23 [] [] (Zb (X3 [Func.mk [] 0 (Z0.mk 0 0 []),x1,x2,x3])) 4 5 fun g1=>Zk 1 2 [24] (Z8 25 (Yy 25 22 [] [] b2 [K5 ds1 v1,.ms g1 0 4 4] (de (Yg 1 (iL (Z7 [4,4,3,2,4]) 5 1 fun v22=>ZE 0 [(74,Z6 [4,4,3,2,4])] (ic [3] (RP rd bs ((((p+1)+1)+1)+1) [4,4,3,2,4] (Zs:=ob) (hy:=(by decide))) ?_)))))))))
 rintro _ _ ⟨nn1,rfl,rfl,X7⟩
 have hnn:=Z18 (a:=2) (b:=4) X7 (by decide)
 refine Z1 (Zo 3 [2] (Zm (Fx 3 g1 4 4 nn1 5 (Zb (X3 [Func.mk [] 0 (Z0.mk 0 0 []),x1,x2,x3]))) (Z2 1 (ZA 2 b2 [K5 ds1 v1,.ms g1 0 nn1 4] (ie (X1 1 (ia (((nn1:Int)-1)) (((nn1:Int))-(1)) (Z1 (ab 0 (Y1 (fun fz gz m F h=>∃(j:Nat) (rq:List Func) (pq:Nat),(j<=nn1)/\(GL ds1 nn1 j rq)/\(p<=pq/\pq+90000*j<=p+10+90000*nn1)/\F=sF [0,2,3] fz [(8,.i ((j:Int)-1))]/\h=[Za gz 0,Yb rd bs pq,Za gz 25,Za gz 24,Xq g1 rq]/\m=j+1) _ _ _ ⟨nn1,[Func.mk [] 0 (Z0.mk 0 0 []),x1,x2,x3],((((p+1)+1)+1)+1)+1,ob,(GL.start (Gf Z5 (by decide)) (Gf Zu (by decide)) (Gf X0 (by decide))),ob,rfl,rfl,rfl⟩ (wk [0,0,23,22,1] fl) ?_))))))))))
 rintro m F h ⟨j,rq,pq,Yf,Zj,Zp,rfl,rfl,rfl⟩
 refine Xd (ZQ (((j:Int)-1)>=0) (fun Z9=>?_) (fun Z9=>?_))
 ·obtain ⟨f1,hf1⟩:=Zq (rq.take nn1) (((j:Int)-1).toNat) (by rw [Zj.len_take om];omega)
  have hfq:rq[j-1]? = some f1:=by have h:=hf1;rw [show ((j:Int)-1).toNat=j-1 by omega,List.getElem?_take_of_lt om] at h;exact h
  refine ak (aq (ab 1 (ar (TW 3 [(88,.agg [YL ds1,.ms g1 0 nn1 4])] [0] (ic [1,3] (R5 rd bs pq (XI.mk ds1 (rq.take nn1)) g1 rq f1 ((j:Int)-1) nn1 (Zs:=ob) (hg:=(Zj.gp hgd om)) (XV:=(List.take_prefix nn1 rq)) (hf:=hf1) (h0:=(fun h=>Zj.zero f1 (by rw [<-hfq,show j-1=0 by omega]))) (hn:=(Zj.len_take om))) ?_)))))
  rintro _ _ ⟨e1,p21,rfl,rfl,XX⟩
  have hbw:eW ds1 nn1 f1.params.length e1/\(e1).sz<=30:=by have h:=XX.1;unfold GE at h;rw [show (XI.mk ds1 (rq.take nn1)).funcs.length=nn1 from Zj.len_take om] at h;exact h
  exact iA [.i 0,.i 0,nl] fun b3=>ZA 0 b3 (YE e1) (ie (aE 19 (ZG 13 19 [0,1,2,3,4,5] [3,3] (dx 6 (XS g1 nn1 4 (((j:Int)-1).toNat) 5 ((j:Int)-1)) (Zk 11 12 [7] (Vt 8 (WC 2 g1 4 4 5 ((((j:Int)-1).toNat)*5+0) (Zb (X3 rq)) [Z6 f1.params] 31 (Z6 f1.params) (VC (List.take_prefix nn1 rq) hf1 0 rfl (Wv rfl))) (ZG 7 10 [9,10,11] [3] (dx 12 (XS g1 nn1 4 (((j:Int)-1).toNat) 5 ((j:Int)-1)) (Zk 5 6 [13] (Vt 14 (WC 2 g1 4 4 5 ((((j:Int)-1).toNat)*5+1) (Zb (X3 rq)) [.i f1.result] 3 (.i f1.result) (VC (List.take_prefix nn1 rq) hf1 1 rfl (Wv rfl))) (ZG 2 4 [15,16] [0] (dx 17 (XS g1 nn1 4 (((j:Int)-1).toNat) 5 ((j:Int)-1)) (Z8 18 (JW 18 2 [] [] g1 4 4 5 ((((j:Int)-1).toNat)*5) [Z6 f1.params,.i f1.result,.i e1.op,.i e1.num,X9 e1.kids] (Zb (X3 rq)) (Zb (X3 (rq.set ((j:Int)-1).toNat ⟨f1.params,f1.result,e1⟩))) (by rw [F7,Zj.len];simp only [YD,X6];omega) (PL ⟨f1.params,f1.result,e1⟩ (by rw [Zj.len];omega)) (de (az (Z2 1 (ia ((((j:Int)-1)-1)) (((j:Int)-1)-(1)) (Z1 (ZI ⟨(j-1),(rq.set ((j:Int)-1).toNat ⟨f1.params,f1.result,e1⟩),p21,ob,(by rw [show ((j:Int)-1).toNat=j-1 by omega];exact Zj.set om hfq hbw),ob,rfl,rfl,rfl⟩ (wk [3,2,2,2,0] (fc (x:=.i (((j:Int)-1)-1)) li fl))))))))))))))))))))))
 exact ax 0 (Zo 1 [0] (ZA 2 b1 [K5 ds1 v1,.ms g1 0 nn1 4] (ie (ZJ (r3 [4,2] [.agg [K5 ds1 v1,.ms g1 0 nn1 4]] [0] [(b1,b1)] ⟨rq,ds1,nn1,g1,pq,rfl,rfl,⟨⟨by rw [show j=0 by omega] at Zj;exact Zj,hgd,by omega,by omega⟩,by omega⟩⟩ (Zd.agg (.cons (Zd.forget _ _) (.cons (lr _) .nil))))))))
theorem Rr (rd:Nat) (bs:LI) (p:Nat) (Zs:∀z∈bs,0<=z/\z<=255) (hp:p+400000<=1000000000:=by exact ob):Zf 134 [.p rd 0] [Yb rd bs p] (fun r h=>∃(g:XI) (p2:Nat),r=Ko g/\h=[Yb rd bs p2]/\Ef g/\p<=p2/\p2<=p+400000):=(W3.frzP (E:=List Func × List Zc × Nat × Nat) (ds:=fun e=>e.2.1) (rs:=fun e=>e.1) (m:=fun e=>e.2.2.1) (hs:=fun e=>[.obj rd [Vd bs,.i (e.2.2.2:Nat)]]) (Q:=fun e=>(GL e.2.1 e.2.2.1 0 e.1/\GD e.2.1/\1<=e.2.2.1/\e.2.2.1<=4)/\p<=e.2.2.2/\e.2.2.2<=p+400000)
  ((Rs rd bs p Zs hp).mono fun r h ⟨rs,ds,m,gb,p2,hr,hh,hq⟩=>⟨(rs,ds,m,p2),gb,hr,hh,hq⟩) fun e hq=>⟨hq.1.2.2.2,hq.1.1.len⟩).mono
  fun r h ⟨e,hr,hh,hq⟩=>⟨⟨e.2.1,e.1.take e.2.2.1⟩,e.2.2.2,hr,hh,hq.1.1.done hq.1.2.1 hq.1.2.2,hq.2⟩
theorem Fg (a:Nat) (n:Nat) (ha:a<=1000000:=by exact ob) (hn:n<=1000000:=by exact ob):Zf 175 [.i a,.i n] [] (fun r h=>∃(xs:LI),r=Z6 xs/\h=[]/\xs.length=n/\∀i∈xs,(a:Int)<=i/\i<(a:Int)+n):=by
 refine ZD 20 Tryz.func175 (Y9 (ar (iL (Z7 []) 0 1 fun v1=>?_)))
 refine Z1 (Y0 (ab 0 (Y1 (fun fz gz m F h=>∃(k:Nat) (ys:LI) (u:Value),(k<=n)/\(ys.length=k)/\(∀i∈ys,(a:Int)<=i/\i<(a:Int)+n)/\F=sF [0,1] fz [(5,ZO ys u),(6,.i k)]/\h=[.tail u 1]/\m=n-k) _ _ _ ⟨0,[],v1,ob,ob,(fun i hi=>by cases hi),rfl,rfl,rfl⟩ (wk [0] (fr (Yd fl))) ?_)))
 rintro m F h ⟨k,ys,u,Yf,Zj,Zp,rfl,rfl,rfl⟩
 refine Xd (ZQ ((k:Int)<(n:Int)) (fun Z9=>?_) (fun Z9=>?_))
 ·exact ak (aq (ab 1 (az (Z2 3 (ia (((a+k:Nat):Int)) (((a:Int))+((k:Int))) (iL (Z7 [((a+k:Nat):Int)]) 1 1 fun v2=>ZE 0 [(17,Z6 [((a+k:Nat):Int)])] (ip 1 (Z7 (ys++[((a+k:Nat):Int)])) (Z7 ys) (Z7 [((a+k:Nat):Int)]) u none 1 (Yw _) (Yw _) (XT _) (by simp<;>omega) (by simp [XQ,Z7]) fun v3=>Z1 (az (Z2 1 (ZF k (Z1 (ZI ⟨k+1,(ys++[((a+k:Nat):Int)]),v3,ob,ob,(Xb Zp om),rfl,rfl,rfl⟩ (wk [0] (fr (ZL k fl)))))))))))))))
 exact ax 0 (ar (Zt (r2 [] [ZO ys u] ⟨ys,rfl,rfl,⟨by omega,Zp⟩⟩ (Zd.forget _ _))))
theorem I5 (l:Nat) (xs:List Z4) (w:Value) (q:Nat) (s:Z4) (hl:xs.length<=4000000000:=by exact ob) (hq:q<=1000000:=by exact ob):Zf 269 [.p l 0,Yp s] [.obj l [YG xs w,.i q],.tail w 5] (fun r h=>∃(w2:Value),r=.i q/\h=[.obj l [YG (xs++[s]) w2,.i (((q+1):Nat):Int)],.tail w2 5]):=by
 exact ZD 28 Tryz.func269 (ar (iA (Xg s) fun b1=>Z1 (aD 11 (ZG 5 11 [0,1,2,3,4,5] [1,0] (Z8 6 (W5 6 [1] [l] [Yp s] (Zi [s]) (WM [s]).symm 1 5 fun v1=>Yh 4 4 [] [(11,Wo [s])] (Z8 7 (dp 7 3 [] [] (Zi (xs++[s])) (Zi xs) (Zi [s]) w none 5 (YX _) (YX _) (V2 _) (by simp<;>omega) (by simp [Wi,Zi]) fun v2=>Zk 1 3 [8,9] (Z8 10 (Yy 10 3 [] [] l [YG (xs++[s]) v2,.i q] (de (Zo 5 [0] (ZF q (Z2 2 (ZA 0 l [YG (xs++[s]) v2,.i (q+1:Nat)] (ie (Zo 4 [0] (ia ((((q+1:Nat):Int)-1)) ((((q+1:Nat):Int))-(1)) (Zt (r2 [0,0] [.i (((q+1:Nat):Int)-1)] ⟨v2,rfl,rfl⟩ li))))))))))))))))))))
theorem Ig (g:XI) (e:Z0) (us:LI) (q:Nat) (bb:Nat) (he:eW g.decls g.funcs.length us.length e:=by exact ob) (hu:∀a∈us,0<=a/\a<(q:Int)) (hul:us.length+4*e.sz<=100000:=by exact ob) (hql:q+6*e.sz<=100000:=by exact ob) (hb:e.sz<bb:=by exact ob) (ih:∀(l:Nat) (e2:Z0) (us2:LI) (xs2:List Z4) (w2:Value) (q2:Nat),(eW g.decls g.funcs.length us2.length e2)->(∀a∈us2,0<=a/\a<(q2:Int))->(us2.length+4*e2.sz<=100000)->(xs2.length+6*e2.sz<=100000)->(q2+6*e2.sz<=100000)->(e2.sz<bb)->Zf 224 [.p l 0,Ko g,ZM e2,Z6 us2] [.obj l [YG xs2 w2,.i q2],.tail w2 5] (fun r h=>∃(ys:List Z4) (v:Int) (w2:Value),r=.i v/\h=[.obj l [YG (xs2++ys) w2,.i (((q2+YI ys):Nat):Int)],.tail w2 5]/\LW g.decls g.funcs.length q2 e2 ys v)):Zf 174 [Ko g,ZM e,Z6 us,.i q] [] (fun r h=>∃(b:Z3),r=ZC b/\h=[]/\LB g.decls g.funcs.length q e b):=by
 refine ZD 26 Tryz.func174 (ar (iA (FE g) fun b1=>iA (YE e) fun b2=>iA [nl,.i 0] fun b3=>ie (ar (iL (Zi []) 0 5 fun v1=>Z2 2 (iA [YG [] v1,.i q] fun b4=>Z1 (Zo 4 [4,3] (ic [0,0] (ih b4 e us [] v1 q he hu ob ob ob ob) ?_)))))))
 rintro _ _ ⟨ys1,v2,w21,rfl,rfl,ZX⟩
 have hlw:=ZX
 exact Z1 (Zo 6 [0] (ZA 2 b3 [YG ([]++ys1) w21,.i v2] (ie (ZJ (r3 [] [.agg [YG ([]++ys1) w21,.i v2]] [0] [(b3,b3)] ⟨(Z3.mk ([]++ys1) v2),rfl,rfl,(by rw [Ki];exact hlw.block)⟩ (Zd.agg (.cons (Zd.forget _ _) (.cons (lr _) .nil))))))))
theorem RG (l:Nat) (g:XI) (e:Z0) (us:LI) (xs:List Z4) (w:Value) (q:Nat) (hd:GD g.decls) (he:eW g.decls g.funcs.length us.length e) (hu:∀a∈us,0<=a/\a<(q:Int)) (hul:us.length+4*e.sz<=100000) (hxl:xs.length+6*e.sz<=100000) (hql:q+6*e.sz<=100000) (ih:∀(l:Nat) (e2:Z0) (us2:LI) (xs2:List Z4) (w2:Value) (q2:Nat),(eW g.decls g.funcs.length us2.length e2)->(∀a∈us2,0<=a/\a<(q2:Int))->(us2.length+4*e2.sz<=100000)->(xs2.length+6*e2.sz<=100000)->(q2+6*e2.sz<=100000)->(e2.sz<e.sz)->Zf 224 [.p l 0,Ko g,ZM e2,Z6 us2] [.obj l [YG xs2 w2,.i q2],.tail w2 5] (fun r h=>∃(ys:List Z4) (v:Int) (w2:Value),r=.i v/\h=[.obj l [YG (xs2++ys) w2,.i (((q2+YI ys):Nat):Int)],.tail w2 5]/\LW g.decls g.funcs.length q2 e2 ys v)):Zf 224 [.p l 0,Ko g,ZM e,Z6 us] [.obj l [YG xs w,.i q],.tail w 5] (fun r h=>∃(ys:List Z4) (v:Int) (w2:Value),r=.i v/\h=[.obj l [YG (xs++ys) w2,.i (((q+YI ys):Nat):Int)],.tail w2 5]/\LW g.decls g.funcs.length q e ys v):=by
 have XB:=hd.ok
 obtain ⟨ho,h12,h13,h7,h8,h9,hnum,hkl,hks⟩:=(Pw e).1 he
 have hez:=e.sz_eq
 refine ZD 148 Tryz.func224 (ar (iA (FE g) fun b1=>iA (YE e) fun b2=>Z1 (Xd (VG [0] (ab 0 (ar (YR (e.op==12) ZB (fun Z9=>?_) (fun Z9=>?_))))))))
 ·refine Zo 3 [0] ?_
  obtain ⟨x1,Z5⟩:=Zq us e.num.toNat (by have:=h12 om;omega)
  have huv:=hu _ (ZW Z5)
  exact Zm (Zh none e.num 1 (ZZ Z5)) (Zt (r1 [2,2] ⟨[],x1,w,rfl,rfl,(LW.var huv)⟩ (eq:=(ro (ls:=[YG xs w,.i q]) (by simp [YI]) (rc rz)))))
 refine ar (YR (e.op==13) ZB (fun Zg=>?_) (fun Zg=>?_))
 ·refine aD 9 (ZG 5 9 [0,1,2,3] [1,0] ?_)
  obtain ⟨x2,Zu⟩:=Zq e.kids 0 (by have:=h13 om;omega)
  have hekx2:=AS hks Zu
  have hszx2:=A4 Zu
  have htzx2:=Jl Zu
  rw [Wt] at hekx2
  rw [Ml om] at hekx2
  refine dx 4 (Zh none 0 3 (AO Zu)) (Zk 2 4 [5,6] (Z8 7 (dc 7 [2,2] [] [] (ih l x2 us xs w q (by first|assumption|(rw [Yk];assumption)) (by first|assumption|exact Co hu hlwhp1.v|exact E2 hu) (by first|omega|(simp only [Yk,YD,X6];omega)) (by first|omega|(simp only [Yk,YD,X6];omega)) ob ob) ?_)))
  rintro _ _ ⟨ys1,v1,w21,rfl,rfl,ZX⟩
  have hlwhp1:=ZX
  have hldhp1:=ZX.dn
  refine Zk 0 1 [8] (de (aD 12 (ZG 8 12 [0,1,2,3] [3,2] ?_)))
  obtain ⟨x3,X0⟩:=Zq e.kids 1 (by have:=h13 om;omega)
  have hz2:=HN Zu X0
  have hz3:=x2.sz_eq
  have hekx3:=AS hks X0
  have hszx3:=A4 X0
  have htzx3:=Jl X0
  rw [Wt] at hekx3
  rw [Ml om] at hekx3
  refine dx 4 (Zh none 1 3 (AO X0)) (Zk 4 7 [5,6,7] (Z8 8 (dL 8 [1,2] [b2,b1] (Z7 [v1]) 1 1 fun v2=>Yh 3 3 [] [(45,Z6 [v1])] (Z8 9 (dc 9 [] [1,2] [b2,b1] (TG us [v1]) ?_)))))
  rintro _ _ ⟨v3,rfl,rfl⟩
  refine Yh 2 2 [] [(46,Z6 (us++[v1]))] (Z8 10 (dc 10 [2,2] [] [] (ih l x3 (us++[v1]) (xs++ys1) w21 (q+YI ys1) (by first|assumption|(rw [Yk];assumption)) (by first|assumption|exact Co hu hlwhp1.v|exact E2 hu) (by first|omega|(simp only [Yk,YD,X6];omega)) (by first|omega|(simp only [Yk,YD,X6];omega)) ob ob) ?_))
  rintro _ _ ⟨ys2,v4,w22,rfl,rfl,Yc⟩
  have hlwhp2:=Yc
  have hldhp2:=Yc.dn
  exact Zk 0 1 [11] (de (ZJ (r1 [0,0] ⟨(ys1++ys2),v4,w22,rfl,rfl,(LW.let_ hlwhp1 hlwhp2 (by have:=HN Zu X0;omega))⟩ (eq:=(ro (ls:=[YG ((xs++ys1)++ys2) w22,.i ((((q+YI ys1)+YI ys2):Nat):Int)]) (by rw [Qu,<-J6,VT]) (rc rz))))))
 refine Y0 (XA (fun fz gz F h=>F=sF [0,3,5,6] fz [(48,.b ((e.op==7)||(e.op==8)))]/\h=gz) ?_ ?_)
 ·refine ac (e.op==7) ZB (fun ZK=>?_) (fun ZK=>?_)
  ·exact ak (ZH ⟨rfl,rfl⟩ (ZT 4 (fc (x:=.b (e.op==7)) (lb (by first|rfl|(rw [Zw ZK])|(rw [Zr ZK])|(simp [ZK];done)|(rw [Xl];simp [ZK];done)|omega)) fl)))
  exact UN (ZH ⟨rfl,rfl⟩ (ZT 4 (fc (x:=.b (e.op==8)) (lb (by first|rfl|(rw [Zw ZK])|(rw [Zr ZK])|(simp [ZK];done)|(rw [Xl];simp [ZK];done)|omega)) fl)))
 rintro F h ⟨rfl,rfl⟩
 refine ac ((e.op==7)||(e.op==8)) (p:=(e.op=7)∨(e.op=8)) (Xu ZB ZB) (fun Yt=>?_) (fun Yt=>?_)
 ·refine aD 9 (ZG 5 9 [0,1,2,3] [1,0] ?_)
  obtain ⟨x4,Tc⟩:=Zq e.kids 0 om
  have hekx4:=AS hks Tc
  have hszx4:=A4 Tc
  have htzx4:=Jl Tc
  rw [Wt] at hekx4
  rw [Z31 om] at hekx4
  refine dx 4 (Zh none 0 3 (AO Tc)) (Zk 2 4 [5,6] (Z8 7 (dc 7 [2,2] [] [] (ih l x4 us xs w q (by first|assumption|(rw [Yk];assumption)) (by first|assumption|exact Co hu hlwhp1.v|exact E2 hu) (by first|omega|(simp only [Yk,YD,X6];omega)) (by first|omega|(simp only [Yk,YD,X6];omega)) ob ob) ?_)))
  rintro _ _ ⟨ys3,v5,w23,rfl,rfl,YM⟩
  have hlwhp3:=YM
  have hldhp3:=YM.dn
  refine Zk 0 1 [8] (de (ar (iL (Ys []) 0 2 fun v6=>Z1 (Zo 4 [4,3] (ic [] (K9 g.decls e.num) ?_)))))
  rintro _ _ ⟨v7,rfl,rfl⟩
  refine Z1 (Y0 (ab 1 (Y1 (fun fz gz m F h=>∃(k:Nat) (cs:List Z3) (u:Value),(1<=k/\k<=e.kids.length)/\(cs.length+1=k)/\(Up g.decls g.funcs.length (VH g.decls e.op e.num (q+YI ys3)) 0 cs)/\(YH cs+6*x4.sz<=cs.length+6*X8 (e.kids.take k))/\(TC Wc cs)/\F=sF [0,3,5,6,10] fz [(11,U7 cs u),(12,Z6 (Y2 g.decls e.num)),(13,.i k)]/\h=[Za gz 2,Za gz 4,Za gz 5,.tail u 2,Za gz 3]/\m=e.kids.length-k) _ _ _ ⟨1,[],v6,ob,ob,True.intro,(by have h:X8 (e.kids.take 1)=X8 (e.kids.take 0)+x4.sz:=Jl Tc;simp only [YH,X6];omega),True.intro,rfl,rfl,rfl⟩ (wk [2,3,3,1,1] (fr (fc (x:=ZO (Y2 g.decls e.num) v7) (Zd.forget _ _) (fc (x:=.i 1) li fl)))) ?_)))
  rintro m F h ⟨k,cs,u,Yf,Zj,Zp,YA,XZ,rfl,rfl,rfl⟩
  refine Y7 3 [1] (iw (EU e.kids) (ZQ ((k:Int)<(e.kids.length:Int)) (fun XG=>?_) (fun XG=>?_)))
  ·refine ak (aq (ab 2 (Y9 (Xd (VG [1] (XA (fun fz gz F h=>∃(mf:Nat),(VH g.decls e.op e.num (q+YI ys3) cs.length=(q+YI ys3)+mf)/\(mf<=3)/\(UH g.decls e.op e.num us.length k=us.length+mf)/\F=sF [0,3,5,6,10,11,12,13] fz [(14,.i mf)]/\h=gz) ?_ ?_))))))
   ·refine ac (e.op==8) ZB (fun XH=>?_) (fun XH=>?_)
    ·refine aE 10 (ZG 6 10 [0,1,2,3] [2] (da 4 (((k-1:Nat):Int)) (((k:Int))-(1)) ?_))
     obtain ⟨x5,UW⟩:=Zq (Y2 g.decls e.num) (k-1) (by have:=h8 om;omega)
     exact dx 5 (Zh none ((k-1:Nat):Int) 1 (ZZ UW)) (Zk 3 4 [6] (Z8 7 (Yo 7 [] [] [] (TX g.decls x5) (dn 8 (.i (((Y5 g.decls x5).length:Nat):Int)) (.i (((Z7 (Y5 g.decls x5)).length:Nat):Int)) (li (by rw [Ye])) (Zk 0 1 [9] (de (ZH ⟨(Y5 g.decls x5).length,(Gd om (by rw [show cs.length=k-1 by omega];exact UW)),(by have:=VB XB x5;omega),(Z32 om (show k=(k-1)+1 by omega) UW),rfl,rfl⟩ (ZT 5 (fc (x:=.i (((Y5 g.decls x5).length:Nat):Int)) (li (by first|rfl|(rw [Zw XH])|(rw [Zr XH])|(simp [XH];done)|(rw [Xl];simp [XH];done)|omega)) fl)))))))))
    exact ak (ZH ⟨0,(Ge om),om,(Mm om),rfl,rfl⟩ (ZT 5 (fc (x:=.i 0) (li (by first|rfl|(rw [Zw XH])|(rw [Zr XH])|(simp [XH];done)|(rw [Xl];simp [XH];done)|omega)) fl)))
   rintro F h ⟨mf,SQ,Z6w,SR,rfl,rfl⟩
   refine aE 25 (ZG 20 25 [0,1,2,3,4] [2,1] ?_)
   obtain ⟨x6,Qz⟩:=Zq e.kids k om
   have hekx6:=AS hks Qz
   have hszx6:=A4 Qz
   have htzx6:=Jl Qz
   rw [Wt] at hekx6
   rw [SR] at hekx6
   have htk:=KF (xs:=e.kids) (k+1)
   have hbl:=CH cs
   refine dx 5 (Zh none (k:Int) 3 (AO Qz)) (ZG 7 19 [6,7,8,9,10,11,12,15,16,17,18,19] [0,0] (da 20 ((((q+YI ys3)+mf:Nat):Int)) (((((q+YI ys3):Nat):Int))+((mf:Int))) (Z8 13 (dc 13 [] [0,1,2] [l,b2,b1] (Fg (q+YI ys3) mf) ?_))))
   rintro _ _ ⟨xs1,rfl,rfl,YZ⟩
   have hnx:=YZ
   refine Z8 14 (dc 14 [] [0,1,2] [l,b2,b1] (TG us xs1) ?_)
   rintro _ _ ⟨v8,rfl,rfl⟩
   refine Yh 4 4 [] [(98,Z6 (us++xs1))] (Z8 21 (dc 21 [] [] [] (Ig g x6 (us++xs1) ((q+YI ys3)+mf) e.sz (he:=(by rw [Yk,hnx.1];exact hekx6)) (hu:=(Z5j hu hnx.2)) (hul:=(by rw [Yk,hnx.1];omega)) (hql:=om) (ih:=ih)) ?_))
   rintro _ _ ⟨b3,rfl,rfl,X7⟩
   have hlb:=X7
   exact Z8 22 (W5 22 [] [] [ZC b3] (Ys [b3]) (VY [b3]).symm 1 2 fun v9=>Yh 2 2 [] [(106,XF [b3])] (Z8 23 (dp 23 5 [] [] (Ys (cs++[b3])) (Ys cs) (Ys [b3]) u none 2 (Uz _) (Uz _) (CR _) (by simp<;>omega) (by simp [KC,Ys]) fun v10=>Zk 0 1 [24] (de (az (Z2 1 (ZF k (Z1 (ZI ⟨k+1,(cs++[b3]),v10,ob,ob,(HP Zp (by rw [SQ];exact hlb.1)),(by have:=hlb.2;rw [Bz,Yk];simp only [YH,YD,X6];omega),(Lp XZ hlb.op),rfl,rfl,rfl⟩ (wk [3,3,3,0,2] (fw (ZL k fl))))))))))))
  refine ax 1 (Zo 6 [1,1] (iL (Z7 [v5]) 1 1 fun v11=>ZE 2 [(116,.agg [.i e.op,.i e.num,.i 0,Z6 [v5],XF cs])] (ic [1,4] (I5 l (xs++ys3) w23 (q+YI ys3) (Z4.mk e.op e.num 0 [v5] cs) (hl:=(by first|(have h1:=QE zs;have h2:=KF (xs:=e.kids) k;have h3:=Jj zs;(try simp only [Yk]);omega)|((try simp only [Yk]);omega))) (hq:=(by first|(have h1:=QE zs;have h2:=KF (xs:=e.kids) k;have h3:=Jj zs;(try simp only [Yk]);omega)|((try simp only [Yk]);omega)))) ?_)))
  rintro _ _ ⟨w24,rfl,rfl⟩
  refine Z1 ?_
  have hcb:YP e.op=false:=by simp [YP];omega
  exact ZJ (r1 [0,0] ⟨(ys3++[Z4.mk e.op e.num 0 [v5] cs]),(((q+YI ys3):Nat):Int),w24,rfl,rfl,(LW.branch (s0:=x4.sz) (sr:=X8 (e.kids.take k)-x4.sz) om (fun h=>by have:=h7 h;omega) (fun h=>by have:=h8 h;omega) hnum hlwhp3.fs hlwhp3.v Zp om hlwhp3.sz (by have:=CH cs;omega) (by have:=KF (xs:=e.kids) k;omega) hlwhp3.op XZ)⟩ (eq:=(ro (ls:=[YG ((xs++ys3)++[(Z4.mk e.op e.num 0 [v5] cs)]) w24,.i ((((q+YI ys3)+1):Nat):Int)]) (by rw [BC (s:=Z4.mk e.op e.num 0 [v5] cs) hcb,<-J6,VT]) (rc rz))))
 refine ak (ar (iL (Z7 []) 0 1 fun v12=>?_))
 refine Z1 (Y0 (ab 3 (Y1 (fun fz gz m F h=>∃(k:Nat) (asl:LI) (u:Value) (zs:List Z4) (w3:Value),(k<=e.kids.length)/\(asl.length=k)/\(U1 g.decls g.funcs.length q zs)/\(∀a∈asl,0<=a/\a<((q+YI zs:Nat):Int))/\(Y3 zs<=6*X8 (e.kids.take k))/\(UE Wc zs)/\F=sF [0,3,5,6] fz [(15,ZO asl u),(16,.i k)]/\h=[Za gz 1,Za gz 2,.obj l [YG (xs++zs) w3,.i (((q+YI zs):Nat):Int)],.tail u 1,.tail w3 5]/\m=e.kids.length-k) _ _ _ ⟨0,[],v12,[],w,ob,ob,True.intro,(fun a ha=>by cases ha),(by simp [Y3]),True.intro,rfl,rfl,rfl⟩ (wk [1,1,1,0,0] (fr (Yd fl)) (e:=(rc (rc (ro (ls:=[YG xs w,.i q]) (by simp [YI]) (rc (rc rz))))))) ?_)))
 rintro m F h ⟨k,asl,u,zs,w3,VX,Wh,Xm,Ez,Z6g,He,rfl,rfl,rfl⟩
 refine Y7 3 [0] (iw (EU e.kids) (ZQ ((k:Int)<(e.kids.length:Int)) (fun TS=>?_) (fun TS=>?_)))
 ·refine ak (aq (ab 4 (aD 10 (ZG 5 10 [0,1,2,3,4] [1,0] ?_))))
  obtain ⟨x7,De⟩:=Zq e.kids k om
  have hzl:=QE zs
  have hzd:=Jj zs
  have htk:=KF (xs:=e.kids) (k+1)
  have hekx7:=AS hks De
  have hszx7:=A4 De
  have htzx7:=Jl De
  rw [Wt] at hekx7
  rw [Mm om] at hekx7
  refine dx 5 (Zh none (k:Int) 3 (AO De)) (Zk 2 4 [6,7] (Z8 8 (dc 8 [2,3] [] [] (ih l x7 us (xs++zs) w3 (q+YI zs) (by first|assumption|(rw [Yk];assumption)) (by first|assumption|exact Co hu hlwhp1.v|exact E2 hu) (by first|omega|(simp only [Yk,YD,X6];omega)) (by first|omega|(simp only [Yk,YD,X6];omega)) ob ob) ?_)))
  rintro _ _ ⟨ys4,v13,w25,rfl,rfl,XX⟩
  have hlwhp6:=XX
  have hldhp6:=XX.dn
  exact Zk 0 1 [9] (de (az (Z2 2 (iL (Z7 [v13]) 1 1 fun v14=>ZE 0 [(137,Z6 [v13])] (ip 5 (Z7 (asl++[v13])) (Z7 asl) (Z7 [v13]) u none 1 (Yw _) (Yw _) (XT _) (by simp<;>omega) (by simp [XQ,Z7]) fun v15=>Z1 (az (Z2 1 (ZF k (Z1 (ZI ⟨k+1,(asl++[v13]),v15,(zs++ys4),w25,ob,ob,(AT.2 ⟨Xm,hlwhp6.fs⟩),(by rw [Qu,<-J6];exact Co Ez hlwhp6.v),(by have:=hlwhp6.sz;rw [Um];omega),(DA.2 ⟨He,hlwhp6.op⟩),rfl,rfl,rfl⟩ (wk [4,4,2,0,1] (fr (ZL k fl)) (e:=(rc (rc (ro (ls:=[YG ((xs++zs)++ys4) w25,.i ((((q+YI zs)+YI ys4):Nat):Int)]) (by rw [Qu,<-J6,VT]) (rc (rc rz)))))))))))))))))
 refine ax 3 (Zo 6 [0,0] (iL (Ys []) 0 2 fun v16=>ZE 1 [(146,.agg [.i e.op,.i e.num,.i 0,Z6 asl,XF []])] (ic [3,4] (I5 l (xs++zs) w3 (q+YI zs) (Z4.mk e.op e.num 0 asl []) (hl:=(by first|(have h1:=QE zs;have h2:=KF (xs:=e.kids) k;have h3:=Jj zs;(try simp only [Yk]);omega)|((try simp only [Yk]);omega))) (hq:=(by first|(have h1:=QE zs;have h2:=KF (xs:=e.kids) k;have h3:=Jj zs;(try simp only [Yk]);omega)|((try simp only [Yk]);omega)))) ?_)))
 rintro _ _ ⟨w26,rfl,rfl⟩
 refine Z1 ?_
 have hcb:YP e.op=false:=by simp [YP];omega
 exact ZJ (r1 [0,0] ⟨(zs++[Z4.mk e.op e.num 0 asl []]),(((q+YI zs):Nat):Int),w26,rfl,rfl,(LW.node om h9 hnum Xm Ez om (by have:=KF (xs:=e.kids) k;omega) He)⟩ (eq:=(ro (ls:=[YG ((xs++zs)++[(Z4.mk e.op e.num 0 asl [])]) w26,.i ((((q+YI zs)+1):Nat):Int)]) (by rw [BC (s:=Z4.mk e.op e.num 0 asl []) hcb,<-J6,<-VT]) (rc rz))))
theorem RE (l:Nat) (g:XI) (e:Z0) (us:LI) (xs:List Z4) (w:Value) (q:Nat) (hd:GD g.decls) (he:eW g.decls g.funcs.length us.length e) (hu:∀a∈us,0<=a/\a<(q:Int)) (hul:us.length+4*e.sz<=100000) (hxl:xs.length+6*e.sz<=100000) (hql:q+6*e.sz<=100000):Zf 224 [.p l 0,Ko g,ZM e,Z6 us] [.obj l [YG xs w,.i q],.tail w 5] (fun r h=>∃(ys:List Z4) (v:Int) (w2:Value),r=.i v/\h=[.obj l [YG (xs++ys) w2,.i (((q+YI ys):Nat):Int)],.tail w2 5]/\LW g.decls g.funcs.length q e ys v):=by
 have key:∀k:Nat,∀(l:Nat) (e2:Z0) (us2:LI) (xs2:List Z4) (w2:Value) (q2:Nat),(eW g.decls g.funcs.length us2.length e2)->(∀a∈us2,0<=a/\a<(q2:Int))->(us2.length+4*e2.sz<=100000)->(xs2.length+6*e2.sz<=100000)->(q2+6*e2.sz<=100000)->(e2.sz<k)->Zf 224 [.p l 0,Ko g,ZM e2,Z6 us2] [.obj l [YG xs2 w2,.i q2],.tail w2 5] (fun r h=>∃(ys:List Z4) (v:Int) (w2:Value),r=.i v/\h=[.obj l [YG (xs2++ys) w2,.i (((q2+YI ys):Nat):Int)],.tail w2 5]/\LW g.decls g.funcs.length q2 e2 ys v):=by
  intro k
  induction k with
  | zero=>intro l e2 us2 xs2 w2 q2 h1 h2 h3 h4 h5 h6;omega
  | succ k ih=>intro l e2 us2 xs2 w2 q2 h1 h2 h3 h4 h5 h6;exact RG l g e2 us2 xs2 w2 q2 hd h1 h2 h3 h4 h5 fun l e3 us3 xs3 w3 q3 a1 a2 a3 a4 a5 a6=>ih l e3 us3 xs3 w3 q3 a1 a2 a3 a4 a5 om
 exact key (e.sz+1) l e us xs w q he hu hul hxl hql om
theorem Ff (g:XI) (e:Z0) (us:LI) (q:Nat) (hd:GD g.decls:=by exact ob) (he:eW g.decls g.funcs.length us.length e:=by exact ob) (hu:∀a∈us,0<=a/\a<(q:Int)) (hul:us.length+4*e.sz<=100000:=by exact ob) (hql:q+6*e.sz<=100000:=by exact ob):Zf 174 [Ko g,ZM e,Z6 us,.i q] [] (fun r h=>∃(b:Z3),r=ZC b/\h=[]/\LB g.decls g.funcs.length q e b):=(Ig g e us q (e.sz+1) he hu hul hql om (fun l e2 us2 xs2 w2 q2 h1 h2 h3 h4 h5 _=>RE l g e2 us2 xs2 w2 q2 hd h1 h2 h3 h4 h5))
theorem Ar (ds:List Zc) (hd:Wg ds:=by exact ob):Zf 96 [YL ds] [] (Yu (YL ds)):=by
 have hdl:=hd.len
 refine ZD 55 Tryz.func96 (Y9 (ar (iL (YW []) 0 3 fun v1=>?_)))
 refine Z1 (Y0 (ab 0 (Y1 (fun fz gz m F h=>∃(k:Nat) (v:Value),(k<=ds.length)/\F=sF [0] fz [(3,K5 (ds.take k) v),(4,.i k)]/\h=[.tail v 3]/\m=ds.length-k) _ _ _ ⟨0,v1,ob,rfl,rfl,rfl⟩ (wk [0] (fc (x:=K5 [] v1) (Zd.slh _ (Yr YW rfl)) (Yd fl))) ?_)))
 rintro m F h ⟨k,v,Yf,rfl,rfl,rfl⟩
 refine X1 2 (iw (Tu ds) (ZQ ((k:Int)<(ds.length:Int)) (fun Z9=>?_) (fun Z9=>?_)))
 ·obtain ⟨xd,hxd⟩:=Zq ds k om
  have hcl:=hd.cons_at hxd
  refine ak (aq (ab 1 (ar (iL (Wn []) 0 1 fun v2=>?_))))
  refine Z1 (Y0 (ab 2 (Y1 (fun fz gz m F h=>∃(j:Nat) (u:Value),(j<=xd.cons.length)/\F=sF [0,3,4] fz [(5,Dy (xd.cons.take j) u),(6,.i j)]/\h=[.tail u 1,Za gz 1]/\m=xd.cons.length-j) _ _ _ ⟨0,v2,ob,rfl,rfl,rfl⟩ (wk [0,0] (fc (x:=Dy [] v2) (Zd.slh _ (Yr Wn rfl)) (Yd fl))) ?_)))
  rintro m F h ⟨j,u,VX,rfl,rfl,rfl⟩
  refine X1 3 (Zm (Zh none (k:Int) 3 (VZ hxd)) (Z2 2 (iw (QV xd.cons) (ZQ ((j:Int)<(xd.cons.length:Int)) (fun Zg=>?_) (fun Zg=>?_)))))
  ·refine ak (aq (ab 3 (az (Z2 3 (Zm (Zh none (k:Int) 3 (VZ hxd)) (Z2 3 ?_))))))
   obtain ⟨x1,Z5⟩:=Zq xd.cons j om
   have hfl:=hd.fields_at hxd Z5
   refine Zm (Zh none (j:Int) 1 (CS Z5)) (Z2 2 (ic [] (Vp x1.fields) ?_))
   rintro _ _ ⟨v3,rfl,rfl⟩
   exact ZE 1 [(36,CE x1)] (iL (Wn [x1]) 1 1 fun v4=>ZE 0 [(37,Qk [x1])] (ip 2 (Wn (xd.cons.take (j+1))) (Wn (xd.cons.take j)) (Wn [x1]) u none 1 (ER _) (ER _) (Pn _) (by simp<;>omega) (by rw [Vq Z5];simp [Wn]) fun v5=>Z1 (az (Z2 1 (ZF j (Z1 (ZI ⟨j+1,v5,ob,rfl,rfl,rfl⟩ (wk [0,2] (fr (ZL j fl))))))))))
  exact ax 2 (aE 16 (Zk 13 16 [0,1,2] (dx 3 (Zh none (k:Int) 3 (VZ hxd)) (Zk 8 12 [4,5,6,7] (dx 8 (Zh none (k:Int) 3 (VZ hxd)) (Yh 3 7 [9,10,11,12] [(51,.agg [.i xd.frm,.i xd.to_,Qk (xd.cons.take j)])] (Z8 13 (dL 13 [] [] (YW [Zc.mk xd.frm xd.to_ (xd.cons.take j)]) 1 3 fun v6=>Yh 2 2 [] [(52,YL [Zc.mk xd.frm xd.to_ (xd.cons.take j)])] (Z8 14 (dp 14 2 [] [] (YW (ds.take (k+1))) (YW (ds.take k)) (YW [Zc.mk xd.frm xd.to_ (xd.cons.take j)]) v none 3 (KD _) (KD _) (CT _) (by simp<;>omega) (by rw [Vq hxd];simp [YW,WS (show xd.cons.length<=j by omega)]) fun v7=>Zk 0 1 [15] (de (az (Z2 1 (ZF k (Z1 (ZI ⟨k+1,v7,ob,rfl,rfl,rfl⟩ (wk [0] (fr (ZL k fl)))))))))))))))))))
 exact ax 0 (ar (Zt (Y4 (K5 (ds.take k) v) (Zd.sl _ (Yr YW (by rw [WS om]))))))
theorem RO (g:XI) (hg:Ef g:=by exact ob):Zf 133 [Ko g] [] (fun r h=>∃(n:Zx),r=Yl n/\h=[]/\FO n 181 Wc):=by
 have hgl:=hg.gp.len
 have XB:=hg.gp.decls.ok
 refine ZD 49 Tryz.func133 (ar (iA (FE g) fun b1=>iA [nl,nl] fun b2=>ie (Zo 2 [1] (Zv [] (Ar g.decls) (iL (Yx []) 0 5 fun v1=>Z2 1 (iA [nl,nl] fun b3=>?_))))))
 refine ZA 0 b3 [YL g.decls,W6 [] v1] (ie (Y0 (ab 0 (Y1 (fun fz gz m F h=>∃(k:Nat) (rs:List Y8) (u:Value),(k<=g.funcs.length)/\(rs.length=k)/\(∀r∈rs,RN g.decls g.funcs.length r)/\F=sF [1,2,3] fz [(4,.i k)]/\h=[.obj b3 [YL g.decls,W6 rs u],Za gz 2,Za gz 3,.tail u 5]/\m=g.funcs.length-k) _ _ _ ⟨0,[],v1,ob,ob,(fun r hr=>by cases hr),rfl,rfl,rfl⟩ (wk [0,1,1,0] (Yd fl)) ?_))))
 rintro m F h ⟨k,rs,u,Yf,Zj,Zp,rfl,rfl,rfl⟩
 refine Y7 3 [2] (iw (AP g.funcs) (ZQ ((k:Int)<(g.funcs.length:Int)) (fun Z9=>?_) (fun Z9=>?_)))
 ·refine ak (aq (ab 1 (Zo 3 [2] ?_)))
  obtain ⟨x1,Z5⟩:=Zq g.funcs k om
  have hso:=(hg.gp.sigs _ (ZW Z5)).bd
  have hsi:=hg.gp.sigs _ (ZW Z5)
  have hbo:=hg.body _ (ZW Z5)
  refine Zm (Zh none (k:Int) 5 (CU Z5)) (Z2 1 (iA [nl,.i 0,.i 0,.i 0,nl] fun b4=>?_))
  refine ZA 0 b4 (Dp x1) (ie (Zo 2 [0] (iw (Ye x1.params) (Z1 (aD 9 (ZG 4 9 [0,1,2,3,5] [3,0] (Kx (fun fz gz F h=>∃(b5:Z3) (b6:Nat) (xs1:LI),(xs1.length=x1.params.length/\∀i∈xs1,(0:Int)<=i/\i<(0:Int)+x1.params.length)/\(LB g.decls g.funcs.length x1.params.length x1.body b5)/\F=sF [1,2,3,4,5] fz [(7,.p b6 0)]/\h=[.obj b6 (YK b5),Za gz 0,Za gz 1,Za gz 2,Za gz 3,Za gz 4]) ?_ ?_)))))))
  ·refine WT 4 7 ?_ ?_
   ·refine dc 4 [] [0,3] [b4,b1] (Fg 0 x1.params.length) ?_
    rintro _ _ ⟨xs1,rfl,rfl,ZX⟩
    have hnx:=ZX
    refine WT 6 7 ?_ ?_
    ·refine dc 6 [] [] [] (Ff g x1.body xs1 x1.params.length (hd:=hg.gp.decls) (he:=(by rw [hnx.1];exact hbo.1)) (hu:=(fun a ha=>by have:=hnx.2 a ha;omega))) ?_
     rintro _ _ ⟨b5,rfl,rfl,Yc⟩
     have hlb:=Yc
     exact Z8 7 (dA 7 [] [] [nl,.i 0] fun b6=>Z8 8 (Yy 8 0 [] [] b6 (YK b5) (de (ZH ⟨_,b6,_,(by assumption),(by assumption),rfl,rfl⟩ (ZT 6 fl)))))
    refine dA 7 [0,3] [b4,b1] [nl,.i 0] fun b7=>Z8 6 (dc 6 [] [] [] (Ff g x1.body xs1 x1.params.length (hd:=hg.gp.decls) (he:=(by rw [hnx.1];exact hbo.1)) (hu:=(fun a ha=>by have:=hnx.2 a ha;omega))) ?_)
    rintro _ _ ⟨b8,rfl,rfl,YM⟩
    have hlb:=YM
    exact Z8 8 (Yy 8 0 [] [] b7 (YK b8) (de (ZH ⟨_,b7,_,(by assumption),(by assumption),rfl,rfl⟩ (ZT 6 fl))))
   refine dA 7 [0,3] [b4,b1] [nl,.i 0] fun b9=>Z8 4 (dc 4 [] [1,4] [b4,b1] (Fg 0 x1.params.length) ?_)
   rintro _ _ ⟨xs2,rfl,rfl,YZ⟩
   have hnx:=YZ
   refine Z8 6 (dc 6 [] [] [] (Ff g x1.body xs2 x1.params.length (hd:=hg.gp.decls) (he:=(by rw [hnx.1];exact hbo.1)) (hu:=(fun a ha=>by have:=hnx.2 a ha;omega))) ?_)
   rintro _ _ ⟨b10,rfl,rfl,X7⟩
   have hlb:=X7
   exact Z8 8 (Yy 8 0 [] [] b9 (YK b10) (de (ZH ⟨_,b9,_,(by assumption),(by assumption),rfl,rfl⟩ (ZT 6 fl))))
  rintro F h ⟨b5,b6,xs1,ZX,Yc,rfl,rfl⟩
  have hnx:=ZX
  have hlb:=Yc
  refine aE 14 (ZG 7 14 [0,1,2,3,6,7,8] [2,1,1,0] (WT 4 5 ?_ ?_))
  ·refine dc 4 [] [0,1,2] [b6,b4,b3] (Vp x1.params) ?_
   rintro _ _ ⟨v2,rfl,rfl⟩
   exact Z8 5 (dL 5 [0,1,2] [b6,b4,b3] (Z7 []) 0 1 fun v3=>Yh 4 5 [9] [(44,.agg [Z6 x1.params,Z6 [],.i x1.result,Wo b5.steps,.i b5.result])] (Z8 10 (dL 10 [2] [b3] (Yx [Y8.mk x1.params [] x1.result (Z3.mk b5.steps b5.result)]) 1 5 fun v4=>Yh 3 3 [] [(45,TV [Y8.mk x1.params [] x1.result (Z3.mk b5.steps b5.result)])] (Z8 11 (dp 11 8 [] [] (Yx (rs++[Y8.mk x1.params [] x1.result (Z3.mk b5.steps b5.result)])) (Yx rs) (Yx [Y8.mk x1.params [] x1.result (Z3.mk b5.steps b5.result)]) u none 5 (VN _) (VN _) (Jk _) (by simp<;>omega) (by simp [A1,Yx]) fun v5=>Zk 1 2 [12] (Z8 13 (Yy 13 6 [] [] b3 [YL g.decls,W6 (rs++[Y8.mk x1.params [] x1.result (Z3.mk b5.steps b5.result)]) v5] (de (az (Z2 1 (ZF k (Z1 (ZI ⟨k+1,(rs++[Y8.mk x1.params [] x1.result (Z3.mk b5.steps b5.result)]),v5,ob,ob,(Xb Zp (RN.of hsi hlb hbo.2)),rfl,rfl,rfl⟩ (wk [0,6,6,0] (ZL k fl)))))))))))))))
  refine dL 5 [0,1,1,2] [b6,b4,b4,b3] (Z7 []) 0 1 fun v6=>Z8 4 (dc 4 [] [0,1,2] [b6,b4,b3] (Vp x1.params) ?_)
  rintro _ _ ⟨v7,rfl,rfl⟩
  exact Yh 4 5 [9] [(44,.agg [Z6 x1.params,Z6 [],.i x1.result,Wo b5.steps,.i b5.result])] (Z8 10 (dL 10 [2] [b3] (Yx [Y8.mk x1.params [] x1.result (Z3.mk b5.steps b5.result)]) 1 5 fun v8=>Yh 3 3 [] [(45,TV [Y8.mk x1.params [] x1.result (Z3.mk b5.steps b5.result)])] (Z8 11 (dp 11 8 [] [] (Yx (rs++[Y8.mk x1.params [] x1.result (Z3.mk b5.steps b5.result)])) (Yx rs) (Yx [Y8.mk x1.params [] x1.result (Z3.mk b5.steps b5.result)]) u none 5 (VN _) (VN _) (Jk _) (by simp<;>omega) (by simp [A1,Yx]) fun v9=>Zk 1 2 [12] (Z8 13 (Yy 13 6 [] [] b3 [YL g.decls,W6 (rs++[Y8.mk x1.params [] x1.result (Z3.mk b5.steps b5.result)]) v9] (de (az (Z2 1 (ZF k (Z1 (ZI ⟨k+1,(rs++[Y8.mk x1.params [] x1.result (Z3.mk b5.steps b5.result)]),v9,ob,ob,(Xb Zp (RN.of hsi hlb hbo.2)),rfl,rfl,rfl⟩ (wk [0,6,6,0] (ZL k fl))))))))))))))
 exact ax 0 (Zo 1 [0] (ZA 1 b2 [YL g.decls,W6 rs u] (ie (ZJ (r3 [] [.agg [YL g.decls,W6 rs u]] [0] [(b2,b2)] ⟨(Zx.mk g.decls rs),rfl,rfl,(RN.all hg.gp.decls (by show 1<=rs.length/\rs.length<=4;omega) (by show ∀r∈rs,RN g.decls rs.length r;rw [show rs.length=g.funcs.length by omega];exact Zp) om)⟩ (Zd.agg (.cons (lr _) (.cons (Zd.forget _ _) .nil))))))))
theorem Z4h (n:Zx) (hz:Ja n:=by exact ob):Zf 83 [Yl n] [] (Yu (.b (Q2 n))):=by
 have hzl:=hz.len
 refine ZD 35 Tryz.func83 (ar (iA (YN n) fun b1=>Z1 (Y7 1 [0] (Zv [] (Z4g n (hz:=hz.decls) (hr:=(fun r hr=>⟨hz.params r hr,hz.lent r hr⟩))) (YR (!K4 n) (p:=¬(K4 n=true)) (Xi Iff.rfl) (fun Z9=>?_) (fun Z9=>?_))))))
 ·exact ar (Zt (Y4 (.b false) (lb (by first|rfl|omega|grind [Q2]))))
 have hok:=Lf hz (by simpa using Z9)
 refine ak (Y0 (ab 0 (Y1 (fun fz gz m F h=>∃(k:Nat),(k<=n.routines.length)/\(J0 n (n.routines.drop k)=J0 n n.routines)/\F=sF [1] fz [(3,.i k)]/\h=gz/\m=n.routines.length-k) _ _ _ ⟨0,ob,ob,rfl,rfl,rfl⟩ (wk [0] (Yd fl)) ?_)))
 rintro m F h ⟨k,Yf,Zj,rfl,rfl,rfl⟩
 refine Y7 3 [0] (iw (Uo n.routines) (ZQ ((k:Int)<(n.routines.length:Int)) (fun Zg=>?_) (fun Zg=>?_)))
 ·refine ak (aq (ab 1 (Zo 3 [0] ?_)))
  obtain ⟨x1,Z5⟩:=Zq n.routines k om
  have Zs:=hz.body _ (ZW Z5)
  have hps:=hok.params_at Z5
  refine Zm (Zh none (k:Int) 5 (Wz Z5)) (Z2 1 (iA [nl,nl,.i 0,nl,.i 0] fun b2=>ZA 0 b2 (K1 x1) (ie (aD 15 (ZG 13 15 [0,1] [0] (Z8 2 (Yo 2 [] [] [] (MO x1.body) (AM [1,3] [(34,.b ((decide ((Ub x1.body)<0))||((XK n x1.params x1.body) != x1.result)))] (fun gz=>gz) ?_ ?_))))))))
  ·refine Zk 10 12 [3,4] (db (b:=(decide ((Ub x1.body)<0))) 24 (fun Ze=>?_) (fun Ze=>?_))
   ·exact Zk 0 10 [5,6,7,8,9,10,11,12,13,14] (de (wk [0,0] (ZP true Ze fl)))
   exact ZG 3 10 [5,6,7,8,9,11,12] [1,0,0,0] (Z8 10 (Yo 10 [] [0] [b2] (MF n x1.params x1.body ob ob) (Zk 0 2 [13,14] (de (wk [0,0] (ZP ((XK n x1.params x1.body) != x1.result) Ze fl))))))
  refine ac ((decide ((Ub x1.body)<0))||((XK n x1.params x1.body) != x1.result)) (p:=((Ub x1.body)<0)∨((XK n x1.params x1.body)≠x1.result)) (Xu dq Xa) (fun ZK=>?_) (fun ZK=>?_)
  ·refine Y9 ?_
   rw [Yn Z5] at Zj
   exact ZJ (Y4 (.b false) (lb (by clear Z5;first|rfl|omega|grind [J0,Q2])))
  refine ak (az (Z2 1 (ZF k (Z1 ?_))))
  have hdr:=Yn Z5
  exact ZI ⟨k+1,ob,(by rw [hdr] at Zj;clear hdr Z5;grind [J0]),rfl,rfl,rfl⟩ (wk [1] (ZL k fl))
 refine ax 0 (Y9 ?_)
 try rw [Xz (xs:=n.routines) (k:=k) om] at Zj
 exact ZJ (Y4 (.b true) (lb (by first|rfl|omega|grind [J0,Q2])))
theorem Gl (op:Int) :Zf 110 [.i op] [] (Yu (.b (YP op))):=by
 exact ZD 5 Tryz.func110 (Y9 (Yg 1 (Zv [] (U9 op 14 17) (Zt (Y4 (.b (decide (14<=op/\op<=17))) (lb (by first|rfl|omega|grind [YP])))))))
theorem MG (op:Int) :Zf 267 [.i op] [] (Yu (.b (QR op))):=by
 refine ZD 17 Tryz.func267 (Y9 (ar (Vc 6 [0] [(8,.b ((op==6)||(op==9)))] (fun gz=>gz) ?_ (fun hj1=>?_))))
 ·refine Vc 10 [0] [(12,.b (((op==6)||(op==9))||(op==10)))] (fun gz=>gz) ?_ (fun hj2=>?_)
  ·refine Vc 14 [] [(16,.b ((((op==6)||(op==9))||(op==10))||(op==11)))] (fun gz=>gz) ?_ (fun hj3=>?_)
   ·exact Zt (Y4 (.b ((((op==6)||(op==9))||(op==10))||(op==11))) (lb (by first|rfl|omega|grind [QR])))
   refine Z2 1 (ib (b:=(((op==6)||(op==9))||(op==10))) 13 (fun Ze=>?_) (fun Ze=>?_))
   ·exact Z2 3 (Xy (wk [] (ZP true Ze fl)) hj3)
   exact Z2 3 (Xy (wk [] (ZP (op==11) Ze fl)) hj3)
  refine Z2 1 (ib (b:=((op==6)||(op==9))) 9 (fun ZU=>?_) (fun ZU=>?_))
  ·exact Z2 3 (Xy (wk [] (ZP true ZU fl)) hj2)
  exact Z2 3 (Xy (wk [] (ZP (op==10) ZU fl)) hj2)
 refine Z2 3 (ib (b:=(op==6)) 5 (fun X4=>?_) (fun X4=>?_))
 ·exact Z2 3 (Xy (wk [] (ZP true X4 fl)) hj1)
 exact Z2 3 (Xy (wk [] (ZP (op==9) X4 fl)) hj1)
theorem Cj (n:Zx) (s:Z4) (i:Nat) (hn:Xh n:=by exact ob) (hnum:s.op=9->0<=s.num/\s.num<n.routines.length:=by exact ob):Zf 221 [Yl n,Yp s,.i i] [] (Yu (.b (VQ n s.op s.num i))):=by
 refine ZD 21 Tryz.func221 (ar (iA (YN n) fun b1=>iA (Xg s) fun b2=>Z1 (Zo 4 [0] (ib (b:=(s.op==9)) 10 (fun Ze=>?_) (fun Ze=>?_)))))
 ·have ZX:s.op=9:=(ZB).1 Ze
  refine ZV 4 [1,0] ?_
  obtain ⟨x1,Z5⟩:=Zq n.routines s.num.toNat om
  have hlt:=hn.lent_at Z5
  have hlr:=Z0m (n:=n) ZX Z5
  exact Zm (Zh none s.num 5 (Wz Z5)) (Z2 3 (Zv [] (VI x1.lent (i:Int)) (Zt (Y4 (.b (decide ((i:Int)∈x1.lent))) (lb (by rw [VQ,hlr]))))))
 have Yc:¬(s.op=9):=YT ZB Ze
 exact Zt (Y4 (.b false) (lb (by rw [VQ,Dt,Zr Yc];simp)))
theorem DW (n:Zx) (us:LI) (s:Z4) (i:Nat) (a:Int) (hn:Xh n:=by exact ob) (hnum:s.op=9->0<=s.num/\s.num<n.routines.length:=by exact ob) (ha:s.args[i]? = some a:=by exact ob) (hi:0<=a/\a<us.length:=by exact ob):Zf 220 [Yl n,Z6 us,Yp s,.i i] [] (Yu (.b (Qs n us s.op s.num a i))):=by
 have hal:=(XC.1 ha).1
 refine ZD 30 Tryz.func220 (ar (iA (YN n) fun b1=>iA (Xg s) fun b2=>Z1 (Zo 2 [0] (Zv [] (MG s.op) (Z2 1 (ib (b:=QR s.op) 12 (fun Ze=>?_) (fun Ze=>?_)))))))
 ·refine ZV 4 [0] ?_
  obtain ⟨x1,Z5⟩:=Zq s.args i om
  have hxa:x1=a:=by rw [ha] at Z5;exact (Ax Z5).symm
  subst hxa
  refine Zm (Zh none (i:Int) 1 (ZZ Z5)) (Z2 1 ?_)
  obtain ⟨x2,Zu⟩:=Zq us x1.toNat om
  have hga:=UO Zu
  refine Zm (Zh none x1 1 (ZZ Zu)) (Z2 4 (ib (b:=(x2 != 0)) 23 (fun ZU=>?_) (fun ZU=>?_)))
  ·exact ZV 3 [1,0] (Zv [] (Cj n s i) (Zt (Y4 (.b (!VQ n s.op s.num i)) (lb (by clear Z5 Zu;first|rfl|(rw [Qs];grind))))))
  exact Zt (Y4 (.b false) (lb (by clear Z5 Zu;first|rfl|(rw [Qs];grind))))
 exact Zt (Y4 (.b false) (lb (by  first|rfl|(rw [Qs];grind))))
theorem ML (xs:LI) (ys:LI) (hl_xs:xs.length<=4294967296:=by exact ob) (hl_ys:ys.length<=4294967296:=by exact ob):Zf 219 [Z6 xs,Z6 ys] [] (Yu (.b (decide (xs=ys)))):=by
 refine ZD 26 Tryz.func219 (Y9 (X1 1 (iw (Ye xs) (Z2 1 (iw (Ye ys) (YR ((xs.length:Int) != (ys.length:Int)) Xa (fun Z9=>?_) (fun Z9=>?_)))))))
 ·exact ar (Zt (Y4 (.b false) (lb (eq_comm.1 (decide_eq_false (fun q=>by rw [q] at Z9;exact Z9 rfl))))))
 refine ak (Y0 (ab 0 (Y1 (fun fz gz m F h=>∃(k:Nat),(k<=xs.length)/\(xs.take k=ys.take k)/\F=sF [0,1] fz [(5,.i k)]/\h=gz/\m=xs.length-k) _ _ _ ⟨0,ob,ob,rfl,rfl,rfl⟩ (wk [] (Yd fl)) ?_)))
 rintro m F h ⟨k,Yf,Zj,rfl,rfl,rfl⟩
 refine X1 2 (iw (Ye xs) (ZQ ((k:Int)<(xs.length:Int)) (fun Zg=>?_) (fun Zg=>?_)))
 ·refine ak (aq (ab 1 (aD 9 (Zk 7 9 [0,1] ?_))))
  obtain ⟨x1,Z5⟩:=Zq xs k om
  refine dx 2 (Zh none (k:Int) 1 (ZZ Z5)) (Zk 3 6 [3,4,5] ?_)
  obtain ⟨x2,Zu⟩:=Zq ys k om
  refine dx 6 (Zh none (k:Int) 1 (ZZ Zu)) (Zk 0 2 [7,8] (de (ac (x1 != x2) Xa (fun ZK=>?_) (fun ZK=>?_))))
  ·exact ar (Zt (Y4 (.b false) (lb (eq_comm.1 (decide_eq_false (fun q=>by subst q;rw [Z5] at Zu;cases Zu;exact ZK rfl))))))
  refine ak (az (Z2 1 (ZF k (Z1 ?_))))
  have hdr:=Yn Z5
  exact ZI ⟨k+1,ob,(by rw [Vq Z5,Vq Zu,Zj];have hxx:x1=x2:=om;rw [hxx]),rfl,rfl,rfl⟩ (wk [] (ZL k fl))
 exact ax 0 (ar (Zt (Y4 (.b true) (lb (eq_comm.1 (decide_eq_true (by rw [WS om,WS om] at Zj;exact Zj)))))))
theorem JE (xs:LI) (hlen:xs.length<=4294967296:=by exact ob):Zf 82 [Z6 xs] [] (fun r h=>∃(v:Hd),r=.h v/\h=[rV v xs]):=by
 exact ZD 6 Tryz.func82 (Y9 (ar (Sk [] 0 fun v1=>Z2 1 (K0 0 v1 [] xs none fun v2=>Zt (r1 [0] ⟨v2,rfl,rfl⟩ (eq:=(rv (xs:=([]++xs)) ob rz)))))))
theorem TT (b:Nat) (ga:Hd) (gb:Hd) (gc:Hd) (gd:Hd) (ge:Hd) (gf:Hd) (L:Zy) (ln:LI) (t:Int) (o:Int) (p:Int) (hlb:L.vars.length<=1000000000:=by exact ob) (hlk:Ug L:=by exact ob):Zf 163 [.p b 0,.i t,.i o,.i p] [.obj b [.h ga,.h gb,.h gc,.h gd,.h ge,.h gf,Z6 ln],rV ga L.vars,rV gb L.own,rV gc L.par,rV gd L.con,rV ge L.fst,rV gf L.tok] (fun r h=>∃(wa:Hd) (wb:Hd) (wc:Hd) (wd:Hd) (we:Hd) (wf:Hd),h=[.obj b [.h wa,.h wb,.h wc,.h wd,.h we,.h wf,Z6 ln],rV wa ((L.grow t o p).vars),rV wb ((L.grow t o p).own),rV wc ((L.grow t o p).par),rV wd ((L.grow t o p).con),rV we ((L.grow t o p).fst),rV wf ((L.grow t o p).tok)]):=by
 obtain ⟨e1,e2,e3,e4,e5⟩:=hlk
 exact ZD 65 Tryz.func163 (Zo 6 [0] (iL (Z7 [t]) 1 1 fun v1=>ZE 0 [(14,Z6 [t])] (K0 2 ga L.vars [t] none fun v2=>Z2 2 (ZA 2 b [.h v2,.h gb,.h gc,.h gd,.h ge,.h gf,Z6 ln] (ie (Zo 6 [0] (iL (Z7 [o]) 1 1 fun v3=>ZE 0 [(24,Z6 [o])] (K0 4 gb L.own [o] none fun v4=>Z2 2 (ZA 2 b [.h v2,.h v4,.h gc,.h gd,.h ge,.h gf,Z6 ln] (ie (Zo 6 [0] (iL (Z7 [p]) 1 1 fun v5=>ZE 0 [(34,Z6 [p])] (K0 6 gc L.par [p] none fun v6=>Z2 2 (ZA 2 b [.h v2,.h v4,.h v6,.h gd,.h ge,.h gf,Z6 ln] (ie (Zo 5 [0] (iL (Z7 [-1]) 1 1 fun v7=>ZE 0 [(43,Z6 [-1])] (K0 8 gd L.con [-1] none fun v8=>Z2 2 (ZA 2 b [.h v2,.h v4,.h v6,.h v8,.h ge,.h gf,Z6 ln] (ie (Zo 5 [0] (iL (Z7 [-1]) 1 1 fun v9=>ZE 0 [(52,Z6 [-1])] (K0 10 ge L.fst [-1] none fun v10=>Z2 2 (ZA 2 b [.h v2,.h v4,.h v6,.h v8,.h v10,.h gf,Z6 ln] (ie (az (ZV 5 [0] (iL (Z7 [-1]) 1 1 fun v11=>ZE 0 [(61,Z6 [-1])] (K0 12 gf L.tok [-1] none fun v12=>Z2 2 (ZA 2 b [.h v2,.h v4,.h v6,.h v8,.h v10,.h v12,Z6 ln] (ie (r2 [0,10,8,6,4,2,0] [] ⟨v2,v4,v6,v8,v10,v12,rfl⟩ (lr _) (eq:=(rc (rv (xs:=(L.vars++[t])) ob (rv (xs:=(L.own++[o])) ob (rv (xs:=(L.par++[p])) ob (rv (xs:=(L.con++[-1])) ob (rv (xs:=(L.fst++[-1])) ob (rv (xs:=(L.tok++[-1])) ob rz))))))))))))))))))))))))))))))))))))))))
theorem Z0h (b:Nat) (ga:Hd) (gb:Hd) (gc:Hd) (gd:Hd) (ge:Hd) (gf:Hd) (L:Zy) (ln:LI) (hlb:L.vars.length<=1000000000:=by exact ob) (hlk:Ug L:=by exact ob) (hln:ln.length<=4294967296:=by exact ob):Zf 266 [.p b 0] [.obj b [.h ga,.h gb,.h gc,.h gd,.h ge,.h gf,Z6 ln],rV ga L.vars,rV gb L.own,rV gc L.par,rV gd L.con,rV ge L.fst,rV gf L.tok] (fun r h=>∃(c:Nat) (wa:Hd) (wb:Hd) (wc:Hd) (wd:Hd) (we:Hd) (wf:Hd),r=.p c 0/\h=[.obj c [.h wa,.h wb,.h wc,.h wd,.h we,.h wf,Z6 ln],rV wa L.vars,rV wb L.own,rV wc L.par,rV wd L.con,rV we L.fst,rV wf L.tok,.obj b [.h ga,.h gb,.h gc,.h gd,.h ge,.h gf,Z6 ln],rV ga L.vars,rV gb L.own,rV gc L.par,rV gd L.con,rV ge L.fst,rV gf L.tok]):=by
 obtain ⟨e1,e2,e3,e4,e5⟩:=hlk
 refine ZD 40 Tryz.func266 (Y9 (aD 38 (ZG 10 38 [0,1,2,3,5,6,7,8,10,11,12,13,15,16,17,18,20,21,22,23,25,26,27,28,30,31,32,33] [0,0,0,0,0,0,0] (Z8 4 (QT 4 [1] [0,0,0,0,0,0] [b,b,b,b,b,b] [rV ga L.vars] (JE L.vars) AG (gL (v:=ga) 0 gN) (TU QC) ?_)))))
 rintro _ _ ⟨v1,rfl,rfl⟩
 refine Z8 9 (QT 9 [3] [0,0,0,0,0] [b,b,b,b,b] [rV gb L.own] (JE L.own) AG (gL (v:=gb) 0 gN) (TU QC) ?_)
 rintro _ _ ⟨v2,rfl,rfl⟩
 refine Z8 14 (QT 14 [5] [0,0,0,0] [b,b,b,b] [rV gc L.par] (JE L.par) AG (gL (v:=gc) 0 gN) (TU QC) ?_)
 rintro _ _ ⟨v3,rfl,rfl⟩
 refine Z8 19 (QT 19 [7] [0,0,0] [b,b,b] [rV gd L.con] (JE L.con) AG (gL (v:=gd) 0 gN) (TU QC) ?_)
 rintro _ _ ⟨v4,rfl,rfl⟩
 refine Z8 24 (QT 24 [9] [0,0] [b,b] [rV ge L.fst] (JE L.fst) AG (gL (v:=ge) 0 gN) (TU QC) ?_)
 rintro _ _ ⟨v5,rfl,rfl⟩
 refine Z8 29 (QT 29 [11] [0] [b] [rV gf L.tok] (JE L.tok) AG (gL (v:=gf) 0 gN) (TU QC) ?_)
 rintro _ _ ⟨v6,rfl,rfl⟩
 refine Z8 34 (dc 34 [] [] [] (Vp ln) ?_)
 rintro _ _ ⟨v7,rfl,rfl⟩
 exact Yh 2 3 [35] [(38,.agg [.h v1,.h v2,.h v3,.h v4,.h v5,.h v6,Z6 ln])] (Z8 36 (dA 36 [] [] [.h v1,.h v2,.h v3,.h v4,.h v5,.h v6,Z6 ln] fun b1=>Zk 0 1 [37] (de (ZJ (r1 [0,11,9,7,5,3,1,7,6,5,4,3,2,1] ⟨b1,v1,v2,v3,v4,v5,v6,rfl,rfl⟩)))))
theorem Dr (b:Nat) (ga:Hd) (gb:Hd) (gc:Hd) (gd:Hd) (ge:Hd) (gf:Hd) (L:Zy) (ln:LI) (i:Int) (hlk:Ug L:=by exact ob) (hi:0<=i/\i<L.vars.length:=by exact ob) (hq:∀x∈L.own,0<=x/\x<=1000000000):Zf 165 [.p b 0,.i i] [.obj b [.h ga,.h gb,.h gc,.h gd,.h ge,.h gf,Z6 ln],rV ga L.vars,rV gb L.own,rV gc L.par,rV gd L.con,rV ge L.fst,rV gf L.tok] (fun r h=>(∃(wa:Hd) (wb:Hd) (wc:Hd) (wd:Hd) (we:Hd) (wf:Hd) (L':Zy),r=.b true/\h=[.obj b [.h wa,.h wb,.h wc,.h wd,.h we,.h wf,Z6 ln],rV wa L'.vars,rV wb L'.own,rV wc L'.par,rV wd L'.con,rV we L'.fst,rV wf L'.tok]/\UJ L i=some L')∨(r=.b false/\h=[]/\UJ L i=none)):=by
 obtain ⟨e1,e2,e3,e4,e5⟩:=hlk
 refine ZD 27 Tryz.func165 (Y9 (Y7 5 [0] (Zm (V6 2 gb L.own i i.toNat (hq:=rfl)) ?_)))
 obtain ⟨x1,Z5⟩:=Zq L.own i.toNat om
 have hxq:=hq _ (ZW Z5)
 have hgi:=UO Z5
 refine Vl (T1 2 gb L.own i.toNat x1 Z5) (ZQ (x1<1) (fun Z9=>?_) (fun Z9=>?_))
 ·exact ar (Zt (r1 [] (.inr ⟨rfl,rfl,(by rw [UJ,hgi,Zw Z9])⟩)))
 exact ak (aD 15 (ZG 5 15 [0,1,2,3,4,5,6,7,8,9] [0,0] (dx 10 (V6 2 gb L.own i i.toNat (hq:=rfl)) (Vt 11 (T1 2 gb L.own i.toNat x1 Z5) (da 12 ((x1-1)) ((x1)-(1)) (dx 13 (V6 2 gb L.own i i.toNat (hq:=rfl)) (Z8 14 (Ji 14 2 [] [] gb L.own i.toNat (x1-1) (de (ar (Zt (r1 [1,1,0,0,0,0,0] (.inl ⟨ga,gb,gc,gd,ge,gf,(Zy.mk L.vars (L.own.set i.toNat (x1-1)) L.par L.con L.fst L.tok),rfl,rfl,(by rw [UJ,hgi,Zr Z9])⟩) (eq:=(rc (rv (xs:=L.vars) ob (rv (xs:=(L.own.set i.toNat (x1-1))) ob (rv (xs:=L.par) ob (rv (xs:=L.con) ob (rv (xs:=L.fst) ob (rv (xs:=L.tok) ob rz))))))))))))))))))))
theorem Dq (b:Nat) (ga:Hd) (gb:Hd) (gc:Hd) (gd:Hd) (ge:Hd) (gf:Hd) (L:Zy) (ln:LI) (i:Int) (hlk:Ug L:=by exact ob) (hln:ln.length<=4294967296:=by exact ob) (hi:0<=i/\i<L.vars.length:=by exact ob) (hd:∀j:Int,0<=j->j<L.vars.length->gI L.par j<j):Zf 88 [.p b 0,.i i] [.obj b [.h ga,.h gb,.h gc,.h gd,.h ge,.h gf,Z6 ln],rV ga L.vars,rV gb L.own,rV gc L.par,rV gd L.con,rV ge L.fst,rV gf L.tok] (fun r h=>r=.b (VV L ln i)/\h=[.obj b [.h ga,.h gb,.h gc,.h gd,.h ge,.h gf,Z6 ln],rV ga L.vars,rV gb L.own,rV gc L.par,rV gd L.con,rV ge L.fst,rV gf L.tok]):=by
 obtain ⟨e1,e2,e3,e4,e5⟩:=hlk
 refine ZD 31 Tryz.func88 (Y9 (aq (ab 0 (Y1 (fun fz gz m F h=>∃(j:Int),(0<=j/\j<L.vars.length)/\(Tt L.own L.par ln (j.toNat+1) j=VV L ln i)/\F=sF [0] fz [(1,.i j)]/\h=gz/\m=j.toNat) _ _ _ ⟨i,ob,ob,rfl,rfl,rfl⟩ (ZT 7 fl) ?_))))
 rintro m F h ⟨j,Yf,Zj,rfl,rfl,rfl⟩
 refine Y7 5 [0] (Zm (V6 2 gb L.own j j.toNat (hq:=rfl)) ?_)
 obtain ⟨x1,Z5⟩:=Zq L.own j.toNat om
 have hg1:=UO Z5
 refine Vl (T1 2 gb L.own j.toNat x1 Z5) (XN [0,1] [(21,.b ((decide (x1<1))&&(!(decide (j∈ln)))))] (fun gz=>gz) ?_ ?_)
 ·refine Z2 2 (ib (b:=(decide (x1<1))) 13 (fun Ze=>?_) (fun Ze=>?_))
  ·exact ZV 5 [0] (Zv [] (VI ln j) (Z1 (ZT 7 (ZP (!(decide (j∈ln))) Ze fl))))
  exact Z1 (ZT 7 (ZP false Ze fl))
 refine ac ((decide (x1<1))&&(!(decide (j∈ln)))) (p:=(x1<1)/\(¬(j∈ln))) (Xr dq (Xi dq)) (fun Z9=>?_) (fun Z9=>?_)
 ·refine ak (ab 1 (Zo 5 [0] (Zm (V6 3 gc L.par j j.toNat (hq:=rfl)) ?_)))
  obtain ⟨x2,Zu⟩:=Zq L.par j.toNat om
  have hg2:=UO Zu
  have hdj:=hd j om om
  rw [hg2] at hdj
  refine Vl (T1 3 gc L.par j.toNat x2 Zu) (Z1 (ar (ZQ (x2<0) (fun Zg=>?_) (fun Zg=>?_))))
  ·exact ar (Zt (r2 [0,0,0,0,0,0,0] [.b false] ⟨rfl,rfl⟩ (lb (NR hg1 hg2 Z9 Zg Zj))))
  exact ak (ZI ⟨x2,om,(NS hg1 hg2 Yf Z9 Zg hd Zj),rfl,rfl,rfl⟩ (ZT 7 fl))
 exact ax 0 (ar (Zt (r2 [0,0,0,0,0,0,0] [.b true] ⟨rfl,rfl⟩ (lb (NT hg1 Z9 Zj)))))
theorem IY (b:Nat) (ga:Hd) (gb:Hd) (gc:Hd) (gd:Hd) (ge:Hd) (gf:Hd) (L:Zy) (ln:LI) (mm:Nat) (hlk:Ug L:=by exact ob) (hlb:L.vars.length<=1000000000:=by exact ob) (hm:mm<=L.vars.length:=by exact ob):Zf 130 [.p b 0,.i mm] [.obj b [.h ga,.h gb,.h gc,.h gd,.h ge,.h gf,Z6 ln],rV ga L.vars,rV gb L.own,rV gc L.par,rV gd L.con,rV ge L.fst,rV gf L.tok] (fun r h=>(∃(wa:Hd) (wb:Hd) (wc:Hd) (wd:Hd) (we:Hd) (wf:Hd) (L':Zy),r=.b true/\h=[.obj b [.h wa,.h wb,.h wc,.h wd,.h we,.h wf,Z6 ln],rV wa L'.vars,rV wb L'.own,rV wc L'.par,rV wd L'.con,rV we L'.fst,rV wf L'.tok]/\QS L mm=some L')∨(r=.b false/\h=[]/\QS L mm=none)):=by
 obtain ⟨e1,e2,e3,e4,e5⟩:=hlk
 refine ZD 88 Tryz.func130 (Y9 (Y0 (ab 0 (Y1 (fun fz gz m F h=>∃(k:Nat),(mm<=k/\k<=L.vars.length)/\(JI (L.own.drop k) (L.tok.drop k)=JI (L.own.drop mm) (L.tok.drop mm))/\F=sF [0,1] fz [(5,.i k)]/\h=gz/\m=L.vars.length-k) _ _ _ ⟨mm,ob,ob,rfl,rfl,rfl⟩ (ZT 7 fl) ?_))))
 rintro m F h ⟨k,Yf,Zj,rfl,rfl,rfl⟩
 refine Y7 5 [0] (Zm (Au 1 ga L.vars) (ZQ ((k:Int)<(L.vars.length:Int)) (fun Z9=>?_) (fun Z9=>?_)))
 ·refine ak (aq (ab 1 (Zo 5 [0] (Zm (V6 2 gb L.own (k:Int) k) ?_))))
  obtain ⟨x1,Z5⟩:=Zq L.own k om
  refine Vl (T1 2 gb L.own k x1 Z5) (Z2 2 (ib (b:=(x1 != 0)) 24 (fun Ze=>?_) (fun Ze=>?_)))
  ·have ZX:x1≠0:=(Xa).1 Ze
   refine Z1 (Vh (Y9 ?_))
   obtain ⟨y2,hy2⟩:=Zq L.tok k om
   exact ZJ (r1 [] (.inr ⟨rfl,rfl,(by rw [QS,<-Zj,Yn Z5,Yn hy2,JI,Zw (show x1≠0∨0<=y2 by omega)];rfl)⟩))
  have Yc:¬(x1≠0):=YT Xa Ze
  refine ZV 5 [0] (Zm (V6 6 gf L.tok (k:Int) k) ?_)
  obtain ⟨x2,Zu⟩:=Zq L.tok k om
  refine Vl (T1 6 gf L.tok k x2 Zu) (ZQ (x2>=0) (fun Zg=>?_) (fun Zg=>?_))
  ·exact ar (Zt (r1 [] (.inr ⟨rfl,rfl,(by rw [QS,<-Zj,Yn Z5,Yn Zu,JI,Zw (show x1≠0∨0<=x2 by omega)];rfl)⟩)))
  exact ak (az (Z2 1 (ZF k (Z1 (ZI ⟨k+1,ob,(by rw [Yn Z5,Yn Zu,JI,Zr om] at Zj;exact Zj),rfl,rfl,rfl⟩ (ZT 7 (ZL k fl)))))))
 exact ax 0 (Zo 6 [0] (Zm (Bl 1 ga L.vars mm) (Z2 2 (Xv (Bk 1 mm ga L.vars) (ZA 1 b [.h (ga.cut mm),.h gb,.h gc,.h gd,.h ge,.h gf,Z6 ln] (ie (Zo 6 [0] (Zm (Bl 2 gb L.own mm) (Z2 2 (Xv (Bk 2 mm gb L.own) (ZA 1 b [.h (ga.cut mm),.h (gb.cut mm),.h gc,.h gd,.h ge,.h gf,Z6 ln] (ie (Zo 6 [0] (Zm (Bl 3 gc L.par mm) (Z2 2 (Xv (Bk 3 mm gc L.par) (ZA 1 b [.h (ga.cut mm),.h (gb.cut mm),.h (gc.cut mm),.h gd,.h ge,.h gf,Z6 ln] (ie (Zo 6 [0] (Zm (Bl 4 gd L.con mm) (Z2 2 (Xv (Bk 4 mm gd L.con) (ZA 1 b [.h (ga.cut mm),.h (gb.cut mm),.h (gc.cut mm),.h (gd.cut mm),.h ge,.h gf,Z6 ln] (ie (Zo 6 [0] (Zm (Bl 5 ge L.fst mm) (Z2 2 (Xv (Bk 5 mm ge L.fst) (ZA 1 b [.h (ga.cut mm),.h (gb.cut mm),.h (gc.cut mm),.h (gd.cut mm),.h (ge.cut mm),.h gf,Z6 ln] (ie (Zo 6 [0] (Zm (Bl 6 gf L.tok mm) (Z2 2 (Xv (Bk 6 mm gf L.tok) (ZA 1 b [.h (ga.cut mm),.h (gb.cut mm),.h (gc.cut mm),.h (gd.cut mm),.h (ge.cut mm),.h (gf.cut mm),Z6 ln] (ie (ar (Zt (r1 [0,5,4,3,2,1,0] (.inl ⟨(ga.cut mm),(gb.cut mm),(gc.cut mm),(gd.cut mm),(ge.cut mm),(gf.cut mm),(Zy.mk (L.vars.take mm) (L.own.take mm) (L.par.take mm) (L.con.take mm) (L.fst.take mm) (L.tok.take mm)),rfl,rfl,(by rw [QS,Zw (by rw [<-Zj,Xz om];rfl)];rfl)⟩) (eq:=(rc (rv (xs:=(L.vars.take mm)) ob (rv (xs:=(L.own.take mm)) ob (rv (xs:=(L.par.take mm)) ob (rv (xs:=(L.con.take mm)) ob (rv (xs:=(L.fst.take mm)) ob (rv (xs:=(L.tok.take mm)) ob rz)))))))))))))))))))))))))))))))))))))))))))))))
theorem Z0j (b:Nat) (ga:Hd) (gb:Hd) (gc:Hd) (gd:Hd) (ge:Hd) (gf:Hd) (n:Zx) (s:Z4) (L:Zy) (ln:LI) (q:Int) (x:Int) (hn:Xh n:=by exact ob) (hk:Xk n.decls L q:=by exact ob) (hlb:L.vars.length<=1000000000:=by exact ob) (ha:s.args[0]? = some x:=by exact ob) (hx:0<=x/\x<L.vars.length:=by exact ob) (hq:0<=q/\q<=999999990:=by exact ob):Zf 166 [.p b 0,Yl n,Yp s] [.obj b [.h ga,.h gb,.h gc,.h gd,.h ge,.h gf,Z6 ln],rV ga L.vars,rV gb L.own,rV gc L.par,rV gd L.con,rV ge L.fst,rV gf L.tok] (fun r h=>(∃(wa:Hd) (wb:Hd) (wc:Hd) (wd:Hd) (we:Hd) (wf:Hd) (L':Zy),r=.b true/\h=[.obj b [.h wa,.h wb,.h wc,.h wd,.h we,.h wf,Z6 ln],rV wa L'.vars,rV wb L'.own,rV wc L'.par,rV wd L'.con,rV we L'.fst,rV wf L'.tok]/\K6 n.decls L s.op x=some L')∨(r=.b false/\h=[]/\K6 n.decls L s.op x=none)):=by
 obtain ⟨e1,e2,e3,e4,e5⟩:=hk.len
 have XB:=hn.decls
 have hal:=(XC.1 ha).1
 obtain ⟨xcon,hxcon⟩:=Zq L.con ((x).toNat) om
 have hgcon:=UO hxcon
 obtain ⟨xtok,hxtok⟩:=Zq L.tok ((x).toNat) om
 have hgtok:=UO hxtok
 obtain ⟨xfst,hxfst⟩:=Zq L.fst ((x).toNat) om
 have hgfst:=UO hxfst
 have hfl:=VB XB xcon
 have har:=hk.arm x om om
 rw [hgcon,hgfst] at har
 refine ZD 105 Tryz.func166 (ar (iA (YN n) fun b1=>iA (Xg s) fun b2=>Z1 (Zo 2 [0] (Zm (Zh none 0 1 (ZZ ha)) (Z1 (Y7 5 [2] (Zm (V6 6 gd L.con x x.toNat (hq:=rfl)) (Vl (T1 6 gd L.con x.toNat xcon hxcon) (Vc 23 [0,4,5,7] [(36,.b ((decide (xcon<0))||((s.op==17)&&(decide (xtok>=0)))))] (fun gz=>gz) ?_ (fun hj1=>?_))))))))))
 ·refine Z2 1 (ib (b:=((decide (xcon<0))||((s.op==17)&&(decide (xtok>=0))))) 37 (fun Ze=>?_) (fun Ze=>?_))
  ·have ZX:(xcon<0)∨((s.op=17)/\(xtok>=0)):=((Xu dq (Xr ZB dq))).1 Ze
   exact Z1 (Vh (ar (Zt (r1 [] (.inr ⟨rfl,rfl,(by rw [K6,hgcon,hgtok,Zw om])⟩)))))
  have Yc:¬((xcon<0)∨((s.op=17)/\(xtok>=0))):=YT (Xu dq (Xr ZB dq)) Ze
  refine Z2 2 (ic [2,2,2,2,2,2,2] (Dr b ga gb gc gd ge gf L ln x (hlk:=hk.len) (hq:=(fun y hy=>⟨hk.nn y hy,by have:=hk.bd y hy;omega⟩))) ?_)
  rintro _ _ (⟨wa1,wb1,wc1,wd1,we1,wf1,L'1,rfl,rfl,YM⟩|⟨rfl,rfl,YZ⟩)
  ·obtain ⟨t1,t2,t3,t4,t5,t6,t7⟩:=QG YM
   have hk1:=hk.take YM
   obtain ⟨f1,f2,f3,f4,f5⟩:=hk1.len
   have hxcon1:L'1.con[x.toNat]? = some xcon:=by rw [t4];exact hxcon
   have hvl:L'1.vars.length=L.vars.length:=by rw [t2]
   have har2:=har om
   have hxfst1:L'1.fst[x.toNat]? = some xfst:=by rw [t5];exact hxfst
   refine Z1 (Wx (ak (aD 11 (ZG 4 11 [0,1,2,3,4,5,6] [8,0] (dx 7 (V6 4 wd1 L'1.con x x.toNat (hq:=rfl)) (Vt 8 (T1 4 wd1 L'1.con x.toNat xcon hxcon1) (Z8 9 (Yo 9 [] [] [] (TX n.decls xcon) (Zk 0 1 [10] (de (Y0 (ab 0 (Y1 (fun fz gz m F h=>∃(k:Nat) (o:LI),(k<=(Y5 n.decls xcon).length)/\(o.length=L.vars.length)/\(∀y∈o,0<=y/\y<=q+k)/\(T6 o (xfst+k) ((Y5 n.decls xcon).drop k)=T6 L'1.own xfst (Y5 n.decls xcon))/\F=sF [0,5,7,8] fz [(9,.i k)]/\h=[Za gz 0,Za gz 1,rV wb1 o,Za gz 3,Za gz 4,Za gz 5,Za gz 6,Za gz 7]/\m=(Y5 n.decls xcon).length-k) _ _ _ ⟨0,L'1.own,ob,om,(by intro y hy;have h1:=hk1.nn y hy;have h2:=hk1.bd y hy;omega),(by rw [show xfst+((0:Nat):Int)=xfst by omega,Ut]),rfl,rfl,rfl⟩ (ZT 8 (Yd fl)) ?_)))))))))))))
   rintro m F h ⟨k,o,Yf,Zj,Zp,YA,rfl,rfl,rfl⟩
   refine X1 2 (io (.i (((Y5 n.decls xcon).length:Nat):Int)) (.i (((Z7 (Y5 n.decls xcon)).length:Nat):Int)) (li (by rw [Ye])) (ZQ ((k:Int)<(((Y5 n.decls xcon).length:Nat):Int)) (fun Z9=>?_) (fun Z9=>?_)))
   ·refine ak (aq (ab 1 (Yg 2 ?_)))
    obtain ⟨x1,Z5⟩:=Zq (Y5 n.decls xcon) k om
    refine Zm (Zh none (k:Int) 1 (ZZ Z5)) (YR (x1 != 0) Xa (fun Zg=>?_) (fun Zg=>?_))
    ·refine aE 31 (ZG 22 31 [0,1,2,3,4,5,6,7,8] [0,0] (dx 9 (V6 5 we1 L'1.fst x x.toNat (hq:=rfl)) (Vt 10 (T1 5 we1 L'1.fst x.toNat xfst hxfst1) (Zk 19 20 [11] (da 12 ((xfst+(k:Int))) ((xfst)+((k:Int))) (ZG 9 18 [13,14,15,16,17,18,19,20,21] [0,0] (dx 22 (V6 5 we1 L'1.fst x x.toNat (hq:=rfl)) (Vt 23 (T1 5 we1 L'1.fst x.toNat xfst hxfst1) (Zk 6 7 [24] (da 25 ((xfst+(k:Int))) ((xfst)+((k:Int))) (dx 26 (V6 2 wb1 o (xfst+(k:Int)) ((xfst+(k:Int)).toNat) (hq:=rfl)) ?_)))))))))))
     obtain ⟨x2,Zu⟩:=Zq o ((xfst+(k:Int)).toNat) om
     have hy2:=Zp _ (ZW Zu)
     exact Vt 27 (T1 2 wb1 o ((xfst+(k:Int)).toNat) x2 Zu) (da 28 ((x2+1)) ((x2)+(1)) (dx 29 (V6 2 wb1 o (xfst+(k:Int)) ((xfst+(k:Int)).toNat) (hq:=rfl)) (Z8 30 (Ji 30 2 [] [] wb1 o ((xfst+(k:Int)).toNat) (x2+1) (de (az (Z2 1 (ZF k (Z1 (ZI ⟨k+1,(o.set (xfst+(k:Nat)).toNat (x2+1)),ob,ob,(by intro y hy;first|(rcases K3 hy with hy|rfl<;>first|(have:=Zp y hy;omega)|omega)|(have:=Zp y hy;omega)),(by rw [Yn Z5,T6] at YA;first|(rw [Zw Zg,UO Zu] at YA;rw [show xfst+((k+1:Nat):Int)=xfst+k+1 by omega];exact YA)|(rw [Zr Zg] at YA;rw [show xfst+((k+1:Nat):Int)=xfst+k+1 by omega];exact YA)),rfl,rfl,rfl⟩ (wk [1,1,0,0,0,0,0,0] (ZL k fl) (e:=(rc (rc (rv (xs:=(o.set ((xfst+(k:Int)).toNat) (x2+1))) ob (rc (rc (rc (rc (rc rz))))))))))))))))))))
    exact ak (az (Z2 1 (ZF k (Z1 (ZI ⟨k+1,o,ob,ob,(by intro y hy;first|(rcases K3 hy with hy|rfl<;>first|(have:=Zp y hy;omega)|omega)|(have:=Zp y hy;omega)),(by rw [Yn Z5,T6] at YA;first|(rw [Zw Zg,UO Zu] at YA;rw [show xfst+((k+1:Nat):Int)=xfst+k+1 by omega];exact YA)|(rw [Zr Zg] at YA;rw [show xfst+((k+1:Nat):Int)=xfst+k+1 by omega];exact YA)),rfl,rfl,rfl⟩ (ZT 8 (ZL k fl)))))))
   refine ax 0 (Xd (VG [7] (ac (s.op==17) ZB (fun ZK=>?_) (fun ZK=>?_))))
   ·refine az (ZV 6 [0] (io (.i (((Y5 n.decls xcon).length:Nat):Int)) (.i (((Z7 (Y5 n.decls xcon)).length:Nat):Int)) (li (by rw [Ye])) (Zm (V6 6 wf1 L'1.tok x x.toNat (hq:=rfl)) (Iy 6 wf1 L'1.tok x.toNat (((Y5 n.decls xcon).length:Nat):Int) (ie (Y9 ?_))))))
    have hof:o=T6 L'1.own xfst (Y5 n.decls xcon):=by rw [<-YA,Xz om];rfl
    exact ZJ (r1 [1,1,1,1,1,1,0] (.inl ⟨wa1,wb1,wc1,wd1,we1,wf1,(Zy.mk L'1.vars o L'1.par L'1.con L'1.fst (L'1.tok.set x.toNat (((Y5 n.decls xcon).length:Nat):Int))),rfl,rfl,(by rw [K6,hgcon,hgfst,hgtok,Zr om,YM,hof,t6];simp [ZK,t2,t3,t4,t5])⟩) (eq:=(rc (rv (xs:=L'1.vars) ob (rv (xs:=o) ob (rv (xs:=L'1.par) ob (rv (xs:=L'1.con) ob (rv (xs:=L'1.fst) ob (rv (xs:=(L'1.tok.set x.toNat (((Y5 n.decls xcon).length:Nat):Int))) ob rz)))))))))
   refine ak (Y9 ?_)
   have hof:o=T6 L'1.own xfst (Y5 n.decls xcon):=by rw [<-YA,Xz om];rfl
   exact ZJ (r1 [0,0,0,0,0,0,0] (.inl ⟨wa1,wb1,wc1,wd1,we1,wf1,(Zy.mk L'1.vars o L'1.par L'1.con L'1.fst L'1.tok),rfl,rfl,(by rw [K6,hgcon,hgfst,hgtok,Zr om,YM,hof,t6];simp [ZK,t2,t3,t4,t5])⟩) (eq:=(rc (rv (xs:=L'1.vars) ob (rv (xs:=o) ob (rv (xs:=L'1.par) ob (rv (xs:=L'1.con) ob (rv (xs:=L'1.fst) ob (rv (xs:=L'1.tok) ob rz)))))))))
  exact Z1 (Vh (ar (Zt (r1 [] (.inr ⟨rfl,rfl,(by rw [K6,hgcon,hgtok,Zr om,YZ])⟩)))))
 refine Z2 2 (ib (b:=(decide (xcon<0))) 22 (fun ZU=>?_) (fun ZU=>?_))
 ·have X7:xcon<0:=(dq).1 ZU
  exact Z2 14 (Xy (ZT 9 (ZP true ZU fl)) hj1)
 have XX:¬(xcon<0):=YT dq ZU
 refine ZV 4 [0] (ib (b:=(s.op==17)) 26 (fun X4=>?_) (fun X4=>?_))
 ·have Wu:s.op=17:=(ZB).1 X4
  exact ZV 5 [2] (Zm (V6 8 gf L.tok x x.toNat (hq:=rfl)) (Vl (T1 8 gf L.tok x.toNat xtok hxtok) (Z2 3 (Xy (ZT 9 (ZP (decide (xtok>=0)) (And.intro ZU X4) fl)) hj1))))
 have V3:¬(s.op=17):=YT ZB X4
 exact Z2 10 (Xy (ZT 9 (ZP false (And.intro ZU X4) fl)) hj1)
theorem Z0i (b:Nat) (ga:Hd) (gb:Hd) (gc:Hd) (gd:Hd) (ge:Hd) (gf:Hd) (n:Zx) (s:Z4) (L:Zy) (ln:LI) (q:Int) (hn:Xh n:=by exact ob) (hnum:s.op=9->0<=s.num/\s.num<n.routines.length:=by exact ob) (hk:Xk n.decls L q:=by exact ob) (hlb:L.vars.length<=1000000000:=by exact ob) (hargs:∀a∈s.args,0<=a/\a<L.vars.length) (hinto:0<s.into->s.into<=L.vars.length:=by exact ob) (hal:s.args.length<=1000000000:=by exact ob) (hln:ln.length<=4294967296:=by exact ob) (hq:0<=q/\q<=999999990:=by exact ob):Zf 168 [.p b 0,Yl n,Yp s] [.obj b [.h ga,.h gb,.h gc,.h gd,.h ge,.h gf,Z6 ln],rV ga L.vars,rV gb L.own,rV gc L.par,rV gd L.con,rV ge L.fst,rV gf L.tok] (fun r h=>(∃(wa:Hd) (wb:Hd) (wc:Hd) (wd:Hd) (we:Hd) (wf:Hd) (L':Zy),r=.b true/\h=[.obj b [.h wa,.h wb,.h wc,.h wd,.h we,.h wf,Z6 ln],rV wa L'.vars,rV wb L'.own,rV wc L'.par,rV wd L'.con,rV we L'.fst,rV wf L'.tok]/\Qv n ln L s.op s.num s.into s.args=some L')∨(r=.b false/\h=[]/\Qv n ln L s.op s.num s.into s.args=none)):=by
 obtain ⟨e1,e2,e3,e4,e5⟩:=hk.len
 refine ZD 79 Tryz.func168 (ar (iA (YN n) fun b1=>iA (Xg s) fun b2=>?_))
 refine Z1 (Y0 (ab 0 (Y1 (fun fz gz m F h=>∃(k:Nat) (L2:Zy) (ka:Hd) (kb:Hd) (kc:Hd) (kd:Hd) (ke:Hd) (kf:Hd),(k<=s.args.length)/\(Xk n.decls L2 q)/\(L2.vars=L.vars)/\(TQ n s.op s.num (s.args.drop k) k L2=TQ n s.op s.num s.args 0 L)/\F=sF [0,4,5] fz [(7,.i k)]/\h=[Za gz 0,Za gz 1,.obj b [.h ka,.h kb,.h kc,.h kd,.h ke,.h kf,Z6 ln],rV ka L2.vars,rV kb L2.own,rV kc L2.par,rV kd L2.con,rV ke L2.fst,rV kf L2.tok]/\m=s.args.length-k) _ _ _ ⟨0,L,ga,gb,gc,gd,ge,gf,ob,hk,ob,ob,rfl,rfl,rfl⟩ (ZT 9 (Yd fl)) ?_)))
 rintro m F h ⟨k,L2,ka,kb,kc,kd,ke,kf,Yf,Zj,Zp,YA,rfl,rfl,rfl⟩
 refine Y7 3 [0] (iw (Ye s.args) (ZQ ((k:Int)<(s.args.length:Int)) (fun Z9=>?_) (fun Z9=>?_)))
 ·obtain ⟨a1,ha1⟩:=Zq s.args k om
  obtain ⟨e6,e7,e8,e9,e10⟩:=Zj.len
  have hav:=hargs a1 (ZW ha1)
  have hvl:L2.vars.length=L.vars.length:=by rw [Zp]
  refine ak (aq (ab 1 (aD 18 (ZG 11 18 [0,1,2,3,4,5,6] [1,2,0] (Z8 7 (QT 7 [3] [] [] [rV ka L2.vars] (DW n L2.vars s k a1 (ha:=ha1)) CM (gS (gL (v:=ka) 0 (gS (gS gN)))) (TU QC) ?_))))))
  rintro _ _ ⟨rfl,rfl⟩
  refine Zk 9 10 [8] (db (b:=Qs n L2.vars s.op s.num a1 k) 24 (fun Ze=>?_) (fun Ze=>?_))
  ·have ZX:Qs n L2.vars s.op s.num a1 k=true:=(Iff.rfl).1 Ze
   refine ZG 5 9 [9,10,11,12] [1] (dx 13 (Zh none (k:Int) 1 (ZZ ha1)) (Zk 3 4 [14] (Z8 15 (dc 15 [3,0,2,2,2,2,2] [] [] (Dr b ka kb kc kd ke kf L2 ln a1 (hlk:=Zj.len) (hq:=(fun y hy=>⟨Zj.nn y hy,by have:=Zj.bd y hy;omega⟩))) ?_))))
   rintro _ _ (⟨wa1,wb1,wc1,wd1,we1,wf1,L'1,rfl,rfl,Yc⟩|⟨rfl,rfl,YM⟩)
   ·obtain ⟨t1,t2,t3,t4,t5,t6,t7⟩:=QG Yc
    have hk2:=Zj.take Yc
    exact Zk 0 2 [16,17] (de (Wx (ak (az (Z2 1 (ZF k (Z1 (ZI ⟨k+1,L'1,wa1,wb1,wc1,wd1,we1,wf1,ob,hk2,(t2.trans Zp),(by rw [Yn ha1,TQ,Zw ZX] at YA;simp only [Yc] at YA;exact YA),rfl,rfl,rfl⟩ (wk [7,7,0,0,0,0,0,0,0] (ZL k fl))))))))))
   exact Zk 0 2 [16,17] (de (Vh (ar (Zt (r1 [] (.inr ⟨rfl,rfl,(by rw [Qv,<-YA,Yn ha1,TQ,Zw ZX,YM])⟩))))))
  have YZ:¬(Qs n L2.vars s.op s.num a1 k=true):=YT Iff.rfl Ze
  exact Zk 0 9 [9,10,11,12,13,14,15,16,17] (de (Wx (ak (az (Z2 1 (ZF k (Z1 (ZI ⟨k+1,L2,ka,kb,kc,kd,ke,kf,ob,Zj,Zp,(by rw [Yn ha1,TQ,Zr YZ] at YA;exact YA),rfl,rfl,rfl⟩ (wk [1,1,1,0,0,0,0,0,0] (ZL k fl))))))))))
 have hT:TQ n s.op s.num s.args 0 L=some L2:=by rw [<-YA,Xz om];rfl
 obtain ⟨e6,e7,e8,e9,e10⟩:=Zj.len
 have hvl:L2.vars.length=L.vars.length:=by rw [Zp]
 refine ax 0 (Y0 (ab 2 (Y1 (fun fz gz m F h=>∃(j:Nat),(j<=s.args.length)/\(Jo n s.op s.num ln L2 (s.args.drop j) j=Jo n s.op s.num ln L2 s.args 0)/\F=sF [0,4,5] fz [(8,.i j)]/\h=gz/\m=s.args.length-j) _ _ _ ⟨0,ob,ob,rfl,rfl,rfl⟩ (ZT 9 (Yd fl)) ?_)))
 rintro m F h ⟨j,VX,Wh,rfl,rfl,rfl⟩
 refine Y7 3 [0] (iw (Ye s.args) (ZQ ((j:Int)<(s.args.length:Int)) (fun Zg=>?_) (fun Zg=>?_)))
 ·obtain ⟨a2,ha2⟩:=Zq s.args j om
  have hav:=hargs a2 (ZW ha2)
  refine ak (aq (ab 3 (Zo 3 [1,0] (Zv [] (Cj n s j) (XN [0,4,5,8] [(54,.b (VQ n s.op s.num j&&(!VV L2 ln a2)))] (fun gz=>[Za gz 2,Za gz 3,Za gz 4,Za gz 5,Za gz 6,Za gz 7,Za gz 8,Za gz 0,Za gz 1]) ?_ ?_)))))
  ·refine Z2 1 (ib (b:=VQ n s.op s.num j) 45 (fun ZU=>?_) (fun ZU=>?_))
   ·exact ZV 4 [0] (Zm (Zh none (j:Int) 1 (ZZ ha2)) (Z2 1 (Zv [2,2,2,2,2,2,2] (Dq b ka kb kc kd ke kf L2 ln a2 (hlk:=Zj.len) (hd:=Zj.down)) (Z1 (ZT 9 (ZP (!VV L2 ln a2) ZU fl))))))
   exact Z1 (wk [2,2,2,2,2,2,2,0,0] (ZP false ZU fl))
  refine ac (VQ n s.op s.num j&&(!VV L2 ln a2)) (p:=(VQ n s.op s.num j=true)/\(¬(VV L2 ln a2=true))) (Xr Iff.rfl (Xi Iff.rfl)) (fun ZK=>?_) (fun ZK=>?_)
  ·refine Y9 ?_
   have hA:Jo n s.op s.num ln L2 s.args 0=false:=by rw [<-Wh,Yn ha2,Jo,Zw ZK]
   exact ZJ (r1 [] (.inr ⟨rfl,rfl,(by rw [Qv,hT];simp only [hA];rfl)⟩))
  exact ak (az (Z2 1 (ZF j (Z1 (ZI ⟨j+1,ob,(by rw [Yn ha2,Jo,Zr ZK] at Wh;exact Wh),rfl,rfl,rfl⟩ (wk [7,7,0,0,0,0,0,0,0] (ZL j fl)))))))
 have hA:Jo n s.op s.num ln L2 s.args 0=true:=by rw [<-Wh,Xz om];rfl
 refine ax 2 (Xd (VG [0] (VJ (s.into>0) (fun Yt=>?_) (fun Yt=>?_))))
 ·obtain ⟨xt,hxt⟩:=Zq L2.tok ((s.into-1).toNat) (by have:=hinto Yt;omega)
  have hgt:=UO hxt
  refine aq (aD 13 (ZG 7 13 [0,1,2,3,4,5] [2,0] (da 6 ((s.into-1)) ((s.into)-(1)) (dx 7 (V6 8 kf L2.tok (s.into-1) ((s.into-1).toNat) (hq:=rfl)) (Vt 8 (T1 8 kf L2.tok ((s.into-1).toNat) xt hxt) (ZG 2 4 [9,10] [0] (dw 11 (Ye s.args) (Zk 0 1 [12] (de (ac (xt != (s.args.length:Int)) Xa (fun XG=>?_) (fun XG=>?_)))))))))))
  ·exact ar (Zt (r1 [] (.inr ⟨rfl,rfl,(by rw [Qv,hT];simp only [hA,↓reduceIte];rw [BO,Zw Yt,hgt,Zw XG])⟩)))
  exact ak (aE 9 (ZG 3 9 [0,1,2,3,4,5] [2,0] (da 6 ((s.into-1)) ((s.into)-(1)) (dx 7 (V6 8 kf L2.tok (s.into-1) ((s.into-1).toNat) (hq:=rfl)) (Z8 8 (Ji 8 8 [] [] kf L2.tok ((s.into-1).toNat) (-1) (de (ar (Zt (r1 [3,3,3,3,3,3,0] (.inl ⟨ka,kb,kc,kd,ke,kf,(Zy.mk L2.vars L2.own L2.par L2.con L2.fst (L2.tok.set ((s.into-1).toNat) (-1))),rfl,rfl,(by rw [Qv,hT];simp only [hA,↓reduceIte];rw [BO,Zw Yt,hgt,Zr XG])⟩) (eq:=(rc (rv (xs:=L2.vars) ob (rv (xs:=L2.own) ob (rv (xs:=L2.par) ob (rv (xs:=L2.con) ob (rv (xs:=L2.fst) ob (rv (xs:=(L2.tok.set ((s.into-1).toNat) (-1))) ob rz))))))))))))))))))
 exact ak (ar (Zt (r1 [2,2,2,2,2,2,2] (.inl ⟨ka,kb,kc,kd,ke,kf,L2,rfl,rfl,(by rw [Qv,hT];simp only [hA,↓reduceIte];rw [BO,Zr Yt])⟩))))
theorem Rb (b:Z3) (t:Int) (hz:b.sz<=1000000) (ih:∀(b2:Z3) (t:Int),(b2.sz<=1000000)->(b2.sz<b.sz)->Zf 276 [ZC b2,.i t] [] (fun r h=>∃(wr:Bool),r=.b wr/\h=[])):Zf 276 [ZC b,.i t] [] (fun r h=>∃(wr:Bool),r=.b wr/\h=[]):=by
 have Zs:=WR b
 have hbl:=QE b.steps
 have hbe:=b.sz_eq
 refine ZD 53 Tryz.func276 (ar (iA (YK b) fun b1=>?_))
 refine Z1 (Y0 (ab 0 (Y1 (fun fz gz m F h=>∃(k:Nat),(k<=b.steps.length)/\F=sF [1,2] fz [(5,.i k)]/\h=gz/\m=b.steps.length-k) _ _ _ ⟨0,ob,rfl,rfl,rfl⟩ (wk [0] (Yd fl)) ?_)))
 rintro m F h ⟨k,Yf,rfl,rfl,rfl⟩
 refine Y7 3 [0] (iw (WA b.steps) (ZQ ((k:Int)<(b.steps.length:Int)) (fun Z9=>?_) (fun Z9=>?_)))
 ·refine ak (aq (ab 1 (Y7 3 [0] ?_)))
  obtain ⟨x1,Z5⟩:=Zq b.steps k om
  have hxs:=Gq (ZW Z5)
  have hxe:=(x1).sz_eq
  have hxk:=U6 x1
  refine Zm (Zh none (k:Int) 5 (XR Z5)) (XN [1,2,5] [(30,.b ((x1.op==10)&&(x1.num==t)))] (fun gz=>gz) ?_ ?_)
  ·refine Z2 4 (ib (b:=(x1.op==10)) 21 (fun Ze=>?_) (fun Ze=>?_))
   ·exact ZV 3 [0] (Zm (Zh none (k:Int) 5 (XR Z5)) (Z1 (wk [0] (ZP (x1.num==t) Ze fl))))
   exact Z1 (wk [0] (ZP false Ze fl))
  refine ac ((x1.op==10)&&(x1.num==t)) (p:=(x1.op=10)/\(x1.num=t)) (Xr ZB ZB) (fun Zg=>?_) (fun Zg=>?_)
  ·exact ar (Zt (r1 [] ⟨true,rfl,rfl⟩))
  refine ak (Y9 (ab 2 (Y1 (fun fz gz m F h=>∃(j:Nat),(j<=x1.kids.length)/\F=sF [1,2,5] fz [(6,.i j)]/\h=gz/\m=x1.kids.length-j) _ _ _ ⟨0,ob,rfl,rfl,rfl⟩ (wk [0] (Yd fl)) ?_)))
  rintro m F h ⟨j,VX,rfl,rfl,rfl⟩
  refine Y7 4 [0] (Zm (Zh none (k:Int) 5 (XR Z5)) (Z2 2 (iw (Vi x1.kids) (ZQ ((j:Int)<(x1.kids.length:Int)) (fun ZK=>?_) (fun ZK=>?_)))))
  ·refine ak (aq (ab 3 (Zo 3 [0] (Zm (Zh none (k:Int) 5 (XR Z5)) (Z2 3 ?_)))))
   obtain ⟨x2,Zu⟩:=Zq x1.kids j om
   have hkx:=Ex (ZW Zu)
   refine Zm (Zh none (j:Int) 2 (Vu Zu)) (Z2 2 (ic [] (ih x2 t ob ob) ?_))
   rintro _ _ ⟨wr1,rfl,rfl⟩
   refine ie (ac wr1 Iff.rfl (fun Yt=>?_) (fun Yt=>?_))
   ·exact ar (Zt (r1 [] ⟨true,rfl,rfl⟩))
   exact ak (az (Z2 1 (ZF j (Z1 (ZI ⟨j+1,ob,rfl,rfl,rfl⟩ (wk [0] (ZL j fl)))))))
  exact ax 2 (az (Z2 1 (ZF k (Z1 (ZI ⟨k+1,ob,rfl,rfl,rfl⟩ (wk [0] (ZL k fl)))))))
 exact ax 0 (ar (Zt (r1 [] ⟨false,rfl,rfl⟩)))
theorem Ra (b:Z3) (t:Int) (hz:b.sz<=1000000:=by exact ob):Zf 276 [ZC b,.i t] [] (fun r h=>∃(wr:Bool),r=.b wr/\h=[]):=by
 have key:∀k:Nat,∀(b2:Z3) (t:Int),(b2.sz<=1000000)->(b2.sz<k)->Zf 276 [ZC b2,.i t] [] (fun r h=>∃(wr:Bool),r=.b wr/\h=[]):=by
  intro k
  induction k with
  | zero=>intro b2 t h1 h2;omega
  | succ k ih=>intro b2 t h1 h2;exact Rb b2 t h1 fun b3 t3 q1 q2=>ih b3 t3 q1 om
 exact key (b.sz+1) b t hz om
theorem Rt (n:Zx) (t:Int) (qz:Nat) (hn:FN n qz:=by exact ob) (hqz:qz<=100000:=by exact ob):Zf 233 [Yl n,.i t] [] (fun r h=>∃(wr:Bool),r=.b wr/\h=[]):=by
 have hnl:=hn.len
 refine ZD 21 Tryz.func233 (ar (iA (YN n) fun b1=>?_))
 refine Z1 (Y0 (ab 0 (Y1 (fun fz gz m F h=>∃(k:Nat),(k<=n.routines.length)/\F=sF [1,2] fz [(5,.i k)]/\h=gz/\m=n.routines.length-k) _ _ _ ⟨0,ob,rfl,rfl,rfl⟩ (wk [0] (Yd fl)) ?_)))
 rintro m F h ⟨k,Yf,rfl,rfl,rfl⟩
 refine Y7 3 [0] (iw (Uo n.routines) (ZQ ((k:Int)<(n.routines.length:Int)) (fun Z9=>?_) (fun Z9=>?_)))
 ·refine ak (aq (ab 1 (Zo 3 [0] ?_)))
  obtain ⟨x1,Z5⟩:=Zq n.routines k om
  have hbz:=(hn.body _ (ZW Z5)).2
  refine Zm (Zh none (k:Int) 5 (Wz Z5)) (Z2 3 (ic [] (Ra x1.body t) ?_))
  rintro _ _ ⟨wr1,rfl,rfl⟩
  refine ie (ac wr1 Iff.rfl (fun Zg=>?_) (fun Zg=>?_))
  ·exact ar (Zt (r1 [] ⟨true,rfl,rfl⟩))
  exact ak (az (Z2 1 (ZF k (Z1 (ZI ⟨k+1,ob,rfl,rfl,rfl⟩ (wk [0] (ZL k fl)))))))
 exact ax 0 (ar (Zt (r1 [] ⟨false,rfl,rfl⟩)))
theorem Ic (fs:LI) (q:Nat) (hl:fs.length<=1000000:=by exact ob) (hq:q<=1000000:=by exact ob):Zf 234 [Z6 fs,.i q] [] (fun r h=>∃(xs:LI),r=Z6 xs/\h=[]/\xs.length<=fs.length/\∀i∈xs,(q:Int)<=i/\i<(q:Int)+fs.length):=by
 refine ZD 26 Tryz.func234 (Y9 (ar (iL (Z7 []) 0 1 fun v1=>?_)))
 refine Z1 (Y0 (ab 0 (Y1 (fun fz gz m F h=>∃(k:Nat) (ys:LI) (u:Value),(k<=fs.length)/\(ys.length<=k)/\(∀i∈ys,(q:Int)<=i/\i<(q:Int)+fs.length)/\F=sF [0,1] fz [(5,ZO ys u),(6,.i k)]/\h=[.tail u 1]/\m=fs.length-k) _ _ _ ⟨0,[],v1,ob,ob,(fun i hi=>by cases hi),rfl,rfl,rfl⟩ (wk [0] (fr (Yd fl))) ?_)))
 rintro m F h ⟨k,ys,u,Yf,Zj,Zp,rfl,rfl,rfl⟩
 refine X1 2 (iw (Ye fs) (ZQ ((k:Int)<(fs.length:Int)) (fun Z9=>?_) (fun Z9=>?_)))
 ·refine ak (aq (ab 1 (Yg 2 ?_)))
  obtain ⟨x1,Z5⟩:=Zq fs k om
  refine Zm (Zh none (k:Int) 1 (ZZ Z5)) (YR (x1 != 0) Xa (fun Zg=>?_) (fun Zg=>?_))
  ·exact az (Z2 3 (ia (((q+k:Nat):Int)) (((q:Int))+((k:Int))) (iL (Z7 [((q+k:Nat):Int)]) 1 1 fun v2=>ZE 0 [(23,Z6 [((q+k:Nat):Int)])] (ip 1 (Z7 (ys++[((q+k:Nat):Int)])) (Z7 ys) (Z7 [((q+k:Nat):Int)]) u none 1 (Yw _) (Yw _) (XT _) (by simp<;>omega) (by simp [XQ,Z7]) fun v3=>Z1 (az (Z2 1 (ZF k (Z1 (ZI ⟨k+1,(ys++[((q+k:Nat):Int)]),v3,ob,ob,(Xb Zp om),rfl,rfl,rfl⟩ (wk [0] (fr (ZL k fl))))))))))))
  exact ak (az (Z2 1 (ZF k (Z1 (ZI ⟨k+1,ys,u,ob,ob,ob,rfl,rfl,rfl⟩ (wk [0] (fr (ZL k fl))))))))
 exact ax 0 (ar (Zt (r2 [] [ZO ys u] ⟨ys,rfl,rfl,⟨by omega,Zp⟩⟩ (Zd.forget _ _))))
theorem I6 (n:Zx) (qz:Nat) (hn:FN n qz:=by exact ob) (hqz:qz<=100000:=by exact ob):Zf 178 [Yl n] [] (fun r h=>∃(xs:List LI),r=B6 xs/\h=[]/\LC n n.routines.length xs):=by
 have hnl:=hn.len
 refine ZD 31 Tryz.func178 (ar (iA (YN n) fun b1=>Z1 (ar (iL (Wy []) 0 1 fun v1=>?_))))
 refine Z1 (Y0 (ab 0 (Y1 (fun fz gz m F h=>∃(k:Nat) (ys:List LI) (u:Value),(k<=n.routines.length)/\(ys.length=k)/\(LC n k ys)/\F=sF [1] fz [(3,FU ys u),(4,.i k)]/\h=[Za gz 1,.tail u 1]/\m=n.routines.length-k) _ _ _ ⟨0,[],v1,ob,ob,LC.nil,rfl,rfl,rfl⟩ (wk [1,0] (fr (Yd fl))) ?_)))
 rintro m F h ⟨k,ys,u,Yf,Zj,Zp,rfl,rfl,rfl⟩
 refine Y7 3 [0] (iw (Uo n.routines) (ZQ ((k:Int)<(n.routines.length:Int)) (fun Z9=>?_) (fun Z9=>?_)))
 ·refine ak (aq (ab 1 (Zo 2 [0] (ic [] (Rt n (k:Int) qz) ?_))))
  rintro _ _ ⟨wr1,rfl,rfl⟩
  refine ie (ac wr1 Iff.rfl (fun Zg=>?_) (fun Zg=>?_))
  ·exact az (Z2 1 (iL (Z7 []) 0 1 fun v2=>ZE 0 [(17,Z6 [])] (iL (Wy [[]]) 1 1 fun v3=>ZE 0 [(18,B6 [[]])] (ip 3 (Wy (ys++[[]])) (Wy ys) (Wy [[]]) u none 1 (AR _) (AR _) (EW _) (by simp<;>omega) (by simp [EV,Wy]) fun v4=>Z1 (az (Z2 1 (ZF k (Z1 (ZI ⟨k+1,(ys++[[]]),v4,ob,ob,(Zp.snoc (by simp) (fun r hr v hv=>by cases hv)),rfl,rfl,rfl⟩ (wk [3,0] (fr (ZL k fl))))))))))))
  refine az (ZV 4 [0] ?_)
  obtain ⟨x1,Z5⟩:=Zq n.routines k om
  have hrp:=(FN.ok hn).params_at Z5
  have hss:=(Uh.bd (f:=⟨(x1).params,(x1).result,default⟩) (hn.sigs _ (ZW Z5))).1
  refine Zm (Zh none (k:Int) 5 (Wz Z5)) (Z2 2 (ic [] (Ic x1.params 0) ?_))
  rintro _ _ ⟨xs1,rfl,rfl,ZX⟩
  have hhf:=ZX
  exact iL (Wy [xs1]) 1 1 fun v5=>ZE 0 [(28,B6 [xs1])] (ip 2 (Wy (ys++[xs1])) (Wy ys) (Wy [xs1]) u none 1 (AR _) (AR _) (EW _) (by simp<;>omega) (by simp [EV,Wy]) fun v6=>Z1 (az (Z2 1 (ZF k (Z1 (ZI ⟨k+1,(ys++[xs1]),v6,ob,ob,(Zp.snoc om (fun r hr v hv=>by rw [Z5] at hr;cases hr;have:=hhf.2 v hv;omega)),rfl,rfl,rfl⟩ (wk [2,0] (fr (ZL k fl)))))))))
 exact ax 0 (ar (Zt (r2 [] [FU ys u] ⟨ys,rfl,rfl,(by rw [show n.routines.length=k by omega];exact Zp)⟩ (Zd.forget _ _))))
theorem Re (n:Zx) (b:Z3) (t:Int) (mq:Nat) (hn:Xh n) (hf:fB n.decls n.routines.length mq b) (hz:b.sz<=1000000) (ih:∀(b2:Z3) (t:Int) (m2:Nat),(fB n.decls n.routines.length m2 b2)->(b2.sz<=1000000)->(b2.sz<b.sz)->Zf 235 [Yl n,ZC b2,.i t] [] (fun r h=>∃(wr:Bool),r=.b wr/\h=[])):Zf 235 [Yl n,ZC b,.i t] [] (fun r h=>∃(wr:Bool),r=.b wr/\h=[]):=by
 have hbl:=QE b.steps
 have hbe:=b.sz_eq
 refine ZD 68 Tryz.func235 (ar (iA (YN n) fun b1=>iA (YK b) fun b2=>Z1 (Xd (VG [0] (ac (b.result==t) ZB (fun Z9=>?_) (fun Z9=>?_))))))
 ·exact ar (Zt (r1 [] ⟨true,rfl,rfl⟩))
 refine ak (Y0 (ab 0 (Y1 (fun fz gz m F h=>∃(k:Nat),(k<=b.steps.length)/\F=sF [2,3,4] fz [(7,.i k)]/\h=gz/\m=b.steps.length-k) _ _ _ ⟨0,ob,rfl,rfl,rfl⟩ (wk [0,0] (Yd fl)) ?_)))
 rintro m F h ⟨k,Yf,rfl,rfl,rfl⟩
 refine Y7 3 [0] (iw (WA b.steps) (ZQ ((k:Int)<(b.steps.length:Int)) (fun Zg=>?_) (fun Zg=>?_)))
 ·refine ak (aq (ab 1 (Zo 3 [0] ?_)))
  obtain ⟨x1,Z5⟩:=Zq b.steps k om
  have hfs:=(CZ x1).1 (BI ((BG b).1 hf).1 Z5)
  have hxs:=Gq (ZW Z5)
  have hxe:=(x1).sz_eq
  have hxk:=U6 x1
  refine Zm (Zh none (k:Int) 5 (XR Z5)) (Z2 1 (iA [.i 0,.i 0,.i 0,nl,nl] fun b3=>?_))
  refine ZA 0 b3 (Xg x1) (ie (Y0 (ab 2 (Y1 (fun fz gz m F h=>∃(j:Nat),(j<=x1.args.length)/\F=sF [2,3,4,7,8] fz [(9,.i j)]/\h=gz/\m=x1.args.length-j) _ _ _ ⟨0,ob,rfl,rfl,rfl⟩ (ZT 3 (Yd fl)) ?_))))
  rintro m F h ⟨j,VX,rfl,rfl,rfl⟩
  refine Y7 3 [0] (iw (Ye x1.args) (ZQ ((j:Int)<(x1.args.length:Int)) (fun ZK=>?_) (fun ZK=>?_)))
  ·refine ak (aq (ab 3 (Zo 3 [0] ?_)))
   obtain ⟨x2,Zu⟩:=Zq x1.args j om
   refine Zm (Zh none (j:Int) 1 (ZZ Zu)) (Vc 12 [2,3,4,7,8,9] [(45,.b ((x2==t)&&QR x1.op))] (fun gz=>gz) ?_ (fun hj1=>?_))
   ·refine XN [2,3,4,7,8,9] [(52,.b (((x2==t)&&QR x1.op)&&(!VQ n x1.op x1.num j)))] (fun gz=>gz) ?_ ?_
    ·refine Z2 1 (ib (b:=((x2==t)&&QR x1.op)) 46 (fun Ze=>?_) (fun Ze=>?_))
     ·exact ZV 3 [2,0] (Zv [] (Cj n x1 j (hnum:=hfs.call)) (Z1 (ZT 3 (ZP (!VQ n x1.op x1.num j) Ze fl))))
     exact Z1 (ZT 3 (ZP false Ze fl))
    refine ac (((x2==t)&&QR x1.op)&&(!VQ n x1.op x1.num j)) (p:=((x2=t)/\(QR x1.op=true))/\(¬(VQ n x1.op x1.num j=true))) (Xr (Xr ZB Iff.rfl) (Xi Iff.rfl)) (fun Yt=>?_) (fun Yt=>?_)
    ·exact ar (Zt (r1 [] ⟨true,rfl,rfl⟩))
    exact ak (az (Z2 1 (ZF j (Z1 (ZI ⟨j+1,ob,rfl,rfl,rfl⟩ (ZT 3 (ZL j fl)))))))
   refine Z2 4 (ib (b:=(x2==t)) 41 (fun ZU=>?_) (fun ZU=>?_))
   ·exact ZV 2 [0] (Zv [] (MG x1.op) (Z2 1 (Xy (ZT 3 (ZP (QR x1.op) ZU fl)) hj1)))
   exact Z2 4 (Xy (ZT 3 (ZP false ZU fl)) hj1)
  refine ax 2 (Y9 (ab 4 (Y1 (fun fz gz m F h=>∃(j:Nat),(j<=x1.kids.length)/\F=sF [2,3,4,7,8] fz [(10,.i j)]/\h=gz/\m=x1.kids.length-j) _ _ _ ⟨0,ob,rfl,rfl,rfl⟩ (ZT 3 (Yd fl)) ?_)))
  rintro m F h ⟨j,Om,rfl,rfl,rfl⟩
  refine Y7 3 [0] (iw (Vi x1.kids) (ZQ ((j:Int)<(x1.kids.length:Int)) (fun XG=>?_) (fun XG=>?_)))
  ·refine ak (aq (ab 5 (aD 8 (ZG 4 8 [0,1,2,3] [2,0] ?_))))
   obtain ⟨x3,X0⟩:=Zq x1.kids j om
   have hkx:=Ex (ZW X0)
   have hfk:=BH hfs.kids X0
   refine dx 4 (Zh none (j:Int) 2 (Vu X0)) (Zk 1 3 [5,6] (Z8 7 (dc 7 [] [] [] (ih x3 t (VH n.decls x1.op x1.num (mq+YI (b.steps.take k)) (0+j)) hfk ob ob) ?_)))
   rintro _ _ ⟨wr1,rfl,rfl⟩
   refine de (ac wr1 Iff.rfl (fun XH=>?_) (fun XH=>?_))
   ·exact ar (Zt (r1 [] ⟨true,rfl,rfl⟩))
   exact ak (az (Z2 1 (ZF j (Z1 (ZI ⟨j+1,ob,rfl,rfl,rfl⟩ (ZT 3 (ZL j fl)))))))
  exact ax 4 (az (Z2 1 (ZF k (Z1 (ZI ⟨k+1,ob,rfl,rfl,rfl⟩ (wk [1,1] (ZL k fl)))))))
 exact ax 0 (ar (Zt (r1 [] ⟨false,rfl,rfl⟩)))
theorem Rd (n:Zx) (b:Z3) (t:Int) (mq:Nat) (hn:Xh n:=by exact ob) (hf:fB n.decls n.routines.length mq b:=by exact ob) (hz:b.sz<=1000000:=by exact ob):Zf 235 [Yl n,ZC b,.i t] [] (fun r h=>∃(wr:Bool),r=.b wr/\h=[]):=by
 have key:∀k:Nat,∀(b2:Z3) (t:Int) (m2:Nat),(fB n.decls n.routines.length m2 b2)->(b2.sz<=1000000)->(b2.sz<k)->Zf 235 [Yl n,ZC b2,.i t] [] (fun r h=>∃(wr:Bool),r=.b wr/\h=[]):=by
  intro k
  induction k with
  | zero=>intro b2 t m2 h1 h2 h3;omega
  | succ k ih=>intro b2 t m2 h1 h2 h3;exact Re n b2 t m2 hn h1 h2 fun b3 t3 m3 q1 q2 q3=>ih b3 t3 m3 q1 q2 om
 exact key (b.sz+1) b t mq hf hz om
theorem Ru (n:Zx) (rt:Y8) (i:Nat) (qz:Nat) (hn:FN n qz:=by exact ob) (hqz:qz<=100000:=by exact ob) (hr:n.routines[i]? = some rt:=by exact ob):Zf 179 [Yl n,.i i] [] (fun r h=>∃(xs:LI),r=Z6 xs/\h=[]/\xs.length<=rt.lent.length/\∀v∈xs,v∈rt.lent):=by
 have hok:=FN.ok hn
 have hrl:=hn.lent rt (ZW hr)
 have hrb:=hn.body rt (ZW hr)
 obtain ⟨hil,_⟩:=XC.1 hr
 have hnl:=hn.len
 refine ZD 50 Tryz.func179 (ar (iA (YN n) fun b1=>Z1 (ar (iL (Z7 []) 0 1 fun v1=>?_))))
 refine Z1 (Y0 (ab 0 (Y1 (fun fz gz m F h=>∃(k:Nat) (ys:LI) (u:Value),(k<=rt.lent.length)/\(ys.length<=k)/\(∀v∈ys,v∈rt.lent)/\F=sF [1,2] fz [(5,ZO ys u),(6,.i k)]/\h=[Za gz 1,.tail u 1]/\m=rt.lent.length-k) _ _ _ ⟨0,[],v1,ob,ob,(fun v hv=>by cases hv),rfl,rfl,rfl⟩ (wk [1,0] (fr (Yd fl))) ?_)))
 rintro m F h ⟨k,ys,u,Yf,Zj,Zp,rfl,rfl,rfl⟩
 refine Y7 4 [0] (Zm (Zh none (i:Int) 5 (Wz hr)) (Z2 2 (iw (Ye rt.lent) (ZQ ((k:Int)<(rt.lent.length:Int)) (fun Z9=>?_) (fun Z9=>?_)))))
 ·refine ak (aq (ab 1 (aD 18 (ZG 14 18 [0,1,2,3] [0,0] (dx 4 (Zh none (i:Int) 5 (Wz hr)) (ZG 8 13 [5,6,7,8,9] [0] (dx 10 (Zh none (i:Int) 5 (Wz hr)) (Zk 4 7 [11,12,13] ?_))))))))
  obtain ⟨x1,Z5⟩:=Zq rt.lent k om
  refine dx 14 (Zh none (k:Int) 1 (ZZ Z5)) (Zk 2 3 [15] (Z8 16 (dc 16 [] [] [] (Rd n rt.body x1 rt.params.length (hn:=hok) (hf:=hrb.1)) ?_)))
  rintro _ _ ⟨wr1,rfl,rfl⟩
  refine Zk 0 1 [17] (de (ac (!wr1) (p:=¬(wr1=true)) (Xi Iff.rfl) (fun Zg=>?_) (fun Zg=>?_)))
  ·exact az (ZV 4 [0] (Zm (Zh none (i:Int) 5 (Wz hr)) (Z2 3 (Zm (Zh none (k:Int) 1 (ZZ Z5)) (Z2 1 (iL (Z7 [x1]) 1 1 fun v2=>ZE 0 [(47,Z6 [x1])] (ip 2 (Z7 (ys++[x1])) (Z7 ys) (Z7 [x1]) u none 1 (Yw _) (Yw _) (XT _) (by simp<;>omega) (by simp [XQ,Z7]) fun v3=>Z1 (az (Z2 1 (ZF k (Z1 (ZI ⟨k+1,(ys++[x1]),v3,ob,ob,(Xb Zp (ZW Z5)),rfl,rfl,rfl⟩ (wk [2,0] (fr (ZL k fl)))))))))))))))
  exact ak (az (Z2 1 (ZF k (Z1 (ZI ⟨k+1,ys,u,ob,ob,ob,rfl,rfl,rfl⟩ (wk [0,0] (fr (ZL k fl))))))))
 exact ax 0 (ar (Zt (r2 [] [ZO ys u] ⟨ys,rfl,rfl,⟨by omega,Zp⟩⟩ (Zd.forget _ _))))
theorem Z3r (s:Z4) (ih:∀(b2:Z3),(b2.sz<s.sz)->(b2.sz<=1000000000)->Zf 97 [ZC b2] [] (Yu (ZC b2))) (hz:s.sz<=1000000000):Zf 139 [Yp s] [] (Yu (Yp s)):=by
 have hkz:=U6 s
 have haz:=T7 s
 refine ZD 33 Tryz.func139 (ar (iA (Xg s) fun b1=>iA [.i 0,.i 0,.i 0,nl,nl] fun b2=>ie (ar (iL (Ys []) 0 2 fun v1=>?_))))
 refine Z1 (Y0 (ab 0 (Y1 (fun fz gz m F h=>∃(k:Nat) (v:Value),(k<=s.kids.length)/\F=sF [1,2] fz [(3,U7 (s.kids.take k) v),(4,.i k)]/\h=[Za gz 1,Za gz 2,.tail v 2]/\m=s.kids.length-k) _ _ _ ⟨0,v1,ob,rfl,rfl,rfl⟩ (wk [1,1,0] (fc (x:=U7 [] v1) (Zd.slh _ (Yr Ys rfl)) (Yd fl))) ?_)))
 rintro m F h ⟨k,v,Yf,rfl,rfl,rfl⟩
 refine Y7 3 [1] (iw (Vi s.kids) (ZQ ((k:Int)<(s.kids.length:Int)) (fun Z9=>?_) (fun Z9=>?_)))
 ·refine ak (aq (ab 1 (az (ZV 4 [1] ?_))))
  obtain ⟨x1,Z5⟩:=Zq s.kids k om
  have hks:=VP Z5
  exact Zm (Zh none (k:Int) 2 (Vu Z5)) (Z2 1 (Zv [] (ih x1 ob ob) (iL [ZC x1] 1 2 fun v2=>ZE 0 [(20,.sl [ZC x1] none)] (ip 3 (Ys (s.kids.take (k+1))) (Ys (s.kids.take k)) [ZC x1] v none 2 (Uz _) (Tg rfl) rfl (by simp<;>omega) (by rw [Vq Z5];simp [VY]) fun v3=>Z1 (az (Z2 1 (ZF k (Z1 (ZI ⟨k+1,v3,ob,rfl,rfl,rfl⟩ (wk [2,2,0] (fr (ZL k fl))))))))))))
 refine ax 0 (aD 12 (ZG 3 12 [0,1,2,3,4,5,6,7,9] [1,1,1,1] (Z8 8 (dc 8 [] [1,1,1] [b1,b1,b1] (Vp s.args) ?_))))
 rintro _ _ ⟨v4,rfl,rfl⟩
 exact Zk 1 2 [10] (Z8 11 (Yy 11 1 [] [] b2 [.i s.op,.i s.num,.i s.into,ZO s.args v4,U7 (s.kids.take k) v] (de (ZJ (r3 [] [.agg [.i s.op,.i s.num,.i s.into,ZO s.args v4,U7 (s.kids.take k) v]] [0] [(b2,b2)] ⟨rfl,rfl⟩ (Zd.agg (.cons (lr _) (.cons (lr _) (.cons (lr _) (.cons (Zd.forget _ _) (.cons (Zd.sl _ (Yr Ys (by rw [WS om]))) .nil)))))))))))
theorem Z3q (b:Z3) (ih:∀(s2:Z4),(s2.sz<b.sz)->(s2.sz<=1000000000)->Zf 139 [Yp s2] [] (Yu (Yp s2))) (hz:b.sz<=1000000000):Zf 97 [ZC b] [] (Yu (ZC b)):=by
 have hbz:=WR b
 refine ZD 28 Tryz.func97 (ar (iA (YK b) fun b1=>iA [nl,.i 0] fun b2=>ie (ar (iL (Zi []) 0 5 fun v1=>ZV 3 [2] (iA [nl,.i 0] fun b3=>?_)))))
 refine ZA 0 b3 [YG [] v1,.i b.result] (ie (Y0 (ab 0 (Y1 (fun fz gz m F h=>∃(k:Nat) (v:Value),(k<=b.steps.length)/\F=sF [1,2,3] fz [(4,.i k)]/\h=[.obj b3 [YG (b.steps.take k) v,.i b.result],Za gz 2,Za gz 3,.tail v 5]/\m=b.steps.length-k) _ _ _ ⟨0,v1,ob,rfl,rfl,rfl⟩ (wk [0,1,1,0] (Yd fl)) ?_))))
 rintro m F h ⟨k,v,Yf,rfl,rfl,rfl⟩
 refine Y7 3 [2] (iw (WA b.steps) (ZQ ((k:Int)<(b.steps.length:Int)) (fun Z9=>?_) (fun Z9=>?_)))
 ·refine ak (aq (ab 1 (aE 12 (ZG 7 12 [0,1,2,3,4] [0,2] ?_))))
  obtain ⟨x1,Z5⟩:=Zq b.steps k om
  have hss:=TH Z5
  exact dx 5 (Zh none (k:Int) 5 (XR Z5)) (Zk 5 6 [6] (Z8 7 (Yo 7 [] [0] [b3] (ih x1 ob ob) (Z8 8 (dL 8 [0] [b3] [Yp x1] 1 5 fun v2=>Yh 3 3 [] [(24,.sl [Yp x1] none)] (Z8 9 (dp 9 4 [] [] (Zi (b.steps.take (k+1))) (Zi (b.steps.take k)) [Yp x1] v none 5 (YX _) (Tg rfl) rfl (by simp<;>omega) (by rw [Vq Z5];simp [WM]) fun v3=>Zk 1 2 [10] (Z8 11 (Yy 11 2 [] [] b3 [YG (b.steps.take (k+1)) v3,.i b.result] (de (az (Z2 1 (ZF k (Z1 (ZI ⟨k+1,v3,ob,rfl,rfl,rfl⟩ (wk [0,2,2,0] (ZL k fl)))))))))))))))))
 exact ax 0 (Zo 1 [0] (ZA 1 b2 [YG (b.steps.take k) v,.i b.result] (ie (ZJ (r3 [] [.agg [YG (b.steps.take k) v,.i b.result]] [0] [(b2,b2)] ⟨rfl,rfl⟩ (Zd.agg (.cons (Zd.sl _ (Yr Zi (by rw [WS om]))) (.cons (lr _) .nil))))))))
theorem MI (k:Nat):(∀(s:Z4),(s.sz<=k)->(s.sz<=1000000000)->Zf 139 [Yp s] [] (Yu (Yp s)))/\(∀(b:Z3),(b.sz<=k)->(b.sz<=1000000000)->Zf 97 [ZC b] [] (Yu (ZC b))):=by
 induction k with
 | zero=>exact ⟨fun s h=>by have:=s.sz_pos;omega,fun s h=>by have:=s.sz_pos;omega⟩
 | succ k ih=>exact ⟨fun s h hz=>Z3r s (fun b2 h2 h3=>ih.2 b2 om h3) hz,fun b h hz=>Z3q b (fun s2 h2 h3=>ih.1 s2 om h3) hz⟩
theorem MH (s:Z4) (hz:s.sz<=1000000000:=by exact ob):Zf 139 [Yp s] [] (Yu (Yp s)):=(MI s.sz).1 s (YQ _) hz
theorem DV (b:Z3) (hz:b.sz<=1000000000:=by exact ob):Zf 97 [ZC b] [] (Yu (ZC b)):=(MI b.sz).2 b (YQ _) hz
theorem Db (n:Zx) (ls:List LI) (qz:Nat) (hn:FO n qz Wc:=by exact ob) (hqz:qz<=100000:=by exact ob) (hls:LC n n.routines.length ls:=by exact ob):Zf 57 [Yl n,B6 ls] [] (fun r h=>∃(n2:Zx),r=Yl n2/\h=[]/\FO n2 qz Wc/\n2.routines.length=n.routines.length):=by
 have hnl:=hn.fn.len
 have XB:=hn.fn.decls.ok
 have hll:=hls.len
 refine ZD 45 Tryz.func57 (ar (iA (YN n) fun b1=>iA [nl,nl] fun b2=>ie (Zo 2 [1] (Zv [] (Ar n.decls) (iL (Yx []) 0 5 fun v1=>Z2 1 (iA [nl,nl] fun b3=>?_))))))
 refine ZA 0 b3 [YL n.decls,W6 [] v1] (ie (Y0 (ab 0 (Y1 (fun fz gz m F h=>∃(k:Nat) (rs:List Y8) (u:Value),(k<=n.routines.length)/\(rs.length=k)/\(∀r∈rs,RF n.decls n.routines.length qz Wc r)/\F=sF [1,2,4,5] fz [(6,.i k)]/\h=[.obj b3 [YL n.decls,W6 rs u],Za gz 2,Za gz 3,.tail u 5]/\m=n.routines.length-k) _ _ _ ⟨0,[],v1,ob,ob,(fun r hr=>by cases hr),rfl,rfl,rfl⟩ (wk [0,1,1,0] (Yd fl)) ?_))))
 rintro m F h ⟨k,rs,u,Yf,Zj,Zp,rfl,rfl,rfl⟩
 refine Y7 3 [2] (iw (Uo n.routines) (ZQ ((k:Int)<(n.routines.length:Int)) (fun Z9=>?_) (fun Z9=>?_)))
 ·refine ak (aq (ab 1 (Zo 3 [2] ?_)))
  obtain ⟨x1,Z5⟩:=Zq n.routines k om
  have hrf:=hn.rf (ZW Z5)
  have hrp:=hn.fn.ok.params_at Z5
  have hrz:=hrf.body.2
  refine Zm (Zh none (k:Int) 5 (Wz Z5)) (Z2 1 (iA [nl,nl,.i 0,nl,.i 0] fun b4=>ZA 0 b4 (K1 x1) (ie (aE 20 (ZG 14 20 [0,1,2,3,5,6] [1,0] ?_)))))
  obtain ⟨x2,Zu⟩:=Zq ls k om
  have hlc:=hls.at Zu Z5
  refine dx 7 (Zh none (k:Int) 1 (Ps Zu)) (ZG 8 13 [8,10,11,12,13] [0,0] (Z8 4 (dc 4 [] [0,0,1] [b4,b4,b3] (Vp x1.params) ?_)))
  rintro _ _ ⟨v2,rfl,rfl⟩
  refine Z8 9 (dc 9 [] [0,0,1] [b4,b4,b3] (Vp x2) ?_)
  rintro _ _ ⟨v3,rfl,rfl⟩
  exact Z8 14 (Yo 14 [] [0,1] [b4,b3] (DV x1.body) (Yh 4 5 [15] [(40,.agg [Z6 x1.params,Z6 x2,.i x1.result,Wo x1.body.steps,.i x1.body.result])] (Z8 16 (dL 16 [1] [b3] (Yx [Y8.mk x1.params x2 x1.result (Z3.mk x1.body.steps x1.body.result)]) 1 5 fun v4=>Yh 3 3 [] [(41,TV [Y8.mk x1.params x2 x1.result (Z3.mk x1.body.steps x1.body.result)])] (Z8 17 (dp 17 7 [] [] (Yx (rs++[Y8.mk x1.params x2 x1.result (Z3.mk x1.body.steps x1.body.result)])) (Yx rs) (Yx [Y8.mk x1.params x2 x1.result (Z3.mk x1.body.steps x1.body.result)]) u none 5 (VN _) (VN _) (Jk _) (by simp<;>omega) (by simp [A1,Yx]) fun v5=>Zk 1 2 [18] (Z8 19 (Yy 19 5 [] [] b3 [YL n.decls,W6 (rs++[Y8.mk x1.params x2 x1.result (Z3.mk x1.body.steps x1.body.result)]) v5] (de (az (Z2 1 (ZF k (Z1 (ZI ⟨k+1,(rs++[Y8.mk x1.params x2 x1.result (Z3.mk x1.body.steps x1.body.result)]),v5,ob,ob,(Xb Zp (by rw [Z3.eta];exact hrf.lend hlc.1 hlc.2)),rfl,rfl,rfl⟩ (wk [0,5,5,0] (ZL k fl))))))))))))))))
 exact ax 0 (Zo 1 [0] (ZA 1 b2 [YL n.decls,W6 rs u] (ie (ZJ (r3 [] [.agg [YL n.decls,W6 rs u]] [0] [(b2,b2)] ⟨(Zx.mk n.decls rs),rfl,rfl,(FO.fin hn.fn om Zp)⟩ (Zd.agg (.cons (lr _) (.cons (Zd.forget _ _) .nil))))))))
theorem RC (n:Zx) (qz:Nat) (hn:FO n qz Wc:=by exact ob) (hqz:qz<=100000:=by exact ob):Zf 135 [Yl n] [] (fun r h=>∃(n2:Zx),r=Yl n2/\h=[]/\FO n2 qz Wc):=by
 refine ZD 33 Tryz.func135 (ar (iA (YN n) fun b1=>iA [nl,nl] fun b2=>?_))
 refine ie (aD 6 (ZG 4 6 [0,1] [1,1] (Kx (fun fz gz F h=>∃(n21:Zx) (b3:Nat) (xs1:List LI),(LC n n.routines.length xs1)/\(FO n21 qz Wc/\n21.routines.length=n.routines.length)/\F=sF [2] fz [(3,.p b3 0)]/\h=[.obj b3 (YN n21),Za gz 0,Za gz 1]) ?_ ?_)))
 ·refine WT 2 4 ?_ ?_
  ·refine dc 2 [] [1] [b1] (I6 n qz (hn:=hn.fn)) ?_
   rintro _ _ ⟨xs1,rfl,rfl,ZX⟩
   refine WT 3 4 ?_ ?_
   ·refine dc 3 [] [] [] (Db n xs1 qz (hls:=(by first|assumption|(rw [<-hjl];exact Wh)))) ?_
    rintro _ _ ⟨n21,rfl,rfl,Yc⟩
    have hwl:=Yc
    exact Z8 4 (dA 4 [] [] [nl,nl] fun b3=>Z8 5 (Yy 5 0 [] [] b3 (YN n21) (de (ZH ⟨_,b3,_,(by assumption),(by assumption),rfl,rfl⟩ (ZT 3 fl)))))
   refine dA 4 [1] [b1] [nl,nl] fun b4=>Z8 3 (dc 3 [] [] [] (Db n xs1 qz (hls:=(by first|assumption|(rw [<-hjl];exact Wh)))) ?_)
   rintro _ _ ⟨n22,rfl,rfl,YM⟩
   have hwl:=YM
   exact Z8 5 (Yy 5 0 [] [] b4 (YN n22) (de (ZH ⟨_,b4,_,(by assumption),(by assumption),rfl,rfl⟩ (ZT 3 fl))))
  refine dA 4 [1,1] [b1,b1] [nl,nl] fun b5=>Z8 2 (dc 2 [] [2] [b1] (I6 n qz (hn:=hn.fn)) ?_)
  rintro _ _ ⟨xs2,rfl,rfl,YZ⟩
  refine Z8 3 (dc 3 [] [] [] (Db n xs2 qz (hls:=(by first|assumption|(rw [<-hjl];exact Wh)))) ?_)
  rintro _ _ ⟨n23,rfl,rfl,X7⟩
  have hwl:=X7
  exact Z8 5 (Yy 5 0 [] [] b5 (YN n23) (de (ZH ⟨_,b5,_,(by assumption),(by assumption),rfl,rfl⟩ (ZT 3 fl))))
 rintro F h ⟨n21,b3,xs1,ZX,Yc,rfl,rfl⟩
 have hwl:=Yc
 refine Y0 (ab 0 (Y1 (fun fz gz m F h=>∃(k:Nat) (nn:Zx),(k<=13)/\(FO nn qz Wc)/\F=sF [2,3] fz [(4,.i k)]/\h=[.obj b3 (YN nn),Za gz 1]/\m=13-k) _ _ _ ⟨0,n21,ob,hwl.1,rfl,rfl,rfl⟩ (wk [0,0] (Yd fl)) ?_))
 rintro m F h ⟨k,nn,Yf,Zj,rfl,rfl,rfl⟩
 refine Xd (ZQ ((k:Int)<=12) (fun Z9=>?_) (fun Z9=>?_))
 ·refine ak (aq (ab 1 (ar (iL (Wy []) 0 1 fun v1=>?_))))
  refine Z1 (Y0 (ab 2 (Y1 (fun fz gz m F h=>∃(j:Nat) (ls:List LI) (u:Value),(j<=nn.routines.length)/\(LC nn j ls)/\(ls.length=j)/\F=sF [2,3,4] fz [(5,FU ls u),(6,.i j)]/\h=[Za gz 1,Za gz 2,.tail u 1]/\m=nn.routines.length-j) _ _ _ ⟨0,[],v1,ob,LC.nil,ob,rfl,rfl,rfl⟩ (wk [1,1,0] (fr (Yd fl))) ?_)))
  rintro m F h ⟨j,ls,u,VX,Wh,Xm,rfl,rfl,rfl⟩
  refine Y7 3 [0] (iw (Uo nn.routines) (ZQ ((j:Int)<(nn.routines.length:Int)) (fun Zg=>?_) (fun Zg=>?_)))
  ·obtain ⟨rt,hrt⟩:=Zq nn.routines j om
   have hrl:=(Zj.rf (ZW hrt)).lent
   have hnl4:=Zj.fn.len
   refine ak (aq (ab 3 (az (ZV 3 [0] (ic [] (Ru nn rt j qz (hn:=Zj.fn) (hr:=hrt)) ?_)))))
   rintro _ _ ⟨xs3,rfl,rfl,XX⟩
   have hkl:=XX
   exact iL (Wy [xs3]) 1 1 fun v2=>ZE 0 [(27,B6 [xs3])] (ip 3 (Wy (ls++[xs3])) (Wy ls) (Wy [xs3]) u none 1 (AR _) (AR _) (EW _) (by simp<;>omega) (by simp [EV,Wy]) fun v3=>Z1 (az (Z2 1 (ZF j (Z1 (ZI ⟨j+1,(ls++[xs3]),v3,ob,(Wh.snoc om (fun r hr v hv=>by rw [hrt] at hr;cases hr;exact hrl.2 v (hkl.2 v hv))),ob,rfl,rfl,rfl⟩ (wk [2,2,0] (fr (ZL j fl)))))))))
  have hjl:j=nn.routines.length:=by omega
  refine ax 2 (az (TW 2 [(30,B6 ls)] [0] (ic [] (Db nn ls qz (hls:=(by first|assumption|(rw [<-hjl];exact Wh)))) ?_)))
  rintro _ _ ⟨n24,rfl,rfl,Wu⟩
  have hwl:=Wu
  exact ZA 0 b3 (YN n24) (ie (az (Z2 1 (ZF k (Z1 (ZI ⟨k+1,n24,ob,hwl.1,rfl,rfl,rfl⟩ (wk [0,0] (ZL k fl))))))))
 exact ax 0 (Zo 1 [0] (ZA 1 b2 (YN nn) (ie (ZJ (r3 [] [Yl nn] [0] [(b2,b2)] ⟨nn,rfl,rfl,(by first|exact Zj|exact hwl.1)⟩ (lr _))))))
end Go.Abs
